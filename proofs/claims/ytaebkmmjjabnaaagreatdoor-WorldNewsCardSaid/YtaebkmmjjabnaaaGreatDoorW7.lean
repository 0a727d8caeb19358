import Derived.Test.YtaebkmmjjabnaaaGreatDoorW6
import Derived.Test.YtaebkmmjjabnaaaGreatDoorProg
set_option maxRecDepth 100000
set_option maxHeartbeats 4000000
set_option linter.unusedSimpArgs false
set_option linter.unusedVariables false
namespace Go.Ab
open Go
noncomputable abbrev PP:Program:=Go.Proofs.Tryz.prog
theorem ty22:tdOf PP 22=some ⟨1,false,.int .u32,[.int .u32 0],false⟩:=by kernel_rfl
theorem ty25:tdOf PP 25=some ⟨1,false,.slice 22 1 4,[.sl [] .nil],false⟩:=by kernel_rfl
theorem ty29:tdOf PP 29=some ⟨1,false,.slice 121 4 40,[.sl [] .nil],false⟩:=by kernel_rfl
theorem ty32:tdOf PP 32=some ⟨1,false,.slice 105 2 32,[.sl [] .nil],false⟩:=by kernel_rfl
theorem ty33:tdOf PP 33=some ⟨1,false,.slice 25 1 24,[.sl [] .nil],false⟩:=by kernel_rfl
theorem ty36:tdOf PP 36=some ⟨1,false,.slice 65 6 72,[.sl [] .nil],false⟩:=by kernel_rfl
theorem ty37:tdOf PP 37=some ⟨1,false,.slice 76 10 56,[.sl [] .nil],false⟩:=by kernel_rfl
theorem ty38:tdOf PP 38=some ⟨1,false,.slice 96 2 8,[.sl [] .nil],false⟩:=by kernel_rfl
theorem ty63:tdOf PP 63=some ⟨1,false,.slice 85 9 48,[.sl [] .nil],false⟩:=by kernel_rfl
theorem ty76:tdOf PP 76=some ⟨10,true,.struct [(0,1,false),(1,1,false),(2,1,false),(3,1,false),(4,1,false),(5,1,false),(6,1,false),(7,1,false),(8,1,false),(9,1,false)],[.int .i64 0,.int .i64 0,.int .i64 0,.int .u32 0,.int .u32 0,.int .u32 0,.int .u32 0,.int .u32 0,.int .u32 0,.int .u32 0],true⟩:=by kernel_rfl
theorem ty85:tdOf PP 85=some ⟨9,true,.struct [(0,1,false),(1,1,false),(2,1,false),(3,1,false),(4,1,false),(5,1,false),(6,1,false),(7,1,false),(8,1,false)],[.int .i64 0,.int .i64 0,.int .u32 0,.int .u32 0,.int .u32 0,.int .u32 0,.int .u32 0,.int .u32 0,.int .i64 0],true⟩:=by kernel_rfl
theorem ty96:tdOf PP 96=some ⟨2,true,.struct [(0,1,false),(1,1,false)],[.int .u32 0,.int .u32 0],true⟩:=by kernel_rfl
theorem ty121:tdOf PP 121=some ⟨4,true,.struct [(0,1,false),(1,1,false),(2,1,false),(3,1,false)],[.int .u32 0,.int .u32 0,.int .u32 0,.sl [] .nil],false⟩:=by kernel_rfl
theorem tys:((((((((tdOf PP 1=some ⟨1,false,.other,[.val .nilFunc],false⟩∧(tdOf PP 2=some ⟨1,false,.int .i64,[.int .i64 0],false⟩∧tdOf PP 3=some ⟨1,false,.int .i64,[.int .i64 0],false⟩)) ∧
 ((tdOf PP 4=some ⟨1,false,.bool,[.bool false],false⟩∧tdOf PP 5=some ⟨1,false,.int .u8,[.int .u8 0],false⟩) ∧
 (tdOf PP 6=some ⟨1,false,.int .u8,[.int .u8 0],false⟩∧tdOf PP 7=some ⟨4,true,.struct [(0,1,false),(1,1,false),(2,1,false),(3,1,false)],[.int .i64 0,.int .i64 0,.bool false,.int .u8 0],false⟩))) ∧
 (((tdOf PP 8=some ⟨4,true,.struct [(0,1,false),(1,1,false),(2,1,false),(3,1,false)],[.int .i64 0,.int .i64 0,.bool false,.int .u8 0],false⟩∧tdOf PP 9=some ⟨1,false,.str,[.val (.string ⟨#[]⟩)],false⟩) ∧
 (tdOf PP 10=some ⟨1,false,.str,[.val (.string ⟨#[]⟩)],false⟩∧tdOf PP 11=some ⟨1,false,.str,[.val (.string ⟨#[]⟩)],false⟩)) ∧
 ((tdOf PP 12=some ⟨1,false,.int .u64,[.int .u64 0],false⟩∧tdOf PP 13=some ⟨2,true,.struct [(0,1,false),(1,1,false)],[.val (.string ⟨#[]⟩),.int .u64 0],false⟩) ∧
 (tdOf PP 14=some ⟨2,true,.struct [(0,1,false),(1,1,false)],[.val (.string ⟨#[]⟩),.int .u64 0],false⟩∧tdOf PP 15=some ⟨1,false,.other,[.val (.pointer none)],false⟩)))) ∧
 ((((tdOf PP 16=some ⟨1,false,.other,[.val (.pointer none)],false⟩∧tdOf PP 17=some ⟨1,false,.other,[.val (.pointer none)],false⟩) ∧
 (tdOf PP 18=some ⟨1,true,.struct [(0,1,false)],[.val (.pointer none)],false⟩∧tdOf PP 19=some ⟨1,true,.struct [(0,1,false)],[.val (.pointer none)],false⟩)) ∧
 ((tdOf PP 20=some ⟨1,false,.other,[.val .nilIface],false⟩∧tdOf PP 21=some ⟨1,false,.int .i32,[.int .i32 0],false⟩) ∧
 (tdOf PP 22=some ⟨1,false,.int .u32,[.int .u32 0],false⟩∧tdOf PP 23=some ⟨7,true,.struct [(0,1,false),(1,1,false),(2,1,false),(3,1,false),(4,1,false),(5,1,false),(6,1,false)],[.int .u32 0,.int .i64 0,.int .i64 0,.int .i64 0,.int .i64 0,.int .i64 0,.int .i64 0],true⟩))) ∧
 (((tdOf PP 24=some ⟨7,true,.struct [(0,1,false),(1,1,false),(2,1,false),(3,1,false),(4,1,false),(5,1,false),(6,1,false)],[.int .u32 0,.int .i64 0,.int .i64 0,.int .i64 0,.int .i64 0,.int .i64 0,.int .i64 0],true⟩∧tdOf PP 25=some ⟨1,false,.slice 22 1 4,[.sl [] .nil],false⟩) ∧
 (tdOf PP 26=some ⟨1,false,.other,[.val .nilFunc],false⟩∧tdOf PP 27=some ⟨2,true,.struct [(0,1,false),(1,1,false)],[.sl [] .nil,.int .i64 0],false⟩)) ∧
 ((tdOf PP 28=some ⟨2,true,.struct [(0,1,false),(1,1,false)],[.sl [] .nil,.int .i64 0],false⟩∧tdOf PP 29=some ⟨1,false,.slice 121 4 40,[.sl [] .nil],false⟩) ∧
 (tdOf PP 30=some ⟨2,true,.struct [(0,1,false),(1,1,false)],[.int .i64 0,.sl [] .nil],false⟩∧tdOf PP 31=some ⟨2,true,.struct [(0,1,false),(1,1,false)],[.int .i64 0,.sl [] .nil],false⟩))))) ∧
 ((((tdOf PP 32=some ⟨1,false,.slice 105 2 32,[.sl [] .nil],false⟩∧(tdOf PP 33=some ⟨1,false,.slice 25 1 24,[.sl [] .nil],false⟩∧tdOf PP 34=some ⟨3,true,.struct [(0,1,false),(1,1,false),(2,1,false)],[.int .i64 0,.sl [] .nil,.sl [] .nil],false⟩)) ∧
 ((tdOf PP 35=some ⟨3,true,.struct [(0,1,false),(1,1,false),(2,1,false)],[.int .i64 0,.sl [] .nil,.sl [] .nil],false⟩∧tdOf PP 36=some ⟨1,false,.slice 65 6 72,[.sl [] .nil],false⟩) ∧
 (tdOf PP 37=some ⟨1,false,.slice 76 10 56,[.sl [] .nil],false⟩∧tdOf PP 38=some ⟨1,false,.slice 96 2 8,[.sl [] .nil],false⟩))) ∧
 (((tdOf PP 39=some ⟨18,true,.struct [(0,7,true),(7,2,true),(9,2,true),(11,3,true),(14,1,false),(15,1,false),(16,1,false),(17,1,false)],[.int .u32 0,.int .i64 0,.int .i64 0,.int .i64 0,.int .i64 0,.int .i64 0,.int .i64 0,.sl [] .nil,.int .i64 0,.int .i64 0,.sl [] .nil,.int .i64 0,.sl [] .nil,.sl [] .nil,.sl [] .nil,.sl [] .nil,.sl [] .nil,.sl [] .nil],false⟩∧tdOf PP 40=some ⟨18,true,.struct [(0,7,true),(7,2,true),(9,2,true),(11,3,true),(14,1,false),(15,1,false),(16,1,false),(17,1,false)],[.int .u32 0,.int .i64 0,.int .i64 0,.int .i64 0,.int .i64 0,.int .i64 0,.int .i64 0,.sl [] .nil,.int .i64 0,.int .i64 0,.sl [] .nil,.int .i64 0,.sl [] .nil,.sl [] .nil,.sl [] .nil,.sl [] .nil,.sl [] .nil,.sl [] .nil],false⟩) ∧
 (tdOf PP 41=some ⟨1,false,.int .i64,[.int .i64 0],false⟩∧tdOf PP 43=some ⟨1,false,.other,[.val .nilFunc],false⟩)) ∧
 ((tdOf PP 44=some ⟨1,false,.other,[.val .nilFunc],false⟩∧tdOf PP 45=some ⟨1,false,.other,[.val .nilFunc],false⟩) ∧
 (tdOf PP 46=some ⟨1,false,.other,[.val .nilFunc],false⟩∧tdOf PP 47=some ⟨1,false,.other,[.val .nilFunc],false⟩)))) ∧
 ((((tdOf PP 48=some ⟨1,false,.other,[.val .nilFunc],false⟩∧tdOf PP 49=some ⟨6,true,.struct [(0,1,false),(1,1,false),(2,1,false),(3,1,false),(4,1,false),(5,1,false)],[.int .i64 0,.int .i64 0,.int .i64 0,.int .i64 0,.int .i64 0,.sl [] .nil],false⟩) ∧
 (tdOf PP 50=some ⟨6,true,.struct [(0,1,false),(1,1,false),(2,1,false),(3,1,false),(4,1,false),(5,1,false)],[.int .i64 0,.int .i64 0,.int .i64 0,.int .i64 0,.int .i64 0,.sl [] .nil],false⟩∧tdOf PP 51=some ⟨1,false,.other,[.val .nilFunc],false⟩)) ∧
 ((tdOf PP 53=some ⟨1,false,.other,[.val .nilFunc],false⟩∧tdOf PP 54=some ⟨1,false,.other,[.val .nilFunc],false⟩) ∧
 (tdOf PP 55=some ⟨1,false,.slice 50 6 64,[.sl [] .nil],false⟩∧tdOf PP 56=some ⟨1,false,.other,[.val .nilFunc],false⟩))) ∧
 (((tdOf PP 57=some ⟨1,false,.slice 41 1 8,[.sl [] .nil],false⟩∧tdOf PP 59=some ⟨1,false,.other,[.val .nilFunc],false⟩) ∧
 (tdOf PP 60=some ⟨1,false,.slice 3 1 8,[.sl [] .nil],false⟩∧tdOf PP 62=some ⟨1,false,.other,[.val .nilFunc],false⟩)) ∧
 ((tdOf PP 63=some ⟨1,false,.slice 85 9 48,[.sl [] .nil],false⟩∧tdOf PP 64=some ⟨6,true,.struct [(0,1,false),(1,1,false),(2,1,false),(3,1,false),(4,1,false),(5,1,false)],[.int .u32 0,.int .u32 0,.int .u32 0,.sl [] .nil,.sl [] .nil,.bool false],false⟩) ∧
 (tdOf PP 65=some ⟨6,true,.struct [(0,1,false),(1,1,false),(2,1,false),(3,1,false),(4,1,false),(5,1,false)],[.int .u32 0,.int .u32 0,.int .u32 0,.sl [] .nil,.sl [] .nil,.bool false],false⟩∧tdOf PP 66=some ⟨1,false,.other,[.val .nilFunc],false⟩)))))) ∧
 (((((tdOf PP 67=some ⟨1,false,.other,[.val .nilFunc],false⟩∧(tdOf PP 68=some ⟨1,false,.other,[.val .nilFunc],false⟩∧tdOf PP 69=some ⟨1,false,.other,[.val .nilFunc],false⟩)) ∧
 ((tdOf PP 70=some ⟨1,false,.other,[.val .nilFunc],false⟩∧tdOf PP 71=some ⟨1,false,.other,[.val .nilFunc],false⟩) ∧
 (tdOf PP 72=some ⟨1,false,.other,[.val .nilFunc],false⟩∧tdOf PP 73=some ⟨1,false,.other,[.val .nilFunc],false⟩))) ∧
 (((tdOf PP 74=some ⟨1,false,.other,[.val .nilFunc],false⟩∧tdOf PP 75=some ⟨10,true,.struct [(0,1,false),(1,1,false),(2,1,false),(3,1,false),(4,1,false),(5,1,false),(6,1,false),(7,1,false),(8,1,false),(9,1,false)],[.int .i64 0,.int .i64 0,.int .i64 0,.int .u32 0,.int .u32 0,.int .u32 0,.int .u32 0,.int .u32 0,.int .u32 0,.int .u32 0],true⟩) ∧
 (tdOf PP 76=some ⟨10,true,.struct [(0,1,false),(1,1,false),(2,1,false),(3,1,false),(4,1,false),(5,1,false),(6,1,false),(7,1,false),(8,1,false),(9,1,false)],[.int .i64 0,.int .i64 0,.int .i64 0,.int .u32 0,.int .u32 0,.int .u32 0,.int .u32 0,.int .u32 0,.int .u32 0,.int .u32 0],true⟩∧tdOf PP 77=some ⟨1,false,.other,[.val .nilFunc],false⟩)) ∧
 ((tdOf PP 78=some ⟨1,false,.other,[.val .nilFunc],false⟩∧tdOf PP 79=some ⟨1,false,.other,[.val .nilFunc],false⟩) ∧
 (tdOf PP 80=some ⟨1,false,.other,[.val .nilFunc],false⟩∧tdOf PP 81=some ⟨1,false,.other,[.val .nilFunc],false⟩)))) ∧
 ((((tdOf PP 82=some ⟨1,false,.other,[.val .nilFunc],false⟩∧tdOf PP 83=some ⟨1,false,.other,[.val .nilFunc],false⟩) ∧
 (tdOf PP 84=some ⟨9,true,.struct [(0,1,false),(1,1,false),(2,1,false),(3,1,false),(4,1,false),(5,1,false),(6,1,false),(7,1,false),(8,1,false)],[.int .i64 0,.int .i64 0,.int .u32 0,.int .u32 0,.int .u32 0,.int .u32 0,.int .u32 0,.int .u32 0,.int .i64 0],true⟩∧tdOf PP 85=some ⟨9,true,.struct [(0,1,false),(1,1,false),(2,1,false),(3,1,false),(4,1,false),(5,1,false),(6,1,false),(7,1,false),(8,1,false)],[.int .i64 0,.int .i64 0,.int .u32 0,.int .u32 0,.int .u32 0,.int .u32 0,.int .u32 0,.int .u32 0,.int .i64 0],true⟩)) ∧
 ((tdOf PP 87=some ⟨1,false,.other,[.val .nilFunc],false⟩∧tdOf PP 88=some ⟨1,false,.other,[.val .nilFunc],false⟩) ∧
 (tdOf PP 90=some ⟨1,false,.other,[.val .nilFunc],false⟩∧tdOf PP 91=some ⟨1,false,.other,[.val .nilFunc],false⟩))) ∧
 (((tdOf PP 92=some ⟨1,false,.other,[.val .nilFunc],false⟩∧tdOf PP 93=some ⟨1,false,.other,[.val .nilFunc],false⟩) ∧
 (tdOf PP 94=some ⟨1,false,.other,[.val .nilFunc],false⟩∧tdOf PP 95=some ⟨2,true,.struct [(0,1,false),(1,1,false)],[.int .u32 0,.int .u32 0],true⟩)) ∧
 ((tdOf PP 96=some ⟨2,true,.struct [(0,1,false),(1,1,false)],[.int .u32 0,.int .u32 0],true⟩∧tdOf PP 98=some ⟨1,false,.other,[.val .nilFunc],false⟩) ∧
 (tdOf PP 99=some ⟨1,false,.other,[.val .nilFunc],false⟩∧tdOf PP 100=some ⟨1,false,.other,[.val .nilFunc],false⟩))))) ∧
 (((((tdOf PP 101=some ⟨1,false,.other,[.val .nilFunc],false⟩∧tdOf PP 102=some ⟨1,false,.other,[.val .nilFunc],false⟩) ∧
 (tdOf PP 103=some ⟨1,false,.other,[.val .nilFunc],false⟩∧tdOf PP 104=some ⟨2,true,.struct [(0,1,false),(1,1,false)],[.int .u32 0,.sl [] .nil],false⟩)) ∧
 ((tdOf PP 105=some ⟨2,true,.struct [(0,1,false),(1,1,false)],[.int .u32 0,.sl [] .nil],false⟩∧tdOf PP 106=some ⟨1,false,.other,[.val .nilFunc],false⟩) ∧
 (tdOf PP 108=some ⟨1,false,.map 3 51,[.val (.map none)],false⟩∧tdOf PP 109=some ⟨1,false,.other,[.val .nilFunc],false⟩))) ∧
 (((tdOf PP 110=some ⟨1,false,.other,[.val .nilFunc],false⟩∧tdOf PP 111=some ⟨1,false,.other,[.val .nilFunc],false⟩) ∧
 (tdOf PP 112=some ⟨1,false,.other,[.val .nilFunc],false⟩∧tdOf PP 114=some ⟨1,false,.other,[.val .nilFunc],false⟩)) ∧
 ((tdOf PP 115=some ⟨1,false,.other,[.val .nilFunc],false⟩∧tdOf PP 117=some ⟨1,false,.other,[.val .nilFunc],false⟩) ∧
 (tdOf PP 118=some ⟨1,false,.other,[.val .nilFunc],false⟩∧tdOf PP 119=some ⟨1,false,.other,[.val .nilFunc],false⟩)))) ∧
 ((((tdOf PP 120=some ⟨4,true,.struct [(0,1,false),(1,1,false),(2,1,false),(3,1,false)],[.int .u32 0,.int .u32 0,.int .u32 0,.sl [] .nil],false⟩∧tdOf PP 121=some ⟨4,true,.struct [(0,1,false),(1,1,false),(2,1,false),(3,1,false)],[.int .u32 0,.int .u32 0,.int .u32 0,.sl [] .nil],false⟩) ∧
 (tdOf PP 122=some ⟨1,false,.map 3 3,[.val (.map none)],false⟩∧tdOf PP 123=some ⟨1,false,.other,[.val .nilFunc],false⟩)) ∧
 ((tdOf PP 124=some ⟨1,false,.map 3 26,[.val (.map none)],false⟩∧tdOf PP 126=some ⟨1,false,.other,[.val .nilFunc],false⟩) ∧
 (tdOf PP 127=some ⟨1,false,.other,[.val .nilFunc],false⟩∧tdOf PP 128=some ⟨1,false,.other,[.val .nilFunc],false⟩))) ∧
 (((tdOf PP 129=some ⟨1,false,.other,[.val .nilFunc],false⟩∧tdOf PP 130=some ⟨1,false,.other,[.val .nilFunc],false⟩) ∧
 (tdOf PP 131=some ⟨1,false,.other,[.val .nilFunc],false⟩∧tdOf PP 132=some ⟨1,false,.other,[.val .nilFunc],false⟩)) ∧
 ((tdOf PP 133=some ⟨1,false,.other,[.val .nilFunc],false⟩∧tdOf PP 134=some ⟨1,false,.other,[.val .nilFunc],false⟩) ∧
 (tdOf PP 135=some ⟨1,false,.other,[.val .nilFunc],false⟩∧tdOf PP 136=some ⟨1,false,.other,[.val .nilFunc],false⟩))))))) ∧
 ((((((tdOf PP 137=some ⟨1,false,.other,[.val .nilFunc],false⟩∧(tdOf PP 138=some ⟨1,false,.other,[.val .nilFunc],false⟩∧tdOf PP 139=some ⟨1,false,.other,[.val .nilFunc],false⟩)) ∧
 ((tdOf PP 140=some ⟨1,false,.other,[.val .nilFunc],false⟩∧tdOf PP 141=some ⟨1,false,.other,[.val .nilFunc],false⟩) ∧
 (tdOf PP 142=some ⟨1,false,.other,[.val .nilFunc],false⟩∧tdOf PP 143=some ⟨1,false,.other,[.val .nilFunc],false⟩))) ∧
 (((tdOf PP 144=some ⟨1,false,.other,[.val .nilFunc],false⟩∧tdOf PP 145=some ⟨1,false,.other,[.val .nilFunc],false⟩) ∧
 (tdOf PP 147=some ⟨1,false,.other,[.val .nilFunc],false⟩∧tdOf PP 148=some ⟨1,false,.other,[.val .nilFunc],false⟩)) ∧
 ((tdOf PP 149=some ⟨1,false,.other,[.val .nilFunc],false⟩∧tdOf PP 151=some ⟨1,false,.map 3 149,[.val (.map none)],false⟩) ∧
 (tdOf PP 152=some ⟨1,false,.other,[.val .nilFunc],false⟩∧tdOf PP 153=some ⟨1,false,.other,[.val (.pointer none)],false⟩)))) ∧
 ((((tdOf PP 154=some ⟨42,true,.struct [(0,18,true),(18,6,true),(24,18,true)],[.int .u32 0,.int .i64 0,.int .i64 0,.int .i64 0,.int .i64 0,.int .i64 0,.int .i64 0,.sl [] .nil,.int .i64 0,.int .i64 0,.sl [] .nil,.int .i64 0,.sl [] .nil,.sl [] .nil,.sl [] .nil,.sl [] .nil,.sl [] .nil,.sl [] .nil,.int .i64 0,.int .i64 0,.int .i64 0,.int .i64 0,.int .i64 0,.sl [] .nil,.int .u32 0,.int .i64 0,.int .i64 0,.int .i64 0,.int .i64 0,.int .i64 0,.int .i64 0,.sl [] .nil,.int .i64 0,.int .i64 0,.sl [] .nil,.int .i64 0,.sl [] .nil,.sl [] .nil,.sl [] .nil,.sl [] .nil,.sl [] .nil,.sl [] .nil],false⟩∧tdOf PP 155=some ⟨42,true,.struct [(0,18,true),(18,6,true),(24,18,true)],[.int .u32 0,.int .i64 0,.int .i64 0,.int .i64 0,.int .i64 0,.int .i64 0,.int .i64 0,.sl [] .nil,.int .i64 0,.int .i64 0,.sl [] .nil,.int .i64 0,.sl [] .nil,.sl [] .nil,.sl [] .nil,.sl [] .nil,.sl [] .nil,.sl [] .nil,.int .i64 0,.int .i64 0,.int .i64 0,.int .i64 0,.int .i64 0,.sl [] .nil,.int .u32 0,.int .i64 0,.int .i64 0,.int .i64 0,.int .i64 0,.int .i64 0,.int .i64 0,.sl [] .nil,.int .i64 0,.int .i64 0,.sl [] .nil,.int .i64 0,.sl [] .nil,.sl [] .nil,.sl [] .nil,.sl [] .nil,.sl [] .nil,.sl [] .nil],false⟩) ∧
 (tdOf PP 157=some ⟨1,false,.other,[.val .nilFunc],false⟩∧tdOf PP 159=some ⟨1,false,.other,[.val .nilFunc],false⟩)) ∧
 ((tdOf PP 160=some ⟨1,false,.other,[.val .nilFunc],false⟩∧tdOf PP 161=some ⟨1,false,.other,[.val .nilFunc],false⟩) ∧
 (tdOf PP 162=some ⟨1,false,.other,[.val .nilFunc],false⟩∧tdOf PP 163=some ⟨1,false,.other,[.val .nilFunc],false⟩))) ∧
 (((tdOf PP 164=some ⟨1,false,.other,[.val .nilFunc],false⟩∧tdOf PP 166=some ⟨1,false,.other,[.val .nilFunc],false⟩) ∧
 (tdOf PP 168=some ⟨1,false,.other,[.val .nilFunc],false⟩∧tdOf PP 169=some ⟨1,false,.other,[.val .nilFunc],false⟩)) ∧
 ((tdOf PP 170=some ⟨1,false,.int .u64,[.int .u64 0],false⟩∧tdOf PP 172=some ⟨1,false,.other,[.val .nilFunc],false⟩) ∧
 (tdOf PP 173=some ⟨1,false,.other,[.val .nilFunc],false⟩∧tdOf PP 174=some ⟨1,false,.other,[.val .nilFunc],false⟩))))) ∧
 ((((tdOf PP 175=some ⟨7,true,.struct [(0,1,false),(1,1,false),(2,1,false),(3,1,false),(4,1,false),(5,1,false),(6,1,false)],[.int .u32 0,.int .u32 0,.int .u32 0,.int .u32 0,.int .u32 0,.int .u32 0,.int .u32 0],true⟩∧(tdOf PP 176=some ⟨7,true,.struct [(0,1,false),(1,1,false),(2,1,false),(3,1,false),(4,1,false),(5,1,false),(6,1,false)],[.int .u32 0,.int .u32 0,.int .u32 0,.int .u32 0,.int .u32 0,.int .u32 0,.int .u32 0],true⟩∧tdOf PP 178=some ⟨1,false,.other,[.val .nilFunc],false⟩)) ∧
 ((tdOf PP 179=some ⟨7,true,.struct [(0,1,false),(1,1,false),(2,1,false),(3,1,false),(4,1,false),(5,1,false),(6,1,false)],[.int .u32 0,.int .u32 0,.int .u32 0,.int .u32 0,.int .u32 0,.int .u32 0,.int .u32 0],true⟩∧tdOf PP 180=some ⟨7,true,.struct [(0,1,false),(1,1,false),(2,1,false),(3,1,false),(4,1,false),(5,1,false),(6,1,false)],[.int .u32 0,.int .u32 0,.int .u32 0,.int .u32 0,.int .u32 0,.int .u32 0,.int .u32 0],true⟩) ∧
 (tdOf PP 182=some ⟨1,false,.other,[.val .nilFunc],false⟩∧tdOf PP 184=some ⟨1,false,.other,[.val .nilFunc],false⟩))) ∧
 (((tdOf PP 185=some ⟨1,false,.other,[.val .nilFunc],false⟩∧tdOf PP 186=some ⟨1,false,.other,[.val .nilFunc],false⟩) ∧
 (tdOf PP 187=some ⟨1,false,.other,[.val .nilFunc],false⟩∧tdOf PP 188=some ⟨1,false,.other,[.val .nilFunc],false⟩)) ∧
 ((tdOf PP 189=some ⟨1,false,.other,[.val .nilFunc],false⟩∧tdOf PP 190=some ⟨1,false,.other,[.val .nilFunc],false⟩) ∧
 (tdOf PP 191=some ⟨1,false,.other,[.val .nilFunc],false⟩∧tdOf PP 192=some ⟨1,false,.other,[.val .nilFunc],false⟩)))) ∧
 ((((tdOf PP 193=some ⟨1,false,.other,[.val .nilFunc],false⟩∧tdOf PP 194=some ⟨1,false,.other,[.val .nilFunc],false⟩) ∧
 (tdOf PP 195=some ⟨1,false,.other,[.val .nilFunc],false⟩∧tdOf PP 196=some ⟨1,false,.other,[.val .nilFunc],false⟩)) ∧
 ((tdOf PP 197=some ⟨1,false,.other,[.val .nilFunc],false⟩∧tdOf PP 198=some ⟨1,false,.other,[.val .nilFunc],false⟩) ∧
 (tdOf PP 199=some ⟨1,false,.slice 256 1 16,[.sl [] .nil],false⟩∧tdOf PP 200=some ⟨3,true,.struct [(0,1,false),(1,1,false),(2,1,false)],[.sl [] .nil,.sl [] .nil,.sl [] .nil],false⟩))) ∧
 (((tdOf PP 201=some ⟨3,true,.struct [(0,1,false),(1,1,false),(2,1,false)],[.sl [] .nil,.sl [] .nil,.sl [] .nil],false⟩∧tdOf PP 203=some ⟨1,false,.other,[.val .nilFunc],false⟩) ∧
 (tdOf PP 204=some ⟨1,false,.other,[.val .nilFunc],false⟩∧tdOf PP 205=some ⟨1,false,.other,[.val .nilFunc],false⟩)) ∧
 ((tdOf PP 206=some ⟨1,false,.other,[.val .nilFunc],false⟩∧tdOf PP 207=some ⟨1,false,.other,[.val .nilFunc],false⟩) ∧
 (tdOf PP 208=some ⟨1,false,.other,[.val .nilFunc],false⟩∧tdOf PP 209=some ⟨1,false,.other,[.val .nilFunc],false⟩)))))) ∧
 (((((tdOf PP 210=some ⟨1,false,.other,[.val .nilFunc],false⟩∧(tdOf PP 212=some ⟨1,false,.other,[.val .nilFunc],false⟩∧tdOf PP 214=some ⟨1,false,.other,[.val .nilFunc],false⟩)) ∧
 ((tdOf PP 215=some ⟨1,false,.other,[.val .nilFunc],false⟩∧tdOf PP 216=some ⟨1,false,.other,[.val .nilFunc],false⟩) ∧
 (tdOf PP 218=some ⟨1,false,.other,[.val .nilFunc],false⟩∧tdOf PP 219=some ⟨1,false,.other,[.val .nilFunc],false⟩))) ∧
 (((tdOf PP 221=some ⟨1,false,.other,[.val .nilFunc],false⟩∧tdOf PP 222=some ⟨1,false,.other,[.val .nilFunc],false⟩) ∧
 (tdOf PP 224=some ⟨1,false,.other,[.val .nilFunc],false⟩∧tdOf PP 226=some ⟨1,false,.other,[.val .nilFunc],false⟩)) ∧
 ((tdOf PP 227=some ⟨1,false,.other,[.val .nilFunc],false⟩∧tdOf PP 228=some ⟨1,false,.other,[.val .nilFunc],false⟩) ∧
 (tdOf PP 229=some ⟨1,false,.slice 233 2 32,[.sl [] .nil],false⟩∧tdOf PP 231=some ⟨1,false,.other,[.val .nilFunc],false⟩)))) ∧
 ((((tdOf PP 232=some ⟨2,true,.struct [(0,1,false),(1,1,false)],[.int .u32 0,.sl [] .nil],false⟩∧tdOf PP 233=some ⟨2,true,.struct [(0,1,false),(1,1,false)],[.int .u32 0,.sl [] .nil],false⟩) ∧
 (tdOf PP 234=some ⟨1,false,.other,[.val .nilFunc],false⟩∧tdOf PP 235=some ⟨1,false,.other,[.val .nilFunc],false⟩)) ∧
 ((tdOf PP 237=some ⟨1,false,.other,[.val .nilFunc],false⟩∧tdOf PP 238=some ⟨1,false,.other,[.val .nilFunc],false⟩) ∧
 (tdOf PP 239=some ⟨1,false,.other,[.val .nilFunc],false⟩∧tdOf PP 240=some ⟨1,false,.other,[.val .nilFunc],false⟩))) ∧
 (((tdOf PP 241=some ⟨1,false,.other,[.val .nilFunc],false⟩∧tdOf PP 242=some ⟨1,false,.map 22 4,[.val (.map none)],false⟩) ∧
 (tdOf PP 243=some ⟨1,false,.other,[.val .nilFunc],false⟩∧tdOf PP 244=some ⟨1,false,.other,[.val .nilFunc],false⟩)) ∧
 ((tdOf PP 245=some ⟨1,false,.other,[.val .nilFunc],false⟩∧tdOf PP 246=some ⟨1,false,.other,[.val .nilFunc],false⟩) ∧
 (tdOf PP 247=some ⟨1,false,.slice 33 1 24,[.sl [] .nil],false⟩∧tdOf PP 248=some ⟨1,false,.other,[.val .nilFunc],false⟩))))) ∧
 (((((tdOf PP 249=some ⟨0,true,.struct [],[],true⟩∧tdOf PP 250=some ⟨0,true,.struct [],[],true⟩) ∧
 (tdOf PP 251=some ⟨3,true,.struct [(0,1,false),(1,1,false),(2,1,false)],[.int .i64 0,.int .i64 0,.int .i64 0],true⟩∧tdOf PP 252=some ⟨3,true,.struct [(0,1,false),(1,1,false),(2,1,false)],[.int .i64 0,.int .i64 0,.int .i64 0],true⟩)) ∧
 ((tdOf PP 253=some ⟨3,true,.struct [(0,1,false),(1,1,false),(2,1,false)],[.int .i64 0,.int .i64 0,.int .i64 0],true⟩∧tdOf PP 254=some ⟨1,false,.map 76 201,[.val (.map none)],false⟩) ∧
 (tdOf PP 255=some ⟨1,false,.other,[.val .nilIface],false⟩∧tdOf PP 256=some ⟨1,false,.other,[.val .nilIface],false⟩))) ∧
 (((tdOf PP 257=some ⟨1,false,.other,[.val .nilFunc],false⟩∧tdOf PP 258=some ⟨1,false,.other,[.val .nilFunc],false⟩) ∧
 (tdOf PP 259=some ⟨1,false,.other,[.val .nilFunc],false⟩∧tdOf PP 261=some ⟨1,false,.other,[.val .nilFunc],false⟩)) ∧
 ((tdOf PP 262=some ⟨1,false,.other,[.val .nilFunc],false⟩∧tdOf PP 264=some ⟨1,false,.other,[.val .nilFunc],false⟩) ∧
 (tdOf PP 265=some ⟨1,false,.other,[.val .nilFunc],false⟩∧tdOf PP 266=some ⟨1,false,.other,[.val .nilFunc],false⟩)))) ∧
 ((((tdOf PP 267=some ⟨1,false,.other,[.val .nilFunc],false⟩∧tdOf PP 268=some ⟨1,false,.other,[.val .nilFunc],false⟩) ∧
 (tdOf PP 269=some ⟨1,false,.other,[.val .nilFunc],false⟩∧tdOf PP 270=some ⟨1,false,.other,[.val .nilFunc],false⟩)) ∧
 ((tdOf PP 271=some ⟨1,false,.other,[.val .nilFunc],false⟩∧tdOf PP 273=some ⟨1,false,.other,[.val .nilFunc],false⟩) ∧
 (tdOf PP 274=some ⟨1,false,.other,[.val .nilIface],false⟩∧tdOf PP 275=some ⟨1,false,.other,[.val .nilIface],false⟩))) ∧
 (((tdOf PP 277=some ⟨1,false,.map 22 275,[.val (.map none)],false⟩∧tdOf PP 278=some ⟨1,false,.other,[.val .nilFunc],false⟩) ∧
 (tdOf PP 279=some ⟨1,false,.other,[.val .nilFunc],false⟩∧tdOf PP 280=some ⟨1,false,.other,[.val .nilFunc],false⟩)) ∧
 ((tdOf PP 281=some ⟨1,false,.other,[.val .nilFunc],false⟩∧tdOf PP 282=some ⟨1,false,.other,[.val .nilFunc],false⟩) ∧
 (tdOf PP 284=some ⟨1,false,.other,[.val .nilFunc],false⟩∧tdOf PP 285=some ⟨1,false,.other,[.val .nilFunc],false⟩)))))))) ∧
 (((((((tdOf PP 286=some ⟨1,false,.slice 63 1 24,[.sl [] .nil],false⟩∧(tdOf PP 287=some ⟨1,false,.other,[.val .nilFunc],false⟩∧tdOf PP 288=some ⟨1,false,.other,[.val .nilFunc],false⟩)) ∧
 ((tdOf PP 290=some ⟨1,false,.other,[.val .nilFunc],false⟩∧tdOf PP 291=some ⟨1,false,.other,[.val .nilFunc],false⟩) ∧
 (tdOf PP 292=some ⟨1,false,.slice 38 1 24,[.sl [] .nil],false⟩∧tdOf PP 293=some ⟨1,false,.other,[.val .nilFunc],false⟩))) ∧
 (((tdOf PP 294=some ⟨1,false,.other,[.val .nilFunc],false⟩∧tdOf PP 295=some ⟨1,false,.slice 37 1 24,[.sl [] .nil],false⟩) ∧
 (tdOf PP 296=some ⟨1,false,.other,[.val .nilFunc],false⟩∧tdOf PP 297=some ⟨1,false,.other,[.val .nilFunc],false⟩)) ∧
 ((tdOf PP 298=some ⟨1,false,.other,[.val (.pointer none)],false⟩∧tdOf PP 299=some ⟨8,true,.array 8 1 false,[.val (.pointer none),.val (.pointer none),.val (.pointer none),.val (.pointer none),.val (.pointer none),.val (.pointer none),.val (.pointer none),.val (.pointer none)],false⟩) ∧
 (tdOf PP 300=some ⟨1,false,.other,[.val .nilFunc],false⟩∧tdOf PP 301=some ⟨1,false,.other,[.val (.pointer none)],false⟩)))) ∧
 ((((tdOf PP 302=some ⟨1,false,.other,[.val .nilFunc],false⟩∧tdOf PP 303=some ⟨1,false,.other,[.val .nilFunc],false⟩) ∧
 (tdOf PP 304=some ⟨1,false,.slice 298 1 8,[.sl [] .nil],false⟩∧tdOf PP 306=some ⟨1,false,.other,[.val .nilFunc],false⟩)) ∧
 ((tdOf PP 307=some ⟨1,false,.other,[.val (.pointer none)],false⟩∧tdOf PP 309=some ⟨1,false,.other,[.val .nilFunc],false⟩) ∧
 (tdOf PP 310=some ⟨1,false,.other,[.val .nilFunc],false⟩∧tdOf PP 311=some ⟨1,false,.other,[.val .nilFunc],false⟩))) ∧
 (((tdOf PP 312=some ⟨1,false,.other,[.val .nilFunc],false⟩∧tdOf PP 313=some ⟨1,false,.other,[.val .nilFunc],false⟩) ∧
 (tdOf PP 314=some ⟨1,false,.other,[.val .nilFunc],false⟩∧tdOf PP 315=some ⟨1,false,.slice 29 1 24,[.sl [] .nil],false⟩)) ∧
 ((tdOf PP 316=some ⟨1,false,.other,[.val .nilFunc],false⟩∧tdOf PP 317=some ⟨10,true,.array 10 1 false,[.int .u32 0,.int .u32 0,.int .u32 0,.int .u32 0,.int .u32 0,.int .u32 0,.int .u32 0,.int .u32 0,.int .u32 0,.int .u32 0],false⟩) ∧
 (tdOf PP 318=some ⟨1,false,.other,[.val .nilFunc],false⟩∧tdOf PP 319=some ⟨1,false,.other,[.val .nilFunc],false⟩))))) ∧
 ((((tdOf PP 320=some ⟨1,false,.map 22 319,[.val (.map none)],false⟩∧(tdOf PP 322=some ⟨1,false,.other,[.val .nilFunc],false⟩∧tdOf PP 323=some ⟨1,false,.other,[.val (.pointer none)],false⟩)) ∧
 ((tdOf PP 324=some ⟨19,true,.struct [(0,18,true),(18,1,false)],[.int .u32 0,.int .i64 0,.int .i64 0,.int .i64 0,.int .i64 0,.int .i64 0,.int .i64 0,.sl [] .nil,.int .i64 0,.int .i64 0,.sl [] .nil,.int .i64 0,.sl [] .nil,.sl [] .nil,.sl [] .nil,.sl [] .nil,.sl [] .nil,.sl [] .nil,.int .i64 0],false⟩∧tdOf PP 325=some ⟨19,true,.struct [(0,18,true),(18,1,false)],[.int .u32 0,.int .i64 0,.int .i64 0,.int .i64 0,.int .i64 0,.int .i64 0,.int .i64 0,.sl [] .nil,.int .i64 0,.int .i64 0,.sl [] .nil,.int .i64 0,.sl [] .nil,.sl [] .nil,.sl [] .nil,.sl [] .nil,.sl [] .nil,.sl [] .nil,.int .i64 0],false⟩) ∧
 (tdOf PP 326=some ⟨1,false,.other,[.val .nilFunc],false⟩∧tdOf PP 327=some ⟨1,false,.other,[.val .nilFunc],false⟩))) ∧
 (((tdOf PP 328=some ⟨1,false,.other,[.val .nilFunc],false⟩∧tdOf PP 329=some ⟨1,false,.other,[.val (.pointer none)],false⟩) ∧
 (tdOf PP 330=some ⟨48,true,.struct [(0,18,true),(18,7,true),(25,6,true),(31,6,true),(37,6,true),(43,1,false),(44,1,false),(45,1,false),(46,1,false),(47,1,false)],[.int .u32 0,.int .i64 0,.int .i64 0,.int .i64 0,.int .i64 0,.int .i64 0,.int .i64 0,.sl [] .nil,.int .i64 0,.int .i64 0,.sl [] .nil,.int .i64 0,.sl [] .nil,.sl [] .nil,.sl [] .nil,.sl [] .nil,.sl [] .nil,.sl [] .nil,.int .u32 0,.int .u32 0,.int .u32 0,.int .u32 0,.int .u32 0,.int .u32 0,.int .u32 0,.int .u32 0,.int .u32 0,.int .u32 0,.sl [] .nil,.sl [] .nil,.bool false,.int .u32 0,.int .u32 0,.int .u32 0,.sl [] .nil,.sl [] .nil,.bool false,.int .u32 0,.int .u32 0,.int .u32 0,.sl [] .nil,.sl [] .nil,.bool false,.int .u32 0,.int .u32 0,.int .u32 0,.int .u32 0,.int .u32 0],false⟩∧tdOf PP 331=some ⟨48,true,.struct [(0,18,true),(18,7,true),(25,6,true),(31,6,true),(37,6,true),(43,1,false),(44,1,false),(45,1,false),(46,1,false),(47,1,false)],[.int .u32 0,.int .i64 0,.int .i64 0,.int .i64 0,.int .i64 0,.int .i64 0,.int .i64 0,.sl [] .nil,.int .i64 0,.int .i64 0,.sl [] .nil,.int .i64 0,.sl [] .nil,.sl [] .nil,.sl [] .nil,.sl [] .nil,.sl [] .nil,.sl [] .nil,.int .u32 0,.int .u32 0,.int .u32 0,.int .u32 0,.int .u32 0,.int .u32 0,.int .u32 0,.int .u32 0,.int .u32 0,.int .u32 0,.sl [] .nil,.sl [] .nil,.bool false,.int .u32 0,.int .u32 0,.int .u32 0,.sl [] .nil,.sl [] .nil,.bool false,.int .u32 0,.int .u32 0,.int .u32 0,.sl [] .nil,.sl [] .nil,.bool false,.int .u32 0,.int .u32 0,.int .u32 0,.int .u32 0,.int .u32 0],false⟩)) ∧
 ((tdOf PP 332=some ⟨1,false,.other,[.val .nilFunc],false⟩∧tdOf PP 333=some ⟨1,true,.struct [(0,1,false)],[.val .nilFunc],false⟩) ∧
 (tdOf PP 334=some ⟨1,true,.struct [(0,1,false)],[.val .nilFunc],false⟩∧tdOf PP 335=some ⟨1,false,.slice 334 1 8,[.sl [] .nil],false⟩)))) ∧
 ((((tdOf PP 336=some ⟨1,false,.other,[.val .nilFunc],false⟩∧tdOf PP 337=some ⟨1,false,.other,[.val .nilFunc],false⟩) ∧
 (tdOf PP 338=some ⟨1,false,.other,[.val .nilFunc],false⟩∧tdOf PP 339=some ⟨1,false,.other,[.val (.pointer none)],false⟩)) ∧
 ((tdOf PP 340=some ⟨1,false,.other,[.val .nilFunc],false⟩∧tdOf PP 341=some ⟨24,true,.struct [(0,18,true),(18,6,true)],[.int .u32 0,.int .i64 0,.int .i64 0,.int .i64 0,.int .i64 0,.int .i64 0,.int .i64 0,.sl [] .nil,.int .i64 0,.int .i64 0,.sl [] .nil,.int .i64 0,.sl [] .nil,.sl [] .nil,.sl [] .nil,.sl [] .nil,.sl [] .nil,.sl [] .nil,.int .u32 0,.int .u32 0,.int .u32 0,.sl [] .nil,.sl [] .nil,.bool false],false⟩) ∧
 (tdOf PP 342=some ⟨24,true,.struct [(0,18,true),(18,6,true)],[.int .u32 0,.int .i64 0,.int .i64 0,.int .i64 0,.int .i64 0,.int .i64 0,.int .i64 0,.sl [] .nil,.int .i64 0,.int .i64 0,.sl [] .nil,.int .i64 0,.sl [] .nil,.sl [] .nil,.sl [] .nil,.sl [] .nil,.sl [] .nil,.sl [] .nil,.int .u32 0,.int .u32 0,.int .u32 0,.sl [] .nil,.sl [] .nil,.bool false],false⟩∧tdOf PP 343=some ⟨1,false,.other,[.val .nilFunc],false⟩))) ∧
 (((tdOf PP 344=some ⟨1,false,.other,[.val .nilFunc],false⟩∧tdOf PP 345=some ⟨1,false,.other,[.val .nilFunc],false⟩) ∧
 (tdOf PP 346=some ⟨1,false,.other,[.val .nilFunc],false⟩∧tdOf PP 347=some ⟨1,false,.other,[.val .nilFunc],false⟩)) ∧
 ((tdOf PP 348=some ⟨1,false,.other,[.val .nilFunc],false⟩∧tdOf PP 349=some ⟨1,false,.other,[.val .nilFunc],false⟩) ∧
 (tdOf PP 350=some ⟨1,false,.other,[.val .nilFunc],false⟩∧tdOf PP 351=some ⟨1,false,.other,[.val .nilFunc],false⟩)))))) ∧
 (((((tdOf PP 353=some ⟨1,false,.other,[.val .nilFunc],false⟩∧(tdOf PP 354=some ⟨1,false,.other,[.val .nilFunc],false⟩∧tdOf PP 355=some ⟨1,false,.other,[.val .nilFunc],false⟩)) ∧
 ((tdOf PP 356=some ⟨1,false,.slice 332 1 8,[.sl [] .nil],false⟩∧tdOf PP 357=some ⟨1,false,.other,[.val .nilFunc],false⟩) ∧
 (tdOf PP 358=some ⟨4,true,.struct [(0,1,false),(1,1,false),(2,1,false),(3,1,false)],[.val (.pointer none),.val (.pointer none),.val (.pointer none),.val (.string ⟨#[]⟩)],false⟩∧tdOf PP 359=some ⟨4,true,.struct [(0,1,false),(1,1,false),(2,1,false),(3,1,false)],[.val (.pointer none),.val (.pointer none),.val (.pointer none),.val (.string ⟨#[]⟩)],false⟩))) ∧
 (((tdOf PP 360=some ⟨0,true,.array 0 1 false,[],false⟩∧tdOf PP 361=some ⟨0,true,.struct [(0,0,true)],[],false⟩) ∧
 (tdOf PP 362=some ⟨0,true,.struct [(0,0,true)],[],false⟩∧tdOf PP 363=some ⟨1,false,.other,[.val .nilFunc],false⟩)) ∧
 ((tdOf PP 364=some ⟨1,false,.int .u8,[.int .u8 0],false⟩∧tdOf PP 365=some ⟨1,false,.int .u8,[.int .u8 0],false⟩) ∧
 (tdOf PP 366=some ⟨1,false,.other,[.val .nilFunc],false⟩∧tdOf PP 367=some ⟨1,false,.other,[.val (.pointer none)],false⟩)))) ∧
 ((((tdOf PP 368=some ⟨1,false,.int .i32,[.int .i32 0],false⟩∧tdOf PP 369=some ⟨1,false,.int .i32,[.int .i32 0],false⟩) ∧
 (tdOf PP 370=some ⟨11,true,.struct [(0,1,false),(1,1,false),(2,1,false),(3,1,false),(4,1,false),(5,1,false),(6,1,false),(7,1,false),(8,1,false),(9,1,false),(10,1,false)],[.int .u64 0,.int .u64 0,.int .u32 0,.int .u8 0,.int .u8 0,.int .u8 0,.int .u8 0,.val .nilFunc,.val (.pointer none),.int .i32 0,.int .i32 0],false⟩∧tdOf PP 371=some ⟨11,true,.struct [(0,1,false),(1,1,false),(2,1,false),(3,1,false),(4,1,false),(5,1,false),(6,1,false),(7,1,false),(8,1,false),(9,1,false),(10,1,false)],[.int .u64 0,.int .u64 0,.int .u32 0,.int .u8 0,.int .u8 0,.int .u8 0,.int .u8 0,.val .nilFunc,.val (.pointer none),.int .i32 0,.int .i32 0],false⟩)) ∧
 ((tdOf PP 372=some ⟨1,false,.other,[.val .nilFunc],false⟩∧tdOf PP 373=some ⟨1,false,.other,[.val .nilFunc],false⟩) ∧
 (tdOf PP 374=some ⟨1,false,.other,[.val .nilFunc],false⟩∧tdOf PP 375=some ⟨1,false,.slice 1 1 8,[.sl [] .nil],false⟩))) ∧
 (((tdOf PP 376=some ⟨1,false,.other,[.val .nilFunc],false⟩∧tdOf PP 377=some ⟨1,false,.other,[.val (.pointer none)],false⟩) ∧
 (ifcT PP 2=true∧ifcT PP 3=true)) ∧
 ((ifcT PP 4=true∧ifcT PP 5=true) ∧
 (ifcT PP 6=true∧ifcT PP 7=true))))) ∧
 (((((ifcT PP 8=true∧ifcT PP 9=true) ∧
 (ifcT PP 10=true∧ifcT PP 11=true)) ∧
 ((ifcT PP 12=true∧ifcT PP 13=true) ∧
 (ifcT PP 14=true∧ifcT PP 18=true))) ∧
 (((ifcT PP 19=true∧ifcT PP 21=true) ∧
 (ifcT PP 22=true∧ifcT PP 23=true)) ∧
 ((ifcT PP 24=true∧slcT PP 25=some 1) ∧
 (appT PP 25 25=some 1∧ifcT PP 25=true)))) ∧
 ((((ifcT PP 27=true∧ifcT PP 28=true) ∧
 (slcT PP 29=some 4∧appT PP 29 29=some 4)) ∧
 ((ifcT PP 29=true∧ifcT PP 30=true) ∧
 (ifcT PP 31=true∧slcT PP 32=some 2))) ∧
 (((appT PP 32 32=some 2∧ifcT PP 32=true) ∧
 (slcT PP 33=some 1∧appT PP 33 33=some 1)) ∧
 ((ifcT PP 33=true∧ifcT PP 34=true) ∧
 (ifcT PP 35=true∧slcT PP 36=some 6))))))) ∧
 ((((((appT PP 36 36=some 6∧(ifcT PP 36=true∧slcT PP 37=some 10)) ∧
 ((appT PP 37 37=some 10∧ifcT PP 37=true) ∧
 (slcT PP 38=some 2∧appT PP 38 38=some 2))) ∧
 (((ifcT PP 38=true∧ifcT PP 39=true) ∧
 (ifcT PP 40=true∧ifcT PP 41=true)) ∧
 ((ifcT PP 49=true∧ifcT PP 50=true) ∧
 (slcT PP 55=some 6∧appT PP 55 55=some 6)))) ∧
 ((((ifcT PP 55=true∧slcT PP 57=some 1) ∧
 (appT PP 57 57=some 1∧ifcT PP 57=true)) ∧
 ((slcT PP 60=some 1∧appT PP 60 60=some 1) ∧
 (ifcT PP 60=true∧slcT PP 63=some 9))) ∧
 (((appT PP 63 63=some 9∧ifcT PP 63=true) ∧
 (ifcT PP 64=true∧ifcT PP 65=true)) ∧
 ((ifcT PP 75=true∧ifcT PP 76=true) ∧
 (ifcT PP 84=true∧ifcT PP 85=true))))) ∧
 (((((ifcT PP 95=true∧ifcT PP 96=true) ∧
 (ifcT PP 104=true∧ifcT PP 105=true)) ∧
 ((mapT PP 108=some (3,51)∧sgT PP 3=some (false,[.i64])) ∧
 (zeroT PP 51=some (.val .nilFunc)∧ifcT PP 120=true))) ∧
 (((ifcT PP 121=true∧mapT PP 122=some (3,3)) ∧
 (zeroT PP 3=some (.int .i64 0)∧mapT PP 124=some (3,26))) ∧
 ((zeroT PP 26=some (.val .nilFunc)∧mapT PP 151=some (3,149)) ∧
 (zeroT PP 149=some (.val .nilFunc)∧ifcT PP 154=true)))) ∧
 ((((ifcT PP 155=true∧ifcT PP 170=true) ∧
 (ifcT PP 175=true∧ifcT PP 176=true)) ∧
 ((ifcT PP 179=true∧ifcT PP 180=true) ∧
 (slcT PP 199=some 1∧appT PP 199 199=some 1))) ∧
 (((ifcT PP 199=true∧ifcT PP 200=true) ∧
 (ifcT PP 201=true∧slcT PP 229=some 2)) ∧
 ((appT PP 229 229=some 2∧ifcT PP 229=true) ∧
 (ifcT PP 232=true∧ifcT PP 233=true)))))) ∧
 (((((mapT PP 242=some (22,4) ∧
 (sgT PP 22=some (false,[.u32])∧zeroT PP 4=some (.bool false))) ∧
 ((slcT PP 247=some 1∧appT PP 247 247=some 1) ∧
 (ifcT PP 247=true∧ifcT PP 249=true))) ∧
 (((ifcT PP 250=true∧ifcT PP 251=true) ∧
 (ifcT PP 252=true∧ifcT PP 253=true)) ∧
 ((mapT PP 254=some (76,201)∧sgT PP 76=some (true,[.i64,.i64,.i64,.u32,.u32,.u32,.u32,.u32,.u32,.u32])) ∧
 (zeroT PP 201=some (.agg [.sl [] .plain,.sl [] .plain,.sl [] .plain])∧mapT PP 277=some (22,275))))) ∧
 ((((zeroT PP 275=some (.val .nilIface)∧slcT PP 286=some 1) ∧
 (appT PP 286 286=some 1∧ifcT PP 286=true)) ∧
 ((slcT PP 292=some 1∧appT PP 292 292=some 1) ∧
 (ifcT PP 292=true∧slcT PP 295=some 1))) ∧
 (((appT PP 295 295=some 1∧ifcT PP 295=true) ∧
 (ifcT PP 299=true∧slcT PP 304=some 1)) ∧
 ((appT PP 304 304=some 1∧ifcT PP 304=true) ∧
 (slcT PP 315=some 1∧appT PP 315 315=some 1))))) ∧
 (((((ifcT PP 315=true∧ifcT PP 317=true) ∧
 (mapT PP 320=some (22,319)∧zeroT PP 319=some (.val .nilFunc))) ∧
 ((ifcT PP 324=true∧ifcT PP 325=true) ∧
 (ifcT PP 330=true∧ifcT PP 331=true))) ∧
 (((ifcT PP 333=true∧ifcT PP 334=true) ∧
 (slcT PP 335=some 1∧appT PP 335 335=some 1)) ∧
 ((ifcT PP 335=true∧ifcT PP 341=true) ∧
 (ifcT PP 342=true∧slcT PP 356=some 1)))) ∧
 ((((appT PP 356 356=some 1∧ifcT PP 356=true) ∧
 (ifcT PP 358=true∧ifcT PP 359=true)) ∧
 ((ifcT PP 360=true∧ifcT PP 361=true) ∧
 (ifcT PP 362=true∧ifcT PP 364=true))) ∧
 (((ifcT PP 365=true∧ifcT PP 368=true) ∧
 (ifcT PP 369=true∧ifcT PP 370=true)) ∧
 ((ifcT PP 371=true∧slcT PP 375=some 1) ∧
 (appT PP 375 375=some 1∧ifcT PP 375=true))))))))):=by
 repeat' apply And.intro
 all_goals kernel_rfl
end Go.Ab
