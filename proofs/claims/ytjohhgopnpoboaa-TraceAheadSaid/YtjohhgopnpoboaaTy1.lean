/- The types of this translation. -/
import Derived.Test.YtjohhgopnpoboaaAbSimp
import Derived.Test.YtjohhgopnpoboaaProg
namespace Go.Ab
open Go
noncomputable abbrev PP : Program := Go.Proofs.Try.prog
theorem ty1 : tdOf PP 1 = some ⟨1, false, .other, [.val .nilFunc], false⟩ := by kernel_rfl
theorem ty2 : tdOf PP 2 = some ⟨1, false, .int .i64, [.int .i64 0], false⟩ := by kernel_rfl
theorem ty3 : tdOf PP 3 = some ⟨1, false, .int .i64, [.int .i64 0], false⟩ := by kernel_rfl
theorem ty4 : tdOf PP 4 = some ⟨1, false, .bool, [.bool false], false⟩ := by kernel_rfl
theorem ty5 : tdOf PP 5 = some ⟨1, false, .int .u8, [.int .u8 0], false⟩ := by kernel_rfl
theorem ty6 : tdOf PP 6 = some ⟨1, false, .int .u8, [.int .u8 0], false⟩ := by kernel_rfl
theorem ty7 : tdOf PP 7 = some ⟨4, true, .struct [(0, 1, false), (1, 1, false), (2, 1, false), (3, 1, false)], [.int .i64 0, .int .i64 0, .bool false, .int .u8 0], false⟩ := by kernel_rfl
theorem ty8 : tdOf PP 8 = some ⟨4, true, .struct [(0, 1, false), (1, 1, false), (2, 1, false), (3, 1, false)], [.int .i64 0, .int .i64 0, .bool false, .int .u8 0], false⟩ := by kernel_rfl
theorem ty9 : tdOf PP 9 = some ⟨1, false, .str, [.val (.string ⟨#[]⟩)], false⟩ := by kernel_rfl
theorem ty10 : tdOf PP 10 = some ⟨1, false, .str, [.val (.string ⟨#[]⟩)], false⟩ := by kernel_rfl
theorem ty11 : tdOf PP 11 = some ⟨1, false, .str, [.val (.string ⟨#[]⟩)], false⟩ := by kernel_rfl
theorem ty12 : tdOf PP 12 = some ⟨1, false, .int .u64, [.int .u64 0], false⟩ := by kernel_rfl
theorem ty13 : tdOf PP 13 = some ⟨2, true, .struct [(0, 1, false), (1, 1, false)], [.val (.string ⟨#[]⟩), .int .u64 0], false⟩ := by kernel_rfl
theorem ty14 : tdOf PP 14 = some ⟨2, true, .struct [(0, 1, false), (1, 1, false)], [.val (.string ⟨#[]⟩), .int .u64 0], false⟩ := by kernel_rfl
theorem ty15 : tdOf PP 15 = some ⟨1, false, .other, [.val (.pointer none)], false⟩ := by kernel_rfl
theorem ty16 : tdOf PP 16 = some ⟨1, false, .other, [.val (.pointer none)], false⟩ := by kernel_rfl
theorem ty17 : tdOf PP 17 = some ⟨1, false, .other, [.val (.pointer none)], false⟩ := by kernel_rfl
theorem ty18 : tdOf PP 18 = some ⟨1, true, .struct [(0, 1, false)], [.val (.pointer none)], false⟩ := by kernel_rfl
theorem ty19 : tdOf PP 19 = some ⟨1, true, .struct [(0, 1, false)], [.val (.pointer none)], false⟩ := by kernel_rfl
theorem ty20 : tdOf PP 20 = some ⟨1, false, .other, [.val .nilIface], false⟩ := by kernel_rfl
theorem ty21 : tdOf PP 21 = some ⟨1, false, .int .i32, [.int .i32 0], false⟩ := by kernel_rfl
theorem ty22 : tdOf PP 22 = some ⟨1, false, .int .u32, [.int .u32 0], false⟩ := by kernel_rfl
theorem ty23 : tdOf PP 23 = some ⟨7, true, .struct [(0, 1, false), (1, 1, false), (2, 1, false), (3, 1, false), (4, 1, false), (5, 1, false), (6, 1, false)], [.int .u32 0, .int .i64 0, .int .i64 0, .int .i64 0, .int .i64 0, .int .i64 0, .int .i64 0], true⟩ := by kernel_rfl
theorem ty24 : tdOf PP 24 = some ⟨7, true, .struct [(0, 1, false), (1, 1, false), (2, 1, false), (3, 1, false), (4, 1, false), (5, 1, false), (6, 1, false)], [.int .u32 0, .int .i64 0, .int .i64 0, .int .i64 0, .int .i64 0, .int .i64 0, .int .i64 0], true⟩ := by kernel_rfl
theorem ty25 : tdOf PP 25 = some ⟨1, false, .slice 22 1 4, [.sl [] .nil], false⟩ := by kernel_rfl
theorem ty26 : tdOf PP 26 = some ⟨2, true, .struct [(0, 1, false), (1, 1, false)], [.sl [] .nil, .int .i64 0], false⟩ := by kernel_rfl
theorem ty27 : tdOf PP 27 = some ⟨2, true, .struct [(0, 1, false), (1, 1, false)], [.sl [] .nil, .int .i64 0], false⟩ := by kernel_rfl
theorem ty28 : tdOf PP 28 = some ⟨1, false, .slice 72 4 40, [.sl [] .nil], false⟩ := by kernel_rfl
theorem ty29 : tdOf PP 29 = some ⟨2, true, .struct [(0, 1, false), (1, 1, false)], [.int .i64 0, .sl [] .nil], false⟩ := by kernel_rfl
theorem ty30 : tdOf PP 30 = some ⟨2, true, .struct [(0, 1, false), (1, 1, false)], [.int .i64 0, .sl [] .nil], false⟩ := by kernel_rfl
theorem ty31 : tdOf PP 31 = some ⟨1, false, .slice 70 2 32, [.sl [] .nil], false⟩ := by kernel_rfl
theorem ty32 : tdOf PP 32 = some ⟨1, false, .slice 25 1 24, [.sl [] .nil], false⟩ := by kernel_rfl
theorem ty33 : tdOf PP 33 = some ⟨3, true, .struct [(0, 1, false), (1, 1, false), (2, 1, false)], [.int .i64 0, .sl [] .nil, .sl [] .nil], false⟩ := by kernel_rfl
theorem ty34 : tdOf PP 34 = some ⟨3, true, .struct [(0, 1, false), (1, 1, false), (2, 1, false)], [.int .i64 0, .sl [] .nil, .sl [] .nil], false⟩ := by kernel_rfl
theorem ty35 : tdOf PP 35 = some ⟨1, false, .slice 45 6 72, [.sl [] .nil], false⟩ := by kernel_rfl
theorem ty36 : tdOf PP 36 = some ⟨1, false, .slice 51 10 56, [.sl [] .nil], false⟩ := by kernel_rfl
theorem ty37 : tdOf PP 37 = some ⟨1, false, .slice 82 2 8, [.sl [] .nil], false⟩ := by kernel_rfl
theorem ty38 : tdOf PP 38 = some ⟨18, true, .struct [(0, 7, true), (7, 2, true), (9, 2, true), (11, 3, true), (14, 1, false), (15, 1, false), (16, 1, false), (17, 1, false)], [.int .u32 0, .int .i64 0, .int .i64 0, .int .i64 0, .int .i64 0, .int .i64 0, .int .i64 0, .sl [] .nil, .int .i64 0, .int .i64 0, .sl [] .nil, .int .i64 0, .sl [] .nil, .sl [] .nil, .sl [] .nil, .sl [] .nil, .sl [] .nil, .sl [] .nil], false⟩ := by kernel_rfl
theorem ty39 : tdOf PP 39 = some ⟨18, true, .struct [(0, 7, true), (7, 2, true), (9, 2, true), (11, 3, true), (14, 1, false), (15, 1, false), (16, 1, false), (17, 1, false)], [.int .u32 0, .int .i64 0, .int .i64 0, .int .i64 0, .int .i64 0, .int .i64 0, .int .i64 0, .sl [] .nil, .int .i64 0, .int .i64 0, .sl [] .nil, .int .i64 0, .sl [] .nil, .sl [] .nil, .sl [] .nil, .sl [] .nil, .sl [] .nil, .sl [] .nil], false⟩ := by kernel_rfl
theorem ty40 : tdOf PP 40 = some ⟨1, false, .other, [.val .nilFunc], false⟩ := by kernel_rfl
theorem ty41 : tdOf PP 41 = some ⟨1, false, .other, [.val .nilFunc], false⟩ := by kernel_rfl
theorem ty42 : tdOf PP 42 = some ⟨1, false, .other, [.val .nilFunc], false⟩ := by kernel_rfl
theorem ty43 : tdOf PP 43 = some ⟨1, false, .slice 106 9 48, [.sl [] .nil], false⟩ := by kernel_rfl
theorem ty44 : tdOf PP 44 = some ⟨6, true, .struct [(0, 1, false), (1, 1, false), (2, 1, false), (3, 1, false), (4, 1, false), (5, 1, false)], [.int .u32 0, .int .u32 0, .int .u32 0, .sl [] .nil, .sl [] .nil, .bool false], false⟩ := by kernel_rfl
theorem ty45 : tdOf PP 45 = some ⟨6, true, .struct [(0, 1, false), (1, 1, false), (2, 1, false), (3, 1, false), (4, 1, false), (5, 1, false)], [.int .u32 0, .int .u32 0, .int .u32 0, .sl [] .nil, .sl [] .nil, .bool false], false⟩ := by kernel_rfl
theorem ty47 : tdOf PP 47 = some ⟨1, false, .other, [.val .nilFunc], false⟩ := by kernel_rfl
theorem ty48 : tdOf PP 48 = some ⟨1, false, .other, [.val .nilFunc], false⟩ := by kernel_rfl
theorem ty49 : tdOf PP 49 = some ⟨1, false, .other, [.val .nilFunc], false⟩ := by kernel_rfl
theorem ty50 : tdOf PP 50 = some ⟨10, true, .struct [(0, 1, false), (1, 1, false), (2, 1, false), (3, 1, false), (4, 1, false), (5, 1, false), (6, 1, false), (7, 1, false), (8, 1, false), (9, 1, false)], [.int .i64 0, .int .i64 0, .int .i64 0, .int .u32 0, .int .u32 0, .int .u32 0, .int .u32 0, .int .u32 0, .int .u32 0, .int .u32 0], true⟩ := by kernel_rfl
theorem ty51 : tdOf PP 51 = some ⟨10, true, .struct [(0, 1, false), (1, 1, false), (2, 1, false), (3, 1, false), (4, 1, false), (5, 1, false), (6, 1, false), (7, 1, false), (8, 1, false), (9, 1, false)], [.int .i64 0, .int .i64 0, .int .i64 0, .int .u32 0, .int .u32 0, .int .u32 0, .int .u32 0, .int .u32 0, .int .u32 0, .int .u32 0], true⟩ := by kernel_rfl
theorem ty52 : tdOf PP 52 = some ⟨1, false, .slice 84 6 64, [.sl [] .nil], false⟩ := by kernel_rfl
theorem ty53 : tdOf PP 53 = some ⟨1, false, .other, [.val .nilFunc], false⟩ := by kernel_rfl
theorem ty54 : tdOf PP 54 = some ⟨1, false, .other, [.val .nilFunc], false⟩ := by kernel_rfl
theorem ty55 : tdOf PP 55 = some ⟨1, false, .other, [.val .nilFunc], false⟩ := by kernel_rfl
theorem ty56 : tdOf PP 56 = some ⟨1, false, .other, [.val .nilFunc], false⟩ := by kernel_rfl
theorem ty57 : tdOf PP 57 = some ⟨1, false, .other, [.val .nilFunc], false⟩ := by kernel_rfl
theorem ty58 : tdOf PP 58 = some ⟨1, false, .other, [.val .nilFunc], false⟩ := by kernel_rfl
theorem ty59 : tdOf PP 59 = some ⟨1, false, .other, [.val .nilFunc], false⟩ := by kernel_rfl
theorem ty60 : tdOf PP 60 = some ⟨1, false, .other, [.val .nilFunc], false⟩ := by kernel_rfl
theorem ty61 : tdOf PP 61 = some ⟨1, false, .other, [.val .nilFunc], false⟩ := by kernel_rfl
theorem ty62 : tdOf PP 62 = some ⟨1, false, .other, [.val .nilFunc], false⟩ := by kernel_rfl
theorem ty63 : tdOf PP 63 = some ⟨1, false, .other, [.val .nilFunc], false⟩ := by kernel_rfl
theorem ty64 : tdOf PP 64 = some ⟨1, false, .other, [.val .nilFunc], false⟩ := by kernel_rfl
theorem ty65 : tdOf PP 65 = some ⟨1, false, .other, [.val .nilFunc], false⟩ := by kernel_rfl
theorem ty66 : tdOf PP 66 = some ⟨1, false, .other, [.val .nilFunc], false⟩ := by kernel_rfl
theorem ty67 : tdOf PP 67 = some ⟨1, false, .other, [.val .nilFunc], false⟩ := by kernel_rfl
theorem ty68 : tdOf PP 68 = some ⟨1, false, .other, [.val .nilFunc], false⟩ := by kernel_rfl
theorem ty69 : tdOf PP 69 = some ⟨2, true, .struct [(0, 1, false), (1, 1, false)], [.int .u32 0, .sl [] .nil], false⟩ := by kernel_rfl
theorem ty70 : tdOf PP 70 = some ⟨2, true, .struct [(0, 1, false), (1, 1, false)], [.int .u32 0, .sl [] .nil], false⟩ := by kernel_rfl
theorem ty71 : tdOf PP 71 = some ⟨4, true, .struct [(0, 1, false), (1, 1, false), (2, 1, false), (3, 1, false)], [.int .u32 0, .int .u32 0, .int .u32 0, .sl [] .nil], false⟩ := by kernel_rfl
theorem ty72 : tdOf PP 72 = some ⟨4, true, .struct [(0, 1, false), (1, 1, false), (2, 1, false), (3, 1, false)], [.int .u32 0, .int .u32 0, .int .u32 0, .sl [] .nil], false⟩ := by kernel_rfl
theorem ty73 : tdOf PP 73 = some ⟨1, false, .slice 116 1 16, [.sl [] .nil], false⟩ := by kernel_rfl
theorem ty74 : tdOf PP 74 = some ⟨3, true, .struct [(0, 1, false), (1, 1, false), (2, 1, false)], [.sl [] .nil, .sl [] .nil, .sl [] .nil], false⟩ := by kernel_rfl
theorem ty75 : tdOf PP 75 = some ⟨3, true, .struct [(0, 1, false), (1, 1, false), (2, 1, false)], [.sl [] .nil, .sl [] .nil, .sl [] .nil], false⟩ := by kernel_rfl
theorem ty77 : tdOf PP 77 = some ⟨1, false, .other, [.val .nilFunc], false⟩ := by kernel_rfl
theorem ty78 : tdOf PP 78 = some ⟨1, false, .other, [.val .nilFunc], false⟩ := by kernel_rfl
theorem ty79 : tdOf PP 79 = some ⟨1, false, .other, [.val .nilFunc], false⟩ := by kernel_rfl
theorem ty80 : tdOf PP 80 = some ⟨1, false, .other, [.val .nilFunc], false⟩ := by kernel_rfl
theorem ty81 : tdOf PP 81 = some ⟨2, true, .struct [(0, 1, false), (1, 1, false)], [.int .u32 0, .int .u32 0], true⟩ := by kernel_rfl
theorem ty82 : tdOf PP 82 = some ⟨2, true, .struct [(0, 1, false), (1, 1, false)], [.int .u32 0, .int .u32 0], true⟩ := by kernel_rfl
theorem ty83 : tdOf PP 83 = some ⟨6, true, .struct [(0, 1, false), (1, 1, false), (2, 1, false), (3, 1, false), (4, 1, false), (5, 1, false)], [.int .i64 0, .int .i64 0, .int .i64 0, .int .i64 0, .int .i64 0, .sl [] .nil], false⟩ := by kernel_rfl
theorem ty84 : tdOf PP 84 = some ⟨6, true, .struct [(0, 1, false), (1, 1, false), (2, 1, false), (3, 1, false), (4, 1, false), (5, 1, false)], [.int .i64 0, .int .i64 0, .int .i64 0, .int .i64 0, .int .i64 0, .sl [] .nil], false⟩ := by kernel_rfl
theorem ty85 : tdOf PP 85 = some ⟨1, false, .other, [.val .nilFunc], false⟩ := by kernel_rfl
theorem ty86 : tdOf PP 86 = some ⟨1, false, .other, [.val .nilFunc], false⟩ := by kernel_rfl
theorem ty87 : tdOf PP 87 = some ⟨1, false, .other, [.val .nilFunc], false⟩ := by kernel_rfl
theorem ty88 : tdOf PP 88 = some ⟨1, false, .other, [.val .nilFunc], false⟩ := by kernel_rfl
theorem ty89 : tdOf PP 89 = some ⟨1, false, .other, [.val .nilFunc], false⟩ := by kernel_rfl
theorem ty90 : tdOf PP 90 = some ⟨1, false, .other, [.val .nilFunc], false⟩ := by kernel_rfl
theorem ty91 : tdOf PP 91 = some ⟨1, false, .other, [.val .nilFunc], false⟩ := by kernel_rfl
theorem ty92 : tdOf PP 92 = some ⟨1, false, .other, [.val .nilFunc], false⟩ := by kernel_rfl
theorem ty93 : tdOf PP 93 = some ⟨1, false, .other, [.val .nilFunc], false⟩ := by kernel_rfl
theorem ty94 : tdOf PP 94 = some ⟨1, false, .other, [.val .nilFunc], false⟩ := by kernel_rfl
theorem ty95 : tdOf PP 95 = some ⟨1, false, .other, [.val .nilFunc], false⟩ := by kernel_rfl
theorem ty96 : tdOf PP 96 = some ⟨1, false, .other, [.val .nilFunc], false⟩ := by kernel_rfl
theorem ty97 : tdOf PP 97 = some ⟨1, false, .other, [.val .nilFunc], false⟩ := by kernel_rfl
theorem ty98 : tdOf PP 98 = some ⟨1, false, .other, [.val .nilFunc], false⟩ := by kernel_rfl
theorem ty99 : tdOf PP 99 = some ⟨1, false, .other, [.val .nilFunc], false⟩ := by kernel_rfl
theorem ty101 : tdOf PP 101 = some ⟨1, false, .other, [.val .nilFunc], false⟩ := by kernel_rfl
theorem ty102 : tdOf PP 102 = some ⟨1, false, .other, [.val .nilFunc], false⟩ := by kernel_rfl
theorem ty103 : tdOf PP 103 = some ⟨1, false, .other, [.val .nilFunc], false⟩ := by kernel_rfl
theorem ty104 : tdOf PP 104 = some ⟨1, false, .other, [.val .nilFunc], false⟩ := by kernel_rfl
theorem ty105 : tdOf PP 105 = some ⟨9, true, .struct [(0, 1, false), (1, 1, false), (2, 1, false), (3, 1, false), (4, 1, false), (5, 1, false), (6, 1, false), (7, 1, false), (8, 1, false)], [.int .i64 0, .int .i64 0, .int .u32 0, .int .u32 0, .int .u32 0, .int .u32 0, .int .u32 0, .int .u32 0, .int .i64 0], true⟩ := by kernel_rfl
theorem ty106 : tdOf PP 106 = some ⟨9, true, .struct [(0, 1, false), (1, 1, false), (2, 1, false), (3, 1, false), (4, 1, false), (5, 1, false), (6, 1, false), (7, 1, false), (8, 1, false)], [.int .i64 0, .int .i64 0, .int .u32 0, .int .u32 0, .int .u32 0, .int .u32 0, .int .u32 0, .int .u32 0, .int .i64 0], true⟩ := by kernel_rfl
theorem ty107 : tdOf PP 107 = some ⟨0, true, .struct [], [], true⟩ := by kernel_rfl
theorem ty108 : tdOf PP 108 = some ⟨0, true, .struct [], [], true⟩ := by kernel_rfl
theorem ty109 : tdOf PP 109 = some ⟨3, true, .struct [(0, 1, false), (1, 1, false), (2, 1, false)], [.int .i64 0, .int .i64 0, .int .i64 0], true⟩ := by kernel_rfl
theorem ty110 : tdOf PP 110 = some ⟨3, true, .struct [(0, 1, false), (1, 1, false), (2, 1, false)], [.int .i64 0, .int .i64 0, .int .i64 0], true⟩ := by kernel_rfl
theorem ty111 : tdOf PP 111 = some ⟨3, true, .struct [(0, 1, false), (1, 1, false), (2, 1, false)], [.int .i64 0, .int .i64 0, .int .i64 0], true⟩ := by kernel_rfl
theorem ty112 : tdOf PP 112 = some ⟨1, false, .map 51 75, [.val (.map none)], false⟩ := by kernel_rfl
theorem ty114 : tdOf PP 114 = some ⟨1, false, .other, [.val .nilFunc], false⟩ := by kernel_rfl
theorem ty115 : tdOf PP 115 = some ⟨1, false, .other, [.val .nilIface], false⟩ := by kernel_rfl
theorem ty116 : tdOf PP 116 = some ⟨1, false, .other, [.val .nilIface], false⟩ := by kernel_rfl
theorem ty117 : tdOf PP 117 = some ⟨1, false, .other, [.val .nilFunc], false⟩ := by kernel_rfl
theorem ty118 : tdOf PP 118 = some ⟨1, false, .other, [.val .nilFunc], false⟩ := by kernel_rfl
theorem ty119 : tdOf PP 119 = some ⟨1, false, .other, [.val .nilFunc], false⟩ := by kernel_rfl
theorem ty120 : tdOf PP 120 = some ⟨1, false, .other, [.val .nilFunc], false⟩ := by kernel_rfl
theorem ty121 : tdOf PP 121 = some ⟨1, false, .other, [.val .nilFunc], false⟩ := by kernel_rfl
theorem ty122 : tdOf PP 122 = some ⟨1, false, .map 22 4, [.val (.map none)], false⟩ := by kernel_rfl
theorem ty123 : tdOf PP 123 = some ⟨1, false, .other, [.val .nilFunc], false⟩ := by kernel_rfl
theorem ty124 : tdOf PP 124 = some ⟨1, false, .other, [.val .nilFunc], false⟩ := by kernel_rfl
theorem ty125 : tdOf PP 125 = some ⟨1, false, .other, [.val .nilFunc], false⟩ := by kernel_rfl
theorem ty127 : tdOf PP 127 = some ⟨1, false, .other, [.val .nilFunc], false⟩ := by kernel_rfl
theorem ty128 : tdOf PP 128 = some ⟨1, false, .other, [.val .nilFunc], false⟩ := by kernel_rfl
theorem ty129 : tdOf PP 129 = some ⟨1, false, .slice 32 1 24, [.sl [] .nil], false⟩ := by kernel_rfl
theorem ty130 : tdOf PP 130 = some ⟨1, false, .other, [.val .nilFunc], false⟩ := by kernel_rfl
theorem ty131 : tdOf PP 131 = some ⟨1, false, .other, [.val .nilFunc], false⟩ := by kernel_rfl
theorem ty132 : tdOf PP 132 = some ⟨1, false, .other, [.val .nilFunc], false⟩ := by kernel_rfl
theorem ty133 : tdOf PP 133 = some ⟨1, false, .other, [.val .nilFunc], false⟩ := by kernel_rfl
theorem ty134 : tdOf PP 134 = some ⟨1, false, .other, [.val .nilFunc], false⟩ := by kernel_rfl
theorem ty135 : tdOf PP 135 = some ⟨1, false, .int .u64, [.int .u64 0], false⟩ := by kernel_rfl
theorem ty136 : tdOf PP 136 = some ⟨1, false, .other, [.val .nilFunc], false⟩ := by kernel_rfl
theorem ty137 : tdOf PP 137 = some ⟨1, false, .other, [.val .nilFunc], false⟩ := by kernel_rfl
theorem ty138 : tdOf PP 138 = some ⟨4, true, .struct [(0, 1, false), (1, 1, false), (2, 1, false), (3, 1, false)], [.val (.pointer none), .val (.pointer none), .val (.pointer none), .val (.string ⟨#[]⟩)], false⟩ := by kernel_rfl
theorem ty139 : tdOf PP 139 = some ⟨4, true, .struct [(0, 1, false), (1, 1, false), (2, 1, false), (3, 1, false)], [.val (.pointer none), .val (.pointer none), .val (.pointer none), .val (.string ⟨#[]⟩)], false⟩ := by kernel_rfl
theorem ty140 : tdOf PP 140 = some ⟨0, true, .array 0 1 false, [], false⟩ := by kernel_rfl
theorem ty141 : tdOf PP 141 = some ⟨0, true, .struct [(0, 0, true)], [], false⟩ := by kernel_rfl
theorem ty142 : tdOf PP 142 = some ⟨0, true, .struct [(0, 0, true)], [], false⟩ := by kernel_rfl
theorem ty143 : tdOf PP 143 = some ⟨1, false, .other, [.val .nilFunc], false⟩ := by kernel_rfl
theorem ty144 : tdOf PP 144 = some ⟨1, false, .int .u8, [.int .u8 0], false⟩ := by kernel_rfl
theorem ty145 : tdOf PP 145 = some ⟨1, false, .int .u8, [.int .u8 0], false⟩ := by kernel_rfl
theorem ty146 : tdOf PP 146 = some ⟨1, false, .other, [.val .nilFunc], false⟩ := by kernel_rfl
theorem ty147 : tdOf PP 147 = some ⟨1, false, .other, [.val (.pointer none)], false⟩ := by kernel_rfl
theorem ty148 : tdOf PP 148 = some ⟨1, false, .int .i32, [.int .i32 0], false⟩ := by kernel_rfl
theorem ty149 : tdOf PP 149 = some ⟨1, false, .int .i32, [.int .i32 0], false⟩ := by kernel_rfl
theorem ty150 : tdOf PP 150 = some ⟨11, true, .struct [(0, 1, false), (1, 1, false), (2, 1, false), (3, 1, false), (4, 1, false), (5, 1, false), (6, 1, false), (7, 1, false), (8, 1, false), (9, 1, false), (10, 1, false)], [.int .u64 0, .int .u64 0, .int .u32 0, .int .u8 0, .int .u8 0, .int .u8 0, .int .u8 0, .val .nilFunc, .val (.pointer none), .int .i32 0, .int .i32 0], false⟩ := by kernel_rfl
theorem ty151 : tdOf PP 151 = some ⟨11, true, .struct [(0, 1, false), (1, 1, false), (2, 1, false), (3, 1, false), (4, 1, false), (5, 1, false), (6, 1, false), (7, 1, false), (8, 1, false), (9, 1, false), (10, 1, false)], [.int .u64 0, .int .u64 0, .int .u32 0, .int .u8 0, .int .u8 0, .int .u8 0, .int .u8 0, .val .nilFunc, .val (.pointer none), .int .i32 0, .int .i32 0], false⟩ := by kernel_rfl
theorem ty152 : tdOf PP 152 = some ⟨1, false, .other, [.val .nilFunc], false⟩ := by kernel_rfl
theorem ty153 : tdOf PP 153 = some ⟨1, false, .other, [.val .nilFunc], false⟩ := by kernel_rfl
theorem ty154 : tdOf PP 154 = some ⟨1, false, .other, [.val .nilFunc], false⟩ := by kernel_rfl
theorem ty155 : tdOf PP 155 = some ⟨1, false, .slice 1 1 8, [.sl [] .nil], false⟩ := by kernel_rfl
theorem ty156 : tdOf PP 156 = some ⟨1, false, .other, [.val .nilFunc], false⟩ := by kernel_rfl
theorem ty157 : tdOf PP 157 = some ⟨1, false, .other, [.val (.pointer none)], false⟩ := by kernel_rfl
theorem if2 : ifcT PP 2 = true := by kernel_rfl
theorem if3 : ifcT PP 3 = true := by kernel_rfl
theorem if4 : ifcT PP 4 = true := by kernel_rfl
theorem if5 : ifcT PP 5 = true := by kernel_rfl
theorem if6 : ifcT PP 6 = true := by kernel_rfl
theorem if7 : ifcT PP 7 = true := by kernel_rfl
theorem if8 : ifcT PP 8 = true := by kernel_rfl
theorem if9 : ifcT PP 9 = true := by kernel_rfl
theorem if10 : ifcT PP 10 = true := by kernel_rfl
theorem if11 : ifcT PP 11 = true := by kernel_rfl
theorem if12 : ifcT PP 12 = true := by kernel_rfl
theorem if13 : ifcT PP 13 = true := by kernel_rfl
theorem if14 : ifcT PP 14 = true := by kernel_rfl
theorem if18 : ifcT PP 18 = true := by kernel_rfl
theorem if19 : ifcT PP 19 = true := by kernel_rfl
theorem if21 : ifcT PP 21 = true := by kernel_rfl
theorem if22 : ifcT PP 22 = true := by kernel_rfl
theorem if23 : ifcT PP 23 = true := by kernel_rfl
theorem if24 : ifcT PP 24 = true := by kernel_rfl
theorem sl25 : slcT PP 25 = some 1 := by kernel_rfl
theorem ap25 : appT PP 25 25 = some 1 := by kernel_rfl
theorem if25 : ifcT PP 25 = true := by kernel_rfl
theorem if26 : ifcT PP 26 = true := by kernel_rfl
theorem if27 : ifcT PP 27 = true := by kernel_rfl
theorem sl28 : slcT PP 28 = some 4 := by kernel_rfl
theorem ap28 : appT PP 28 28 = some 4 := by kernel_rfl
theorem if28 : ifcT PP 28 = true := by kernel_rfl
theorem if29 : ifcT PP 29 = true := by kernel_rfl
theorem if30 : ifcT PP 30 = true := by kernel_rfl
theorem sl31 : slcT PP 31 = some 2 := by kernel_rfl
theorem ap31 : appT PP 31 31 = some 2 := by kernel_rfl
theorem if31 : ifcT PP 31 = true := by kernel_rfl
theorem sl32 : slcT PP 32 = some 1 := by kernel_rfl
theorem ap32 : appT PP 32 32 = some 1 := by kernel_rfl
theorem if32 : ifcT PP 32 = true := by kernel_rfl
theorem if33 : ifcT PP 33 = true := by kernel_rfl
theorem if34 : ifcT PP 34 = true := by kernel_rfl
theorem sl35 : slcT PP 35 = some 6 := by kernel_rfl
theorem ap35 : appT PP 35 35 = some 6 := by kernel_rfl
theorem if35 : ifcT PP 35 = true := by kernel_rfl
theorem sl36 : slcT PP 36 = some 10 := by kernel_rfl
theorem ap36 : appT PP 36 36 = some 10 := by kernel_rfl
theorem if36 : ifcT PP 36 = true := by kernel_rfl
theorem sl37 : slcT PP 37 = some 2 := by kernel_rfl
theorem ap37 : appT PP 37 37 = some 2 := by kernel_rfl
theorem if37 : ifcT PP 37 = true := by kernel_rfl
theorem if38 : ifcT PP 38 = true := by kernel_rfl
theorem if39 : ifcT PP 39 = true := by kernel_rfl
theorem sl43 : slcT PP 43 = some 9 := by kernel_rfl
theorem ap43 : appT PP 43 43 = some 9 := by kernel_rfl
theorem if43 : ifcT PP 43 = true := by kernel_rfl
theorem if44 : ifcT PP 44 = true := by kernel_rfl
theorem if45 : ifcT PP 45 = true := by kernel_rfl
theorem if50 : ifcT PP 50 = true := by kernel_rfl
theorem if51 : ifcT PP 51 = true := by kernel_rfl
theorem sl52 : slcT PP 52 = some 6 := by kernel_rfl
theorem ap52 : appT PP 52 52 = some 6 := by kernel_rfl
theorem if52 : ifcT PP 52 = true := by kernel_rfl
theorem if69 : ifcT PP 69 = true := by kernel_rfl
theorem if70 : ifcT PP 70 = true := by kernel_rfl
theorem if71 : ifcT PP 71 = true := by kernel_rfl
theorem if72 : ifcT PP 72 = true := by kernel_rfl
theorem sl73 : slcT PP 73 = some 1 := by kernel_rfl
theorem ap73 : appT PP 73 73 = some 1 := by kernel_rfl
theorem if73 : ifcT PP 73 = true := by kernel_rfl
theorem if74 : ifcT PP 74 = true := by kernel_rfl
theorem if75 : ifcT PP 75 = true := by kernel_rfl
theorem if81 : ifcT PP 81 = true := by kernel_rfl
theorem if82 : ifcT PP 82 = true := by kernel_rfl
theorem if83 : ifcT PP 83 = true := by kernel_rfl
theorem if84 : ifcT PP 84 = true := by kernel_rfl
theorem if105 : ifcT PP 105 = true := by kernel_rfl
theorem if106 : ifcT PP 106 = true := by kernel_rfl
theorem if107 : ifcT PP 107 = true := by kernel_rfl
theorem if108 : ifcT PP 108 = true := by kernel_rfl
theorem if109 : ifcT PP 109 = true := by kernel_rfl
theorem if110 : ifcT PP 110 = true := by kernel_rfl
theorem if111 : ifcT PP 111 = true := by kernel_rfl
theorem mt112 : mapT PP 112 = some (51, 75) := by kernel_rfl
theorem sg51 : sgT PP 51 = some (true, [.i64, .i64, .i64, .u32, .u32, .u32, .u32, .u32, .u32, .u32]) := by kernel_rfl
theorem zt75 : zeroT PP 75 = some (.agg [.sl [] .plain, .sl [] .plain, .sl [] .plain]) := by kernel_rfl
theorem mt122 : mapT PP 122 = some (22, 4) := by kernel_rfl
theorem sg22 : sgT PP 22 = some (false, [.u32]) := by kernel_rfl
theorem zt4 : zeroT PP 4 = some (.bool false) := by kernel_rfl
theorem sl129 : slcT PP 129 = some 1 := by kernel_rfl
theorem ap129 : appT PP 129 129 = some 1 := by kernel_rfl
theorem if129 : ifcT PP 129 = true := by kernel_rfl
theorem if135 : ifcT PP 135 = true := by kernel_rfl
theorem if138 : ifcT PP 138 = true := by kernel_rfl
theorem if139 : ifcT PP 139 = true := by kernel_rfl
theorem if140 : ifcT PP 140 = true := by kernel_rfl
theorem if141 : ifcT PP 141 = true := by kernel_rfl
theorem if142 : ifcT PP 142 = true := by kernel_rfl
theorem if144 : ifcT PP 144 = true := by kernel_rfl
theorem if145 : ifcT PP 145 = true := by kernel_rfl
theorem if148 : ifcT PP 148 = true := by kernel_rfl
theorem if149 : ifcT PP 149 = true := by kernel_rfl
theorem if150 : ifcT PP 150 = true := by kernel_rfl
theorem if151 : ifcT PP 151 = true := by kernel_rfl
theorem sl155 : slcT PP 155 = some 1 := by kernel_rfl
theorem ap155 : appT PP 155 155 = some 1 := by kernel_rfl
theorem if155 : ifcT PP 155 = true := by kernel_rfl
theorem tys : ((((((((type_of% ty1) ∧ ((type_of% ty2) ∧ (type_of% ty3))) ∧ (((type_of% ty4) ∧ (type_of% ty5)) ∧ ((type_of% ty6) ∧ (type_of% ty7)))) ∧ ((((type_of% ty8) ∧ (type_of% ty9)) ∧ ((type_of% ty10) ∧ (type_of% ty11))) ∧ (((type_of% ty12) ∧ (type_of% ty13)) ∧ ((type_of% ty14) ∧ (type_of% ty15))))) ∧ (((((type_of% ty16) ∧ (type_of% ty17)) ∧ ((type_of% ty18) ∧ (type_of% ty19))) ∧ (((type_of% ty20) ∧ (type_of% ty21)) ∧ ((type_of% ty22) ∧ (type_of% ty23)))) ∧ ((((type_of% ty24) ∧ (type_of% ty25)) ∧ ((type_of% ty26) ∧ (type_of% ty27))) ∧ (((type_of% ty28) ∧ (type_of% ty29)) ∧ ((type_of% ty30) ∧ (type_of% ty31)))))) ∧ ((((((type_of% ty32) ∧ (type_of% ty33)) ∧ ((type_of% ty34) ∧ (type_of% ty35))) ∧ (((type_of% ty36) ∧ (type_of% ty37)) ∧ ((type_of% ty38) ∧ (type_of% ty39)))) ∧ ((((type_of% ty40) ∧ (type_of% ty41)) ∧ ((type_of% ty42) ∧ (type_of% ty43))) ∧ (((type_of% ty44) ∧ (type_of% ty45)) ∧ ((type_of% ty47) ∧ (type_of% ty48))))) ∧ (((((type_of% ty49) ∧ (type_of% ty50)) ∧ ((type_of% ty51) ∧ (type_of% ty52))) ∧ (((type_of% ty53) ∧ (type_of% ty54)) ∧ ((type_of% ty55) ∧ (type_of% ty56)))) ∧ ((((type_of% ty57) ∧ (type_of% ty58)) ∧ ((type_of% ty59) ∧ (type_of% ty60))) ∧ (((type_of% ty61) ∧ (type_of% ty62)) ∧ ((type_of% ty63) ∧ (type_of% ty64))))))) ∧ (((((((type_of% ty65) ∧ (type_of% ty66)) ∧ ((type_of% ty67) ∧ (type_of% ty68))) ∧ (((type_of% ty69) ∧ (type_of% ty70)) ∧ ((type_of% ty71) ∧ (type_of% ty72)))) ∧ ((((type_of% ty73) ∧ (type_of% ty74)) ∧ ((type_of% ty75) ∧ (type_of% ty77))) ∧ (((type_of% ty78) ∧ (type_of% ty79)) ∧ ((type_of% ty80) ∧ (type_of% ty81))))) ∧ (((((type_of% ty82) ∧ (type_of% ty83)) ∧ ((type_of% ty84) ∧ (type_of% ty85))) ∧ (((type_of% ty86) ∧ (type_of% ty87)) ∧ ((type_of% ty88) ∧ (type_of% ty89)))) ∧ ((((type_of% ty90) ∧ (type_of% ty91)) ∧ ((type_of% ty92) ∧ (type_of% ty93))) ∧ (((type_of% ty94) ∧ (type_of% ty95)) ∧ ((type_of% ty96) ∧ (type_of% ty97)))))) ∧ ((((((type_of% ty98) ∧ (type_of% ty99)) ∧ ((type_of% ty101) ∧ (type_of% ty102))) ∧ (((type_of% ty103) ∧ (type_of% ty104)) ∧ ((type_of% ty105) ∧ (type_of% ty106)))) ∧ ((((type_of% ty107) ∧ (type_of% ty108)) ∧ ((type_of% ty109) ∧ (type_of% ty110))) ∧ (((type_of% ty111) ∧ (type_of% ty112)) ∧ ((type_of% ty114) ∧ (type_of% ty115))))) ∧ (((((type_of% ty116) ∧ (type_of% ty117)) ∧ ((type_of% ty118) ∧ (type_of% ty119))) ∧ (((type_of% ty120) ∧ (type_of% ty121)) ∧ ((type_of% ty122) ∧ (type_of% ty123)))) ∧ ((((type_of% ty124) ∧ (type_of% ty125)) ∧ ((type_of% ty127) ∧ (type_of% ty128))) ∧ (((type_of% ty129) ∧ (type_of% ty130)) ∧ ((type_of% ty131) ∧ (type_of% ty132)))))))) ∧ (((((((type_of% ty133) ∧ ((type_of% ty134) ∧ (type_of% ty135))) ∧ (((type_of% ty136) ∧ (type_of% ty137)) ∧ ((type_of% ty138) ∧ (type_of% ty139)))) ∧ ((((type_of% ty140) ∧ (type_of% ty141)) ∧ ((type_of% ty142) ∧ (type_of% ty143))) ∧ (((type_of% ty144) ∧ (type_of% ty145)) ∧ ((type_of% ty146) ∧ (type_of% ty147))))) ∧ (((((type_of% ty148) ∧ (type_of% ty149)) ∧ ((type_of% ty150) ∧ (type_of% ty151))) ∧ (((type_of% ty152) ∧ (type_of% ty153)) ∧ ((type_of% ty154) ∧ (type_of% ty155)))) ∧ ((((type_of% ty156) ∧ (type_of% ty157)) ∧ ((type_of% if2) ∧ (type_of% if3))) ∧ (((type_of% if4) ∧ (type_of% if5)) ∧ ((type_of% if6) ∧ (type_of% if7)))))) ∧ ((((((type_of% if8) ∧ (type_of% if9)) ∧ ((type_of% if10) ∧ (type_of% if11))) ∧ (((type_of% if12) ∧ (type_of% if13)) ∧ ((type_of% if14) ∧ (type_of% if18)))) ∧ ((((type_of% if19) ∧ (type_of% if21)) ∧ ((type_of% if22) ∧ (type_of% if23))) ∧ (((type_of% if24) ∧ (type_of% sl25)) ∧ ((type_of% ap25) ∧ (type_of% if25))))) ∧ (((((type_of% if26) ∧ (type_of% if27)) ∧ ((type_of% sl28) ∧ (type_of% ap28))) ∧ (((type_of% if28) ∧ (type_of% if29)) ∧ ((type_of% if30) ∧ (type_of% sl31)))) ∧ ((((type_of% ap31) ∧ (type_of% if31)) ∧ ((type_of% sl32) ∧ (type_of% ap32))) ∧ (((type_of% if32) ∧ (type_of% if33)) ∧ ((type_of% if34) ∧ (type_of% sl35))))))) ∧ (((((((type_of% ap35) ∧ (type_of% if35)) ∧ ((type_of% sl36) ∧ (type_of% ap36))) ∧ (((type_of% if36) ∧ (type_of% sl37)) ∧ ((type_of% ap37) ∧ (type_of% if37)))) ∧ ((((type_of% if38) ∧ (type_of% if39)) ∧ ((type_of% sl43) ∧ (type_of% ap43))) ∧ (((type_of% if43) ∧ (type_of% if44)) ∧ ((type_of% if45) ∧ (type_of% if50))))) ∧ (((((type_of% if51) ∧ (type_of% sl52)) ∧ ((type_of% ap52) ∧ (type_of% if52))) ∧ (((type_of% if69) ∧ (type_of% if70)) ∧ ((type_of% if71) ∧ (type_of% if72)))) ∧ ((((type_of% sl73) ∧ (type_of% ap73)) ∧ ((type_of% if73) ∧ (type_of% if74))) ∧ (((type_of% if75) ∧ (type_of% if81)) ∧ ((type_of% if82) ∧ (type_of% if83)))))) ∧ ((((((type_of% if84) ∧ (type_of% if105)) ∧ ((type_of% if106) ∧ (type_of% if107))) ∧ (((type_of% if108) ∧ (type_of% if109)) ∧ ((type_of% if110) ∧ (type_of% if111)))) ∧ ((((type_of% mt112) ∧ (type_of% sg51)) ∧ ((type_of% zt75) ∧ (type_of% mt122))) ∧ (((type_of% sg22) ∧ (type_of% zt4)) ∧ ((type_of% sl129) ∧ (type_of% ap129))))) ∧ (((((type_of% if129) ∧ (type_of% if135)) ∧ ((type_of% if138) ∧ (type_of% if139))) ∧ (((type_of% if140) ∧ (type_of% if141)) ∧ ((type_of% if142) ∧ (type_of% if144)))) ∧ ((((type_of% if145) ∧ (type_of% if148)) ∧ ((type_of% if149) ∧ (type_of% if150))) ∧ (((type_of% if151) ∧ (type_of% sl155)) ∧ ((type_of% ap155) ∧ (type_of% if155))))))))) := ⟨⟨⟨⟨⟨⟨⟨ty1, ⟨ty2, ty3⟩⟩, ⟨⟨ty4, ty5⟩, ⟨ty6, ty7⟩⟩⟩, ⟨⟨⟨ty8, ty9⟩, ⟨ty10, ty11⟩⟩, ⟨⟨ty12, ty13⟩, ⟨ty14, ty15⟩⟩⟩⟩, ⟨⟨⟨⟨ty16, ty17⟩, ⟨ty18, ty19⟩⟩, ⟨⟨ty20, ty21⟩, ⟨ty22, ty23⟩⟩⟩, ⟨⟨⟨ty24, ty25⟩, ⟨ty26, ty27⟩⟩, ⟨⟨ty28, ty29⟩, ⟨ty30, ty31⟩⟩⟩⟩⟩, ⟨⟨⟨⟨⟨ty32, ty33⟩, ⟨ty34, ty35⟩⟩, ⟨⟨ty36, ty37⟩, ⟨ty38, ty39⟩⟩⟩, ⟨⟨⟨ty40, ty41⟩, ⟨ty42, ty43⟩⟩, ⟨⟨ty44, ty45⟩, ⟨ty47, ty48⟩⟩⟩⟩, ⟨⟨⟨⟨ty49, ty50⟩, ⟨ty51, ty52⟩⟩, ⟨⟨ty53, ty54⟩, ⟨ty55, ty56⟩⟩⟩, ⟨⟨⟨ty57, ty58⟩, ⟨ty59, ty60⟩⟩, ⟨⟨ty61, ty62⟩, ⟨ty63, ty64⟩⟩⟩⟩⟩⟩, ⟨⟨⟨⟨⟨⟨ty65, ty66⟩, ⟨ty67, ty68⟩⟩, ⟨⟨ty69, ty70⟩, ⟨ty71, ty72⟩⟩⟩, ⟨⟨⟨ty73, ty74⟩, ⟨ty75, ty77⟩⟩, ⟨⟨ty78, ty79⟩, ⟨ty80, ty81⟩⟩⟩⟩, ⟨⟨⟨⟨ty82, ty83⟩, ⟨ty84, ty85⟩⟩, ⟨⟨ty86, ty87⟩, ⟨ty88, ty89⟩⟩⟩, ⟨⟨⟨ty90, ty91⟩, ⟨ty92, ty93⟩⟩, ⟨⟨ty94, ty95⟩, ⟨ty96, ty97⟩⟩⟩⟩⟩, ⟨⟨⟨⟨⟨ty98, ty99⟩, ⟨ty101, ty102⟩⟩, ⟨⟨ty103, ty104⟩, ⟨ty105, ty106⟩⟩⟩, ⟨⟨⟨ty107, ty108⟩, ⟨ty109, ty110⟩⟩, ⟨⟨ty111, ty112⟩, ⟨ty114, ty115⟩⟩⟩⟩, ⟨⟨⟨⟨ty116, ty117⟩, ⟨ty118, ty119⟩⟩, ⟨⟨ty120, ty121⟩, ⟨ty122, ty123⟩⟩⟩, ⟨⟨⟨ty124, ty125⟩, ⟨ty127, ty128⟩⟩, ⟨⟨ty129, ty130⟩, ⟨ty131, ty132⟩⟩⟩⟩⟩⟩⟩, ⟨⟨⟨⟨⟨⟨ty133, ⟨ty134, ty135⟩⟩, ⟨⟨ty136, ty137⟩, ⟨ty138, ty139⟩⟩⟩, ⟨⟨⟨ty140, ty141⟩, ⟨ty142, ty143⟩⟩, ⟨⟨ty144, ty145⟩, ⟨ty146, ty147⟩⟩⟩⟩, ⟨⟨⟨⟨ty148, ty149⟩, ⟨ty150, ty151⟩⟩, ⟨⟨ty152, ty153⟩, ⟨ty154, ty155⟩⟩⟩, ⟨⟨⟨ty156, ty157⟩, ⟨if2, if3⟩⟩, ⟨⟨if4, if5⟩, ⟨if6, if7⟩⟩⟩⟩⟩, ⟨⟨⟨⟨⟨if8, if9⟩, ⟨if10, if11⟩⟩, ⟨⟨if12, if13⟩, ⟨if14, if18⟩⟩⟩, ⟨⟨⟨if19, if21⟩, ⟨if22, if23⟩⟩, ⟨⟨if24, sl25⟩, ⟨ap25, if25⟩⟩⟩⟩, ⟨⟨⟨⟨if26, if27⟩, ⟨sl28, ap28⟩⟩, ⟨⟨if28, if29⟩, ⟨if30, sl31⟩⟩⟩, ⟨⟨⟨ap31, if31⟩, ⟨sl32, ap32⟩⟩, ⟨⟨if32, if33⟩, ⟨if34, sl35⟩⟩⟩⟩⟩⟩, ⟨⟨⟨⟨⟨⟨ap35, if35⟩, ⟨sl36, ap36⟩⟩, ⟨⟨if36, sl37⟩, ⟨ap37, if37⟩⟩⟩, ⟨⟨⟨if38, if39⟩, ⟨sl43, ap43⟩⟩, ⟨⟨if43, if44⟩, ⟨if45, if50⟩⟩⟩⟩, ⟨⟨⟨⟨if51, sl52⟩, ⟨ap52, if52⟩⟩, ⟨⟨if69, if70⟩, ⟨if71, if72⟩⟩⟩, ⟨⟨⟨sl73, ap73⟩, ⟨if73, if74⟩⟩, ⟨⟨if75, if81⟩, ⟨if82, if83⟩⟩⟩⟩⟩, ⟨⟨⟨⟨⟨if84, if105⟩, ⟨if106, if107⟩⟩, ⟨⟨if108, if109⟩, ⟨if110, if111⟩⟩⟩, ⟨⟨⟨mt112, sg51⟩, ⟨zt75, mt122⟩⟩, ⟨⟨sg22, zt4⟩, ⟨sl129, ap129⟩⟩⟩⟩, ⟨⟨⟨⟨if129, if135⟩, ⟨if138, if139⟩⟩, ⟨⟨if140, if141⟩, ⟨if142, if144⟩⟩⟩, ⟨⟨⟨if145, if148⟩, ⟨if149, if150⟩⟩, ⟨⟨if151, sl155⟩, ⟨ap155, if155⟩⟩⟩⟩⟩⟩⟩⟩
end Go.Ab
