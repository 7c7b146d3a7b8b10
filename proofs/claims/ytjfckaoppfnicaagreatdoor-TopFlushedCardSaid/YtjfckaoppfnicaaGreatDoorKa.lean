/- tools of the walks: packages lay and crc, streams of choices. -/
import Derived.Test.YtjfckaoppfnicaaGreatDoorProg
import Derived.Test.YtjfckaoppfnicaaGreatDoorBase
import Derived.LoopN
import Derived.Laws.StructEq
import Derived.Scope
import Derived.OpenShut
import Derived.WideShapes
import Derived.SizedLaws
import Derived.MapKept
import Derived.Laws.Externs
set_option linter.unusedVariables false
set_option linter.unusedSimpArgs false
set_option linter.unusedVariables false
set_option linter.unusedSimpArgs false
namespace Go.Proofs
theorem Tryz.elt3 : AL.Elt Tryz.prog 3 (.int .i64 0) 1 8 := by unfold AL.Elt; kernel_rfl
theorem Tryz.elt4 : AL.Elt Tryz.prog 4 (.bool false) 1 1 := by unfold AL.Elt; kernel_rfl
theorem Tryz.elt5 : AL.Elt Tryz.prog 5 (.int .u8 0) 1 1 := by unfold AL.Elt; kernel_rfl
theorem Tryz.elt9 : AL.Elt Tryz.prog 9 (.string ⟨#[]⟩) 1 16 := by unfold AL.Elt; kernel_rfl
theorem Tryz.elt22 : AL.Elt Tryz.prog 22 (.slice none 0 0) 1 24 := by unfold AL.Elt; kernel_rfl
theorem Tryz.elt23 : AL.Elt Tryz.prog 23 (.slice none 0 0) 1 24 := by unfold AL.Elt; kernel_rfl
theorem Tryz.elt35 : AL.Elt Tryz.prog 35 (.agg #[(.int .i64 0), (.int .i64 0), (.int .i64 0), (.int .i64 0), (.slice none 0 0)]) 5 56 := by unfold AL.Elt; kernel_rfl
theorem Tryz.elt39 : AL.Elt Tryz.prog 39 (.agg #[(.int .u64 0), (.int .u64 0), (.int .u64 0), (.int .u64 0), (.int .u64 0), (.int .u64 0)]) 6 48 := by unfold AL.Elt; kernel_rfl
theorem Tryz.elt41 : AL.Elt Tryz.prog 41 (.agg #[(.int .i64 0), (.int .i64 0), (.bool false), (.int .i64 0), (.slice none 0 0), (.int .u64 0), (.int .u64 0), (.int .u64 0), (.int .u64 0), (.int .u64 0), (.int .u64 0)]) 11 104 := by unfold AL.Elt; kernel_rfl
theorem Tryz.elt57 : AL.Elt Tryz.prog 57 (.agg #[(.int .i64 0), (.int .i64 0), (.int .i64 0)]) 3 24 := by unfold AL.Elt; kernel_rfl
theorem Tryz.elt59 : AL.Elt Tryz.prog 59 (.agg #[(.int .i64 0), (.int .i64 0)]) 2 16 := by unfold AL.Elt; kernel_rfl
theorem Tryz.elt89 : AL.Elt Tryz.prog 89 (.pointer none) 1 8 := by unfold AL.Elt; kernel_rfl
theorem Tryz.elt94 : AL.Elt Tryz.prog 94 (.agg #[(.pointer none), (.pointer none), (.pointer none)]) 3 24 := by unfold AL.Elt; kernel_rfl
theorem Tryz.elt95 : AL.Elt Tryz.prog 95 (.pointer none) 1 8 := by unfold AL.Elt; kernel_rfl
theorem Tryz.elt139 : AL.Elt Tryz.prog 139 (.agg #[(.int .i64 0), (.int .i64 0), (.int .i64 0), (.int .i64 0), (.int .i64 0), (.slice none 0 0)]) 6 64 := by unfold AL.Elt; kernel_rfl
theorem Tryz.elt146 : AL.Elt Tryz.prog 146 (.int .i64 0) 1 8 := by unfold AL.Elt; kernel_rfl
theorem Tryz.elt148 : AL.Elt Tryz.prog 148 (.agg #[(.bool false), (.int .i64 0), (.int .i64 0)]) 3 24 := by unfold AL.Elt; kernel_rfl
theorem Tryz.elt162 : AL.Elt Tryz.prog 162 (.agg #[(.int .i64 0), (.int .i64 0), (.int .i64 0)]) 3 24 := by unfold AL.Elt; kernel_rfl
theorem Tryz.elt229 : AL.Elt Tryz.prog 229 (.agg #[(.bool false), (.bool false), (.bool false), (.int .i64 0)]) 4 16 := by unfold AL.Elt; kernel_rfl
theorem Tryz.elt232 : AL.Elt Tryz.prog 232 (.agg #[(.bool false), (.bool false), (.bool false), (.int .i64 0), (.int .i64 0), (.int .u8 0), (.int .u8 0), (.int .u8 0), (.int .u8 0), (.int .u8 0), (.int .u8 0), (.int .u8 0), (.int .u8 0), (.int .u8 0), (.int .u8 0), (.int .u8 0), (.int .u8 0), (.int .u8 0), (.int .u8 0), (.int .u8 0), (.int .u8 0), (.int .u8 0), (.int .u8 0), (.int .u8 0), (.int .u8 0), (.int .u8 0), (.int .u8 0), (.int .u8 0), (.int .u8 0), (.int .u8 0), (.int .u8 0), (.int .u8 0), (.int .u8 0), (.int .u8 0), (.int .u8 0), (.int .u8 0), (.int .u8 0)]) 37 56 := by unfold AL.Elt; kernel_rfl
theorem Tryz.bld29 : AL.Bld Tryz.prog 29 [(.int .i64 0), (.int .i64 0), (.int .i64 0), (.slice none 0 0)] [(0, 1), (1, 1), (2, 1), (3, 1)] := by unfold AL.Bld; kernel_rfl
theorem Tryz.bld30 : AL.Bld Tryz.prog 30 [(.int .i64 0), (.int .i64 0), (.int .i64 0), (.slice none 0 0)] [(0, 1), (1, 1), (2, 1), (3, 1)] := by unfold AL.Bld; kernel_rfl
theorem Tryz.bld34 : AL.Bld Tryz.prog 34 [(.int .i64 0), (.int .i64 0), (.int .i64 0), (.int .i64 0), (.slice none 0 0)] [(0, 1), (1, 1), (2, 1), (3, 1), (4, 1)] := by unfold AL.Bld; kernel_rfl
theorem Tryz.bld35 : AL.Bld Tryz.prog 35 [(.int .i64 0), (.int .i64 0), (.int .i64 0), (.int .i64 0), (.slice none 0 0)] [(0, 1), (1, 1), (2, 1), (3, 1), (4, 1)] := by unfold AL.Bld; kernel_rfl
theorem Tryz.bld38 : AL.Bld Tryz.prog 38 [(.int .u64 0), (.int .u64 0), (.int .u64 0), (.int .u64 0), (.int .u64 0), (.int .u64 0)] [(0, 1), (1, 1), (2, 1), (3, 1), (4, 1), (5, 1)] := by unfold AL.Bld; kernel_rfl
theorem Tryz.bld39 : AL.Bld Tryz.prog 39 [(.int .u64 0), (.int .u64 0), (.int .u64 0), (.int .u64 0), (.int .u64 0), (.int .u64 0)] [(0, 1), (1, 1), (2, 1), (3, 1), (4, 1), (5, 1)] := by unfold AL.Bld; kernel_rfl
theorem Tryz.bld40 : AL.Bld Tryz.prog 40 [(.int .i64 0), (.int .i64 0), (.bool false), (.int .i64 0), (.slice none 0 0), (.int .u64 0), (.int .u64 0), (.int .u64 0), (.int .u64 0), (.int .u64 0), (.int .u64 0)] [(0, 1), (1, 1), (2, 1), (3, 1), (4, 1), (5, 6)] := by unfold AL.Bld; kernel_rfl
theorem Tryz.bld41 : AL.Bld Tryz.prog 41 [(.int .i64 0), (.int .i64 0), (.bool false), (.int .i64 0), (.slice none 0 0), (.int .u64 0), (.int .u64 0), (.int .u64 0), (.int .u64 0), (.int .u64 0), (.int .u64 0)] [(0, 1), (1, 1), (2, 1), (3, 1), (4, 1), (5, 6)] := by unfold AL.Bld; kernel_rfl
theorem Tryz.bld52 : AL.Bld Tryz.prog 52 [(.pointer none), (.int .i64 0), (.slice none 0 0)] [(0, 1), (1, 1), (2, 1)] := by unfold AL.Bld; kernel_rfl
theorem Tryz.bld53 : AL.Bld Tryz.prog 53 [(.pointer none), (.int .i64 0), (.slice none 0 0)] [(0, 1), (1, 1), (2, 1)] := by unfold AL.Bld; kernel_rfl
theorem Tryz.bld54 : AL.Bld Tryz.prog 54 [(.pointer none)] [(0, 1)] := by unfold AL.Bld; kernel_rfl
theorem Tryz.bld55 : AL.Bld Tryz.prog 55 [(.pointer none)] [(0, 1)] := by unfold AL.Bld; kernel_rfl
theorem Tryz.bld56 : AL.Bld Tryz.prog 56 [(.int .i64 0), (.int .i64 0), (.int .i64 0)] [(0, 1), (1, 1), (2, 1)] := by unfold AL.Bld; kernel_rfl
theorem Tryz.bld57 : AL.Bld Tryz.prog 57 [(.int .i64 0), (.int .i64 0), (.int .i64 0)] [(0, 1), (1, 1), (2, 1)] := by unfold AL.Bld; kernel_rfl
theorem Tryz.bld58 : AL.Bld Tryz.prog 58 [(.int .i64 0), (.int .i64 0)] [(0, 1), (1, 1)] := by unfold AL.Bld; kernel_rfl
theorem Tryz.bld59 : AL.Bld Tryz.prog 59 [(.int .i64 0), (.int .i64 0)] [(0, 1), (1, 1)] := by unfold AL.Bld; kernel_rfl
theorem Tryz.bld69 : AL.Bld Tryz.prog 69 [(.int .i64 0), (.int .i64 0), (.int .i64 0), (.int .i64 0), (.slice none 0 0)] [(0, 1), (1, 4)] := by unfold AL.Bld; kernel_rfl
theorem Tryz.bld70 : AL.Bld Tryz.prog 70 [(.int .i64 0), (.int .i64 0), (.int .i64 0), (.int .i64 0), (.slice none 0 0)] [(0, 1), (1, 4)] := by unfold AL.Bld; kernel_rfl
theorem Tryz.bld76 : AL.Bld Tryz.prog 76 [(.int .i64 0), (.int .i64 0), (.int .i64 0), (.slice none 0 0), (.pointer none), (.pointer none), (.pointer none), (.slice none 0 0), (.int .i64 0), (.int .i64 0), (.int .i64 0)] [(0, 4), (4, 1), (5, 1), (6, 1), (7, 1), (8, 1), (9, 1), (10, 1)] := by unfold AL.Bld; kernel_rfl
theorem Tryz.bld77 : AL.Bld Tryz.prog 77 [(.int .i64 0), (.int .i64 0), (.int .i64 0), (.slice none 0 0), (.pointer none), (.pointer none), (.pointer none), (.slice none 0 0), (.int .i64 0), (.int .i64 0), (.int .i64 0)] [(0, 4), (4, 1), (5, 1), (6, 1), (7, 1), (8, 1), (9, 1), (10, 1)] := by unfold AL.Bld; kernel_rfl
theorem Tryz.bld93 : AL.Bld Tryz.prog 93 [(.pointer none), (.pointer none), (.pointer none)] [(0, 1), (1, 1), (2, 1)] := by unfold AL.Bld; kernel_rfl
theorem Tryz.bld94 : AL.Bld Tryz.prog 94 [(.pointer none), (.pointer none), (.pointer none)] [(0, 1), (1, 1), (2, 1)] := by unfold AL.Bld; kernel_rfl
theorem Tryz.bld112 : AL.Bld Tryz.prog 112 [(.pointer none), (.slice none 0 0)] [(0, 1), (1, 1)] := by unfold AL.Bld; kernel_rfl
theorem Tryz.bld113 : AL.Bld Tryz.prog 113 [(.pointer none), (.slice none 0 0)] [(0, 1), (1, 1)] := by unfold AL.Bld; kernel_rfl
theorem Tryz.bld126 : AL.Bld Tryz.prog 126 [(.int .i64 0), (.map none), (.map none), (.slice none 0 0)] [(0, 1), (1, 1), (2, 1), (3, 1)] := by unfold AL.Bld; kernel_rfl
theorem Tryz.bld127 : AL.Bld Tryz.prog 127 [(.int .i64 0), (.map none), (.map none), (.slice none 0 0)] [(0, 1), (1, 1), (2, 1), (3, 1)] := by unfold AL.Bld; kernel_rfl
theorem Tryz.bld128 : AL.Bld Tryz.prog 128 [(.int .i64 0)] [(0, 1)] := by unfold AL.Bld; kernel_rfl
theorem Tryz.bld129 : AL.Bld Tryz.prog 129 [(.int .i64 0)] [(0, 1)] := by unfold AL.Bld; kernel_rfl
theorem Tryz.bld131 : AL.Bld Tryz.prog 131 [(.slice none 0 0)] [(0, 1)] := by unfold AL.Bld; kernel_rfl
theorem Tryz.bld132 : AL.Bld Tryz.prog 132 [(.slice none 0 0)] [(0, 1)] := by unfold AL.Bld; kernel_rfl
theorem Tryz.bld138 : AL.Bld Tryz.prog 138 [(.int .i64 0), (.int .i64 0), (.int .i64 0), (.int .i64 0), (.int .i64 0), (.slice none 0 0)] [(0, 1), (1, 5)] := by unfold AL.Bld; kernel_rfl
theorem Tryz.bld139 : AL.Bld Tryz.prog 139 [(.int .i64 0), (.int .i64 0), (.int .i64 0), (.int .i64 0), (.int .i64 0), (.slice none 0 0)] [(0, 1), (1, 5)] := by unfold AL.Bld; kernel_rfl
theorem Tryz.bld142 : AL.Bld Tryz.prog 142 [(.pointer none), (.pointer none), (.pointer none), (.int .i64 0), (.int .i64 0), (.int .u64 0), (.int .u64 0), (.int .u64 0), (.int .u64 0), (.int .u64 0), (.int .u64 0), (.slice none 0 0)] [(0, 1), (1, 1), (2, 1), (3, 1), (4, 1), (5, 6), (11, 1)] := by unfold AL.Bld; kernel_rfl
theorem Tryz.bld143 : AL.Bld Tryz.prog 143 [(.pointer none), (.pointer none), (.pointer none), (.int .i64 0), (.int .i64 0), (.int .u64 0), (.int .u64 0), (.int .u64 0), (.int .u64 0), (.int .u64 0), (.int .u64 0), (.slice none 0 0)] [(0, 1), (1, 1), (2, 1), (3, 1), (4, 1), (5, 6), (11, 1)] := by unfold AL.Bld; kernel_rfl
theorem Tryz.bld147 : AL.Bld Tryz.prog 147 [(.bool false), (.int .i64 0), (.int .i64 0)] [(0, 1), (1, 1), (2, 1)] := by unfold AL.Bld; kernel_rfl
theorem Tryz.bld148 : AL.Bld Tryz.prog 148 [(.bool false), (.int .i64 0), (.int .i64 0)] [(0, 1), (1, 1), (2, 1)] := by unfold AL.Bld; kernel_rfl
theorem Tryz.bld149 : AL.Bld Tryz.prog 149 [(.bool false), (.int .i64 0), (.int .i64 0), (.bool false), (.int .i64 0), (.int .i64 0), (.bool false), (.int .i64 0), (.int .i64 0), (.bool false), (.int .i64 0), (.int .i64 0), (.bool false), (.int .i64 0), (.int .i64 0), (.bool false), (.int .i64 0), (.int .i64 0), (.bool false), (.int .i64 0), (.int .i64 0), (.bool false), (.int .i64 0), (.int .i64 0)] [(0, 3), (3, 3), (6, 3), (9, 3), (12, 3), (15, 3), (18, 3), (21, 3)] := by unfold AL.Bld; kernel_rfl
theorem Tryz.bld150 : AL.Bld Tryz.prog 150 [(.int .i64 0), (.int .i64 0), (.bool false), (.int .i64 0), (.int .i64 0), (.bool false), (.int .i64 0), (.int .i64 0), (.bool false), (.int .i64 0), (.int .i64 0), (.bool false), (.int .i64 0), (.int .i64 0), (.bool false), (.int .i64 0), (.int .i64 0), (.bool false), (.int .i64 0), (.int .i64 0), (.bool false), (.int .i64 0), (.int .i64 0), (.bool false), (.int .i64 0), (.int .i64 0)] [(0, 1), (1, 1), (2, 24)] := by unfold AL.Bld; kernel_rfl
theorem Tryz.bld151 : AL.Bld Tryz.prog 151 [(.int .i64 0), (.int .i64 0), (.bool false), (.int .i64 0), (.int .i64 0), (.bool false), (.int .i64 0), (.int .i64 0), (.bool false), (.int .i64 0), (.int .i64 0), (.bool false), (.int .i64 0), (.int .i64 0), (.bool false), (.int .i64 0), (.int .i64 0), (.bool false), (.int .i64 0), (.int .i64 0), (.bool false), (.int .i64 0), (.int .i64 0), (.bool false), (.int .i64 0), (.int .i64 0)] [(0, 1), (1, 1), (2, 24)] := by unfold AL.Bld; kernel_rfl
theorem Tryz.bld161 : AL.Bld Tryz.prog 161 [(.int .i64 0), (.int .i64 0), (.int .i64 0)] [(0, 1), (1, 1), (2, 1)] := by unfold AL.Bld; kernel_rfl
theorem Tryz.bld162 : AL.Bld Tryz.prog 162 [(.int .i64 0), (.int .i64 0), (.int .i64 0)] [(0, 1), (1, 1), (2, 1)] := by unfold AL.Bld; kernel_rfl
theorem Tryz.bld176 : AL.Bld Tryz.prog 176 [(.pointer none), (.slice none 0 0), (.slice none 0 0)] [(0, 1), (1, 1), (2, 1)] := by unfold AL.Bld; kernel_rfl
theorem Tryz.bld177 : AL.Bld Tryz.prog 177 [(.pointer none), (.slice none 0 0), (.slice none 0 0)] [(0, 1), (1, 1), (2, 1)] := by unfold AL.Bld; kernel_rfl
theorem Tryz.bld183 : AL.Bld Tryz.prog 183 [(.int .i64 0), .nilFunc] [(0, 1), (1, 1)] := by unfold AL.Bld; kernel_rfl
theorem Tryz.bld184 : AL.Bld Tryz.prog 184 [(.int .i64 0), .nilFunc] [(0, 1), (1, 1)] := by unfold AL.Bld; kernel_rfl
theorem Tryz.bld199 : AL.Bld Tryz.prog 199 [(.slice none 0 0), (.map none), (.int .i64 0)] [(0, 1), (1, 1), (2, 1)] := by unfold AL.Bld; kernel_rfl
theorem Tryz.bld200 : AL.Bld Tryz.prog 200 [(.slice none 0 0), (.map none), (.int .i64 0)] [(0, 1), (1, 1), (2, 1)] := by unfold AL.Bld; kernel_rfl
theorem Tryz.bld204 : AL.Bld Tryz.prog 204 [(.slice none 0 0), (.int .i64 0), (.int .i64 0)] [(0, 1), (1, 1), (2, 1)] := by unfold AL.Bld; kernel_rfl
theorem Tryz.bld205 : AL.Bld Tryz.prog 205 [(.slice none 0 0), (.int .i64 0), (.int .i64 0)] [(0, 1), (1, 1), (2, 1)] := by unfold AL.Bld; kernel_rfl
theorem Tryz.bld207 : AL.Bld Tryz.prog 207 [(.pointer none), (.int .i64 0), (.int .i64 0), (.slice none 0 0), (.int .i64 0), (.slice none 0 0)] [(0, 1), (1, 1), (2, 1), (3, 1), (4, 1), (5, 1)] := by unfold AL.Bld; kernel_rfl
theorem Tryz.bld208 : AL.Bld Tryz.prog 208 [(.pointer none), (.int .i64 0), (.int .i64 0), (.slice none 0 0), (.int .i64 0), (.slice none 0 0)] [(0, 1), (1, 1), (2, 1), (3, 1), (4, 1), (5, 1)] := by unfold AL.Bld; kernel_rfl
theorem Tryz.bld209 : AL.Bld Tryz.prog 209 [(.slice none 0 0), (.int .i64 0)] [(0, 1), (1, 1)] := by unfold AL.Bld; kernel_rfl
theorem Tryz.bld210 : AL.Bld Tryz.prog 210 [(.slice none 0 0), (.int .i64 0)] [(0, 1), (1, 1)] := by unfold AL.Bld; kernel_rfl
theorem Tryz.bld221 : AL.Bld Tryz.prog 221 [(.bool false), (.int .i64 0), (.int .i64 0), (.bool false), (.int .i64 0), (.slice none 0 0), (.int .u64 0), (.int .u64 0), (.int .u64 0), (.int .u64 0), (.int .u64 0), (.int .u64 0), (.int .u64 0), (.int .u64 0), (.int .u64 0), (.int .u64 0), (.int .u64 0), (.int .u64 0)] [(0, 1), (1, 11), (12, 6)] := by unfold AL.Bld; kernel_rfl
theorem Tryz.bld222 : AL.Bld Tryz.prog 222 [(.bool false), (.int .i64 0), (.int .i64 0), (.bool false), (.int .i64 0), (.slice none 0 0), (.int .u64 0), (.int .u64 0), (.int .u64 0), (.int .u64 0), (.int .u64 0), (.int .u64 0), (.int .u64 0), (.int .u64 0), (.int .u64 0), (.int .u64 0), (.int .u64 0), (.int .u64 0)] [(0, 1), (1, 11), (12, 6)] := by unfold AL.Bld; kernel_rfl
theorem Tryz.bld228 : AL.Bld Tryz.prog 228 [(.bool false), (.bool false), (.bool false), (.int .i64 0)] [(0, 1), (1, 1), (2, 1), (3, 1)] := by unfold AL.Bld; kernel_rfl
theorem Tryz.bld229 : AL.Bld Tryz.prog 229 [(.bool false), (.bool false), (.bool false), (.int .i64 0)] [(0, 1), (1, 1), (2, 1), (3, 1)] := by unfold AL.Bld; kernel_rfl
theorem Tryz.bld230 : AL.Bld Tryz.prog 230 [(.int .u8 0), (.int .u8 0), (.int .u8 0), (.int .u8 0), (.int .u8 0), (.int .u8 0), (.int .u8 0), (.int .u8 0), (.int .u8 0), (.int .u8 0), (.int .u8 0), (.int .u8 0), (.int .u8 0), (.int .u8 0), (.int .u8 0), (.int .u8 0), (.int .u8 0), (.int .u8 0), (.int .u8 0), (.int .u8 0), (.int .u8 0), (.int .u8 0), (.int .u8 0), (.int .u8 0), (.int .u8 0), (.int .u8 0), (.int .u8 0), (.int .u8 0), (.int .u8 0), (.int .u8 0), (.int .u8 0), (.int .u8 0)] [(0, 1), (1, 1), (2, 1), (3, 1), (4, 1), (5, 1), (6, 1), (7, 1), (8, 1), (9, 1), (10, 1), (11, 1), (12, 1), (13, 1), (14, 1), (15, 1), (16, 1), (17, 1), (18, 1), (19, 1), (20, 1), (21, 1), (22, 1), (23, 1), (24, 1), (25, 1), (26, 1), (27, 1), (28, 1), (29, 1), (30, 1), (31, 1)] := by unfold AL.Bld; kernel_rfl
theorem Tryz.bld231 : AL.Bld Tryz.prog 231 [(.bool false), (.bool false), (.bool false), (.int .i64 0), (.int .i64 0), (.int .u8 0), (.int .u8 0), (.int .u8 0), (.int .u8 0), (.int .u8 0), (.int .u8 0), (.int .u8 0), (.int .u8 0), (.int .u8 0), (.int .u8 0), (.int .u8 0), (.int .u8 0), (.int .u8 0), (.int .u8 0), (.int .u8 0), (.int .u8 0), (.int .u8 0), (.int .u8 0), (.int .u8 0), (.int .u8 0), (.int .u8 0), (.int .u8 0), (.int .u8 0), (.int .u8 0), (.int .u8 0), (.int .u8 0), (.int .u8 0), (.int .u8 0), (.int .u8 0), (.int .u8 0), (.int .u8 0), (.int .u8 0)] [(0, 4), (4, 1), (5, 32)] := by unfold AL.Bld; kernel_rfl
theorem Tryz.bld232 : AL.Bld Tryz.prog 232 [(.bool false), (.bool false), (.bool false), (.int .i64 0), (.int .i64 0), (.int .u8 0), (.int .u8 0), (.int .u8 0), (.int .u8 0), (.int .u8 0), (.int .u8 0), (.int .u8 0), (.int .u8 0), (.int .u8 0), (.int .u8 0), (.int .u8 0), (.int .u8 0), (.int .u8 0), (.int .u8 0), (.int .u8 0), (.int .u8 0), (.int .u8 0), (.int .u8 0), (.int .u8 0), (.int .u8 0), (.int .u8 0), (.int .u8 0), (.int .u8 0), (.int .u8 0), (.int .u8 0), (.int .u8 0), (.int .u8 0), (.int .u8 0), (.int .u8 0), (.int .u8 0), (.int .u8 0), (.int .u8 0)] [(0, 4), (4, 1), (5, 32)] := by unfold AL.Bld; kernel_rfl
theorem Tryz.bld265 : AL.Bld Tryz.prog 265 [(.slice none 0 0), (.bool false)] [(0, 1), (1, 1)] := by unfold AL.Bld; kernel_rfl
theorem Tryz.bld266 : AL.Bld Tryz.prog 266 [(.slice none 0 0), (.bool false)] [(0, 1), (1, 1)] := by unfold AL.Bld; kernel_rfl
theorem Tryz.bld296 : AL.Bld Tryz.prog 296 [(.string ⟨#[]⟩), (.string ⟨#[]⟩), (.string ⟨#[]⟩), (.string ⟨#[]⟩), (.string ⟨#[]⟩), (.string ⟨#[]⟩), (.string ⟨#[]⟩), (.string ⟨#[]⟩), (.string ⟨#[]⟩)] [(0, 1), (1, 1), (2, 1), (3, 1), (4, 1), (5, 1), (6, 1), (7, 1), (8, 1)] := by unfold AL.Bld; kernel_rfl
theorem Tryz.bld306 : AL.Bld Tryz.prog 306 [.nilFunc, .nilFunc, .nilFunc, .nilFunc, .nilFunc, .nilFunc, .nilFunc, .nilFunc, .nilFunc] [(0, 1), (1, 1), (2, 1), (3, 1), (4, 1), (5, 1), (6, 1), (7, 1), (8, 1)] := by unfold AL.Bld; kernel_rfl
theorem Tryz.bld351 : AL.Bld Tryz.prog 351 [(.int .u8 0), (.int .u8 0)] [(0, 1), (1, 1)] := by unfold AL.Bld; kernel_rfl
theorem Tryz.bld352 : AL.Bld Tryz.prog 352 [(.int .u8 0), (.int .u8 0)] [(0, 1), (1, 1)] := by unfold AL.Bld; kernel_rfl
theorem Tryz.bld353 : AL.Bld Tryz.prog 353 [(.int .u8 0), (.int .u8 0), (.int .u8 0), (.int .u8 0), (.int .u8 0), (.int .u8 0), (.int .u8 0), (.int .u8 0), (.int .u8 0), (.int .u8 0), (.int .u8 0), (.int .u8 0), (.int .u8 0), (.int .u8 0), (.int .u8 0), (.int .u8 0), (.int .u8 0), (.int .u8 0), (.int .u8 0), (.int .u8 0), (.int .u8 0), (.int .u8 0), (.int .u8 0), (.int .u8 0), (.int .u8 0), (.int .u8 0), (.int .u8 0), (.int .u8 0), (.int .u8 0), (.int .u8 0), (.int .u8 0), (.int .u8 0)] [(0, 2), (2, 2), (4, 2), (6, 2), (8, 2), (10, 2), (12, 2), (14, 2), (16, 2), (18, 2), (20, 2), (22, 2), (24, 2), (26, 2), (28, 2), (30, 2)] := by unfold AL.Bld; kernel_rfl
theorem Tryz.bld369 : AL.Bld Tryz.prog 369 [(.int .u8 0), (.int .u8 0), (.int .u8 0), (.int .u8 0), (.int .u8 0), (.int .u8 0), (.int .u8 0), (.int .u8 0), (.int .u8 0), (.int .u8 0), (.int .u8 0), (.int .u8 0), (.int .u8 0), (.int .u8 0), (.int .u8 0), (.int .u8 0), (.int .u8 0), (.int .u8 0), (.int .u8 0), (.int .u8 0), (.int .u8 0), (.int .u8 0), (.int .u8 0), (.int .u8 0)] [(0, 1), (1, 1), (2, 1), (3, 1), (4, 1), (5, 1), (6, 1), (7, 1), (8, 1), (9, 1), (10, 1), (11, 1), (12, 1), (13, 1), (14, 1), (15, 1), (16, 1), (17, 1), (18, 1), (19, 1), (20, 1), (21, 1), (22, 1), (23, 1)] := by unfold AL.Bld; kernel_rfl
theorem Tryz.bld373 : AL.Bld Tryz.prog 373 [(.pointer none), (.pointer none), (.pointer none), (.pointer none), (.pointer none), (.pointer none)] [(0, 1), (1, 1), (2, 1), (3, 1), (4, 1), (5, 1)] := by unfold AL.Bld; kernel_rfl
theorem Tryz.bld389 : AL.Bld Tryz.prog 389 [(.string ⟨#[]⟩), (.string ⟨#[]⟩), .nilIface] [(0, 1), (1, 1), (2, 1)] := by unfold AL.Bld; kernel_rfl
theorem Tryz.bld390 : AL.Bld Tryz.prog 390 [(.string ⟨#[]⟩), (.string ⟨#[]⟩), .nilIface] [(0, 1), (1, 1), (2, 1)] := by unfold AL.Bld; kernel_rfl
theorem Tryz.bld393 : AL.Bld Tryz.prog 393 [(.int .u64 0), (.int .u64 0), (.int .u64 0), (.int .u64 0), (.int .u64 0), (.int .u64 0), (.int .u64 0), (.int .u64 0), (.int .u64 0), (.int .u64 0), (.int .u64 0), (.int .u64 0), (.int .u64 0), (.int .u64 0), (.int .u64 0), (.int .u64 0), (.int .u64 0), (.int .u64 0), (.int .u64 0), (.int .u64 0)] [(0, 1), (1, 1), (2, 1), (3, 1), (4, 1), (5, 1), (6, 1), (7, 1), (8, 1), (9, 1), (10, 1), (11, 1), (12, 1), (13, 1), (14, 1), (15, 1), (16, 1), (17, 1), (18, 1), (19, 1)] := by unfold AL.Bld; kernel_rfl
theorem Tryz.bld407 : AL.Bld Tryz.prog 407 [(.string ⟨#[]⟩)] [(0, 1)] := by unfold AL.Bld; kernel_rfl
theorem Tryz.bld408 : AL.Bld Tryz.prog 408 [(.string ⟨#[]⟩)] [(0, 1)] := by unfold AL.Bld; kernel_rfl
theorem Tryz.bld413 : AL.Bld Tryz.prog 413 [(.int .u8 0), (.int .u8 0), (.int .u8 0), (.int .u8 0), (.int .u8 0), (.int .u8 0), (.int .u8 0), (.int .u8 0), (.int .u8 0), (.int .u8 0), (.int .u8 0), (.int .u8 0), (.int .u8 0), (.int .u8 0), (.int .u8 0), (.int .u8 0), (.int .u8 0), (.int .u8 0), (.int .u8 0), (.int .u8 0), (.int .u8 0), (.int .u8 0), (.int .u8 0), (.int .u8 0), (.int .u8 0), (.int .u8 0), (.int .u8 0), (.int .u8 0), (.int .u8 0), (.int .u8 0), (.int .u8 0), (.int .u8 0), (.int .u8 0), (.int .u8 0), (.int .u8 0), (.int .u8 0), (.int .u8 0), (.int .u8 0), (.int .u8 0), (.int .u8 0), (.int .u8 0), (.int .u8 0), (.int .u8 0), (.int .u8 0), (.int .u8 0), (.int .u8 0), (.int .u8 0), (.int .u8 0), (.int .u8 0), (.int .u8 0), (.int .u8 0), (.int .u8 0), (.int .u8 0), (.int .u8 0), (.int .u8 0), (.int .u8 0), (.int .u8 0), (.int .u8 0), (.int .u8 0), (.int .u8 0), (.int .u8 0), (.int .u8 0), (.int .u8 0), (.int .u8 0)] [(0, 1), (1, 1), (2, 1), (3, 1), (4, 1), (5, 1), (6, 1), (7, 1), (8, 1), (9, 1), (10, 1), (11, 1), (12, 1), (13, 1), (14, 1), (15, 1), (16, 1), (17, 1), (18, 1), (19, 1), (20, 1), (21, 1), (22, 1), (23, 1), (24, 1), (25, 1), (26, 1), (27, 1), (28, 1), (29, 1), (30, 1), (31, 1), (32, 1), (33, 1), (34, 1), (35, 1), (36, 1), (37, 1), (38, 1), (39, 1), (40, 1), (41, 1), (42, 1), (43, 1), (44, 1), (45, 1), (46, 1), (47, 1), (48, 1), (49, 1), (50, 1), (51, 1), (52, 1), (53, 1), (54, 1), (55, 1), (56, 1), (57, 1), (58, 1), (59, 1), (60, 1), (61, 1), (62, 1), (63, 1)] := by unfold AL.Bld; kernel_rfl
end Go.Proofs
namespace Go.Proofs.AL
open Go.RowKit

def around (n m : Int) : Int := if n < 0 then (-(n + 1)) % m else n % m
theorem around_neg {n m : Int} (h : n < 0) : around n m = (-(n + 1)) % m := if_pos h
theorem around_pos {n m : Int} (h : ¬ n < 0) : around n m = n % m := if_neg h
theorem around_range (n : Int) {m : Int} (h : 1 ≤ m) : 0 ≤ around n m ∧ around n m < m := by
  unfold around
  split
  · exact ⟨Int.emod_nonneg _ (by omega), Int.emod_lt_of_pos _ (by omega)⟩
  · exact ⟨Int.emod_nonneg _ (by omega), Int.emod_lt_of_pos _ (by omega)⟩
theorem bytes_self (b : ByteArray) : (b.toList == b.toList) = true := by simp
/-- bytes -/
def Byt (bs : List Int) : Prop := ∀ b ∈ bs, 0 ≤ b ∧ b ≤ 255
theorem Byt.nil : Byt [] := fun b h => by cases h
theorem Byt.append {a b : List Int} (h : Byt a) (k : Byt b) : Byt (a ++ b) := fun x hx => (List.mem_append.1 hx).elim (h x) (k x)
theorem Byt.take {a : List Int} (h : Byt a) (n : Nat) : Byt (a.take n) := fun x hx => h x (List.mem_of_mem_take hx)
theorem Byt.drop {a : List Int} (h : Byt a) (n : Nat) : Byt (a.drop n) := fun x hx => h x (List.mem_of_mem_drop hx)
theorem Byt.get {a : List Int} (h : Byt a) (i : Nat) (hi : i < a.length) : 0 ≤ a[i] ∧ a[i] ≤ 255 := h _ (List.getElem_mem hi)
theorem Byt.set {a : List Int} (h : Byt a) (i : Nat) {c : Int} (h0 : 0 ≤ c) (h1 : c ≤ 255) : Byt (a.set i c) := fun x hx => by
  rcases List.mem_or_eq_of_mem_set hx with hx | rfl
  · exact h x hx
  · exact ⟨h0, h1⟩
/-- the k lowest bytes of a number -/
def le (k : Nat) (n : Int) : List Int := (List.range k).map fun i => n / 256 ^ i % 256
theorem le_succ (k : Nat) (n : Int) : le (k + 1) n = le k n ++ [n / 256 ^ k % 256] := by simp [le, List.range_succ]
@[simp] theorem le_len (k : Nat) (n : Int) : (le k n).length = k := by simp [le]
theorem le_byt (k : Nat) (n : Int) : Byt (le k n) := fun b hb => by
  simp only [le, List.mem_map] at hb
  obtain ⟨i, _, rfl⟩ := hb
  omega
theorem le_div (n : Int) (k : Nat) : n / 256 ^ k / 256 = n / 256 ^ (k + 1) := by rw [Int.ediv_ediv_of_nonneg (by exact Int.pow_nonneg (by decide)), Int.pow_succ]
theorem u64_wrap (n : Int) : IntKind.u64.wrap n = n % 18446744073709551616 := by simp [IntKind.wrap, IntKind.bits, IntKind.signed]
theorem u64_range (n : Int) : 0 ≤ IntKind.u64.wrap n ∧ IntKind.u64.wrap n ≤ 18446744073709551615 := by rw [u64_wrap]; omega
theorem i64_wrap_u64 (n : Int) (h1 : -9223372036854775808 ≤ n) (h2 : n ≤ 9223372036854775807) : IntKind.i64.wrap (IntKind.u64.wrap n) = n := by
  rw [u64_wrap, IntKind.wrap_i64]; omega
theorem i64_range (n : Int) : -9223372036854775808 ≤ IntKind.i64.wrap n ∧ IntKind.i64.wrap n ≤ 9223372036854775807 := by rw [IntKind.wrap_i64]; omega
theorem u64_wrap_i64 (n : Int) (h1 : 0 ≤ n) (h2 : n ≤ 18446744073709551615) : IntKind.u64.wrap (IntKind.i64.wrap n) = n := by
  rw [u64_wrap, IntKind.wrap_i64]; omega
theorem u8_wrap (n : Int) : IntKind.u8.wrap n = n % 256 := IntKind.wrap_u8 n
/-- eight bytes of a number -/
def le8 (n : Int) : List Int := le 8 (IntKind.u64.wrap n)
@[simp] theorem le8_len (n : Int) : (le8 n).length = 8 := le_len _ _
theorem le8_byt (n : Int) : Byt (le8 n) := le_byt _ _
theorem le8_u64 {n : Int} (h1 : 0 ≤ n) (h2 : n ≤ 18446744073709551615) : le8 n = le 8 n := by rw [le8, u64w h1 h2]
/-- numbers, one behind the other -/
def le8s (l : List Int) : List Int := l.flatMap le8
theorem le8s_len (l : List Int) : (le8s l).length = 8 * l.length := by
  induction l with
  | nil => rfl
  | cons a l ih => simp [le8s] at ih ⊢; omega
theorem le8s_append (a b : List Int) : le8s (a ++ b) = le8s a ++ le8s b := by simp [le8s]
theorem le8s_byt (l : List Int) : Byt (le8s l) := fun b hb => by
  simp only [le8s, List.mem_flatMap] at hb
  obtain ⟨n, _, h⟩ := hb
  exact le8_byt n b h
theorem shr_byte (n : Int) (k : Nat) (_hk : k < 8) : IntKind.u8.wrap (n.fdiv (2 ^ (min (8 * (k : Int)).toNat IntKind.u64.bits))) = n / 256 ^ k % 256 := by
  have h1 : min (8 * (k : Int)).toNat IntKind.u64.bits = 8 * k := by simp [IntKind.bits]; omega
  rw [h1, u8_wrap, Int.fdiv_eq_ediv_of_nonneg _ (by exact Int.pow_nonneg (by decide)), Int.pow_mul]
  rfl
/-- the first so many -/
def few (bs : List Int) (m : Int) : List Int := bs.take m.toNat
theorem few_len (bs : List Int) (m : Int) (h : 0 ≤ m) : (if m < (bs.length : Int) then m else (bs.length : Int)) = ((few bs m).length : Int) := by
  simp only [few, List.length_take]
  split <;> omega
theorem few_le (bs : List Int) (m : Int) (h : 0 ≤ m) : ((few bs m).length : Int) ≤ m ∧ (few bs m).length ≤ bs.length := by
  simp only [few, List.length_take]; omega
theorem few_byt {bs : List Int} (h : Byt bs) (m : Int) : Byt (few bs m) := h.take _
theorem few_all {bs : List Int} {m : Int} (h : (bs.length : Int) ≤ m) : few bs m = bs := List.take_of_length_le (by omega)
theorem str_dec {a b : List Int} (ha : Byt a) (hb : Byt b) : ((strOfNums a).toList == (strOfNums b).toList) = decide (a = b) := by
  by_cases h : a = b
  · rw [decide_eq_true h]; exact str_eq h
  · rw [decide_eq_false h]; exact str_ne ha hb h
/-- bytes of a text: their number ahead -/
def text (bs : List Int) : List Int := le8 bs.length ++ bs
theorem Around_c (n m : Int) (w : World) (h1 : -9223372036854775808 ≤ n) (h2 : n ≤ 9223372036854775807) (h3 : 1 ≤ m) (h4 : m ≤ 9223372036854775807) :
    Calls Tryz.prog 8 #[.int .i64 n, .int .i64 m] w fun e w' => e = .returned (.int .i64 (around n m)) ∧ w = w' := by
  refine calls_of (l := [.int .i64 n, .int .i64 m]) (N := 13) Tryz.func8 rfl rfl rfl ?_
  refine C_seq (C_region (RL_q rfl (Yd_assign rfl) (RL_nil (X_then (C_seq (C_seq (C_region (RL_q rfl (Yd_move rfl) (RL_q rfl (Yd_lss rfl rfl) (RL_nil (X_then (?_))))))))))))
  refine C_cond rfl (fun hb => ?_) (fun hb => ?_)
  · skip
    have hb : n < 0 := of_decide_eq_true hb
    refine C_region (RL_q rfl (Yd_move rfl) (RL_q rfl (Yd_add rfl rfl (i64w (by omega) (by omega))) (RL_q rfl (Yd_neg rfl (i64w (by omega) (by omega))) (RL_q rfl (Yd_assign rfl) (RL_nil (X_then (C_seq (C_region (RL_q rfl (Yd_move rfl) (RL_q rfl (Yd_move rfl) (RL_q rfl (Yd_rem rfl rfl (by omega) (tmodw (by omega))) (RL_q rfl (Yd_assign rfl) (RL_nil (X_then (C_ret (X_ret1 rfl rfl ?_))))))))))))))))
    exact ⟨by rw [around_neg hb], rfl⟩
  · skip
    have hb : ¬ n < 0 := of_decide_eq_false hb
    refine C_skip (X_then (C_seq (C_region (RL_q rfl (Yd_move rfl) (RL_q rfl (Yd_move rfl) (RL_q rfl (Yd_rem rfl rfl (by omega) (tmodw (by omega))) (RL_q rfl (Yd_assign rfl) (RL_nil (X_then (C_ret (X_ret1 rfl rfl ?_)))))))))))
    exact ⟨by rw [around_pos hb], rfl⟩
theorem refUint_c (n : Int) (w : World) (h1 : 0 ≤ n) (h2 : n ≤ 18446744073709551615) :
    Calls Tryz.prog 66 #[.int .u64 n] w fun e w' => ∃ A c, e = .returned (.slice A 8 c) ∧ Own w' w.heap.size 5 1 A 8 c (ints .u8 (le 8 n)) ∧ Ext w w' := by
  refine calls_of (l := [.int .u64 n]) (N := 18) Tryz.func66 rfl rfl rfl ?_
  refine C_seq (C_region (RL_q rfl (Yd_assign rfl) (RL_nil (X_then (C_seq (C_region (RL_q rfl (Yd_assign rfl) (RL_nil (X_then (C_seq (C_seq (C_region (RL_q rfl (Yd_assign rfl) (RL_nil (X_then (C_block (?_)))))))))))))))))
  refine C_loop (T := Nat × Option Addr × Nat × Int) (fun ⟨k, A, c, q⟩ => [(0, .int .u64 q), (3, .slice A k c), (4, .int .i64 k)]) (fun ⟨k, A, c, q⟩ w1 => k ≤ 8 ∧ q = n / 256 ^ k ∧ 0 ≤ q ∧ q ≤ 18446744073709551615 ∧ Own w1 w.heap.size 5 1 A k c (ints .u8 (le k n)) ∧ Ext w w1) (fun ⟨k, A, c, q⟩ => 8 - k) (⟨0, none, 0, n⟩) ⟨rfl, rfl, rfl, trivial⟩ ?_ ?_
  · exact ⟨by omega, by simp, h1, h2, Own.nil _ _ _ _, Ext.refl _⟩
  · rintro ⟨k, A, c, q⟩ w1 ⟨hk, hq, h3, h4, hO, hE⟩
    refine C_seq (C_seq (C_region (RL_q rfl (Yd_move rfl) (RL_q rfl (Yd_lss rfl rfl) (RL_nil (X_then (?_)))))))
    refine C_cond rfl (fun hb => ?_) (fun hb => ?_)
    · skip
      have hb : (k : Int) < 8 := of_decide_eq_true hb
      refine C_skip (X_then (C_seq (C_block (C_seq (C_region (RL_q rfl (Yd_move rfl) (RL_q rfl (Yd_move rfl) (RL_q rfl (Yd_rem rfl rfl (by decide) (tmodw (by omega))) (RL_q rfl (Yd_conv ⟨_, Tryz.underlying37⟩ Tryz.underlying5 rfl (u8w (by omega) (by omega))) (RL_l rfl (Ld_lit Tryz.underlying22 rfl (lit_flat Tryz.underlying22 Tryz.elt5 rfl rfl ⟨rfl, by decide⟩) ?_)))))))))))
      intro W1 he1 hz1 hB
      replace hO := hO.ext he1
      replace hE := Ext.trans hE he1
      have hsz := hE.size
      refine RL_l rfl (Ld_app Tryz.underlying22 Tryz.elt5 rfl (by decide) rfl rfl hO (Blk.one hB) (by simp [Value.oneCell']) (by simp only [maxLen]; omega) (by omega) hE.size (by intro h; cases h) rfl ?_)
      intro A2 c2 W2 hO2 hg2 hat2
      have hE2 := ext_app hO hE hE.size hg2
      refine RL_q rfl (Yd_assign rfl) (RL_nil (X_then (C_region (RL_q rfl (Yd_move rfl) (RL_q rfl (Yd_quo rfl rfl (by omega) (tdivU (by omega) (by omega) (by omega))) (RL_q rfl (Yd_assign rfl) (RL_nil (X_block (X_then (C_region (RL_q rfl (Yd_move rfl) (RL_q rfl (Yd_add rfl rfl (i64w (by omega) (by omega))) (RL_q rfl (Yd_assign rfl) (RL_nil (?_)))))))))))))))
      refine X_again (⟨k + 1, A2, c2, q / 256⟩) ⟨rfl, rfl, rfl, trivial⟩ ?_ (by first | omega | (dsimp only; omega))
      refine ⟨by omega, by rw [hq, le_div], by omega, by omega, ?_, hE2⟩
      rw [le_succ, ints_append, ← hq]
      exact hO2
    · skip
      have hb : ¬ (k : Int) < 8 := of_decide_eq_false hb
      obtain rfl : k = 8 := by omega
      refine C_exit (X_thenE (X_thenE (X_blockE (X_then (C_seq (C_region (RL_q rfl (Yd_move rfl) (RL_q rfl (Yd_assign rfl) (RL_nil (X_then (C_ret (X_ret1 rfl rfl ?_))))))))))))
      exact ⟨A, c, rfl, hO, hE⟩
theorem refInt_c (n : Int) (w : World) :
    Calls Tryz.prog 33 #[.int .i64 n] w fun e w' => ∃ A c, e = .returned (.slice A 8 c) ∧ Own w' w.heap.size 5 1 A 8 c (ints .u8 (le8 n)) ∧ Ext w w' := by
  refine calls_of (l := [.int .i64 n]) (N := 6) Tryz.func33 rfl rfl rfl ?_
  refine C_seq (C_region (RL_q rfl (Yd_assign rfl) (RL_nil (X_then (C_seq (C_region (RL_q rfl (Yd_move rfl) (RL_q rfl (Yd_conv ⟨_, Tryz.underlying3⟩ Tryz.underlying37 rfl rfl) (RL_l rfl (Ld_call Tryz.func66 rfl (by kernel_rfl) rfl (refUint_c _ _ (u64_range n).1 (u64_range n).2) ?_))))))))))
  rintro e W1 ⟨A, c, rfl, hO, he1⟩
  refine ⟨_, rfl, ?_⟩
  refine RL_q rfl (Yd_assign rfl) (RL_nil (X_then (C_ret (X_ret1 rfl rfl ?_))))
  exact ⟨A, c, rfl, hO, he1⟩
theorem layUint_c {B : Nat} (A : Option Addr) (m c : Nat) (bs : List Int) (n : Int) (w : World) (hr : Rd w B 1 A m (ints .u8 bs)) (hn : bs.length = m) (hc : m ≤ c) (hs : m ≤ 65536) (hnil : A = none → c = 0) :
    Calls Tryz.prog 95 #[.slice A m c, .int .u64 n] w fun e w' => ∃ A' c', e = .returned (.slice A' (m + 8) c') ∧ Own w' w.heap.size 5 1 A' (m + 8) c' (ints .u8 (bs ++ le 8 n)) ∧ Ext w w' := by
  refine calls_of (l := [.slice A m c, .int .u64 n]) (N := 25) Tryz.func95 rfl rfl rfl ?_
  refine C_seq (C_region (RL_q rfl (Yd_assign rfl) (RL_nil (X_then (C_seq (C_region (RL_q rfl (Yd_move rfl) (RL_q rfl (Yd_move rfl) (RL_q rfl (Yd_len Tryz.underlying22 rfl) (RL_q rfl (Yd_move rfl) (RL_q rfl (Yd_len Tryz.underlying22 rfl) (RL_q rfl (Yd_slice3 Tryz.underlying22 (sz := 1) (by kernel_rfl) rfl rfl rfl (by omega) (by omega) (by omega)) (RL_q rfl (Yd_assign rfl) (RL_nil (X_then (C_seq (C_seq (C_region (RL_q rfl (Yd_move rfl) (RL_nil (X_then (C_block (?_)))))))))))))))))))))))
  refine C_loop (T := Nat × Option Addr × Nat) (fun ⟨k, A', c'⟩ => [(0, .slice A' (m + k) c'), (1, .int .u64 n), (12, .int .i64 k)]) (fun ⟨k, A', c'⟩ w1 => k ≤ 8 ∧ Tip w1 w.heap.size 5 1 A' (m + k) c' (ints .u8 (bs ++ le k n)) ∧ (0 < k → Own w1 w.heap.size 5 1 A' (m + k) c' (ints .u8 (bs ++ le k n))) ∧ Ext w w1) (fun ⟨k, A', c'⟩ => 8 - k) (⟨0, A, m⟩) ⟨rfl, rfl, rfl, trivial⟩ ?_ ?_
  · exact ⟨by omega, .inr ⟨rfl, fun h => by have := hnil h; omega, B, by simpa [le] using hr⟩, fun h => absurd h (by omega), Ext.refl _⟩
  · rintro ⟨k, A', c'⟩ w1 ⟨hk, hT, hO, hE⟩
    refine C_seq (C_region (RL_q rfl (Yd_lss rfl rfl) (RL_nil (X_then (C_seq (?_))))))
    refine C_cond rfl (fun hb => ?_) (fun hb => ?_)
    · skip
      have hb : (k : Int) < 8 := of_decide_eq_true hb
      clear hO
      refine C_skip (X_then (C_seq (C_block (C_seq (C_region (RL_q rfl (Yd_move rfl) (RL_q rfl (Yd_assign rfl) (RL_nil (X_then (C_region (RL_q rfl (Yd_move rfl) (RL_q rfl (Yd_move rfl) (RL_q rfl (Yd_move rfl) (RL_q rfl (Yd_mul rfl rfl (i64w (by omega) (by omega))) (RL_q rfl (Yd_shr rfl rfl (by omega) rfl) (RL_q rfl (Yd_conv ⟨_, Tryz.underlying37⟩ Tryz.underlying5 rfl (shr_byte n k (by omega))) (RL_l rfl (Ld_lit Tryz.underlying22 rfl (lit_flat Tryz.underlying22 Tryz.elt5 rfl rfl ⟨rfl, by decide⟩) ?_))))))))))))))))))
      intro W1 he1 hz1 hB
      replace hT := hT.ext he1
      replace hE := Ext.trans hE he1
      refine RL_l rfl (Ld_appT Tryz.underlying22 Tryz.elt5 rfl (by decide) rfl rfl hT (Blk.one hB) (by simp [Value.oneCell']) (by simp only [maxLen]; omega) (by omega) hE.size (by intro h; cases h) (by omega) (r := m + (k + 1)) (by omega) ?_)
      intro A2 c2 W2 hO2 hg2
      have hE2 := hg2 w hE
      have hO3 : Own W2 w.heap.size 5 1 A2 (m + (k + 1)) c2 (ints .u8 (bs ++ le (k + 1) n)) := by
        rw [le_succ, ← List.append_assoc, ints_append]; exact hO2
      refine RL_q rfl (Yd_assign rfl) (RL_nil (X_block (X_then (C_region (RL_q rfl (Yd_add rfl rfl (i64w (by omega) (by omega))) (RL_q rfl (Yd_move rfl) (RL_nil (?_))))))))
      refine X_again (⟨k + 1, A2, c2⟩) ⟨rfl, rfl, rfl, trivial⟩ ?_ (by first | omega | (dsimp only; omega))
      exact ⟨by omega, .inl hO3, fun _ => hO3, hE2⟩
    · skip
      have hb : ¬ (k : Int) < 8 := of_decide_eq_false hb
      obtain rfl : k = 8 := by omega
      refine C_exit (X_thenE (X_thenE (X_blockE (X_then (C_seq (C_region (RL_q rfl (Yd_move rfl) (RL_q rfl (Yd_assign rfl) (RL_nil (X_then (C_ret (X_ret1 rfl rfl ?_))))))))))))
      exact ⟨A', c', rfl, hO (by omega), hE⟩
theorem layInts_c {B B2 : Nat} (A A2 : Option Addr) (m c n2 c2 : Nat) (bs l : List Int) (w : World) (hr : Rd w B 1 A m (ints .u8 bs)) (hn : bs.length = m) (hc : m ≤ c) (hnil : A = none → c = 0) (hl : Rd w B2 1 A2 n2 (ints .i64 l)) (hn2 : l.length = n2) (hs : m + 8 * n2 ≤ 65536) :
    Calls Tryz.prog 50 #[.slice A m c, .slice A2 n2 c2] w fun e w' => ∃ A' c', e = .returned (.slice A' (m + 8 * n2) c') ∧ (∃ B', Rd w' B' 1 A' (m + 8 * n2) (ints .u8 (bs ++ le8s l))) ∧ m + 8 * n2 ≤ c' ∧ (A' = none → c' = 0) ∧ (0 < n2 → Own w' w.heap.size 5 1 A' (m + 8 * n2) c' (ints .u8 (bs ++ le8s l))) ∧ Ext w w' := by
  refine calls_of (l := [.slice A m c, .slice A2 n2 c2]) (N := 25) Tryz.func50 rfl rfl rfl ?_
  refine C_seq (C_region (RL_q rfl (Yd_assign rfl) (RL_nil (X_then (C_seq (C_region (RL_q rfl (Yd_move rfl) (RL_q rfl (Yd_move rfl) (RL_q rfl (Yd_len Tryz.underlying22 rfl) (RL_q rfl (Yd_move rfl) (RL_q rfl (Yd_len Tryz.underlying22 rfl) (RL_q rfl (Yd_slice3 Tryz.underlying22 (sz := 1) (by kernel_rfl) rfl rfl rfl (by omega) (by omega) (by omega)) (RL_q rfl (Yd_assign rfl) (RL_nil (X_then (C_seq (C_seq (C_region (RL_q rfl (Yd_move rfl) (RL_q rfl (Yd_len Tryz.underlying83 rfl) (RL_q rfl (Yd_move rfl) (RL_nil (X_then (C_block (?_)))))))))))))))))))))))))
  refine C_loop (T := Nat × Option Addr × Nat) (fun ⟨k, A', c'⟩ => [(0, .slice A' (m + 8 * k) c'), (13, .slice A2 n2 c2), (14, .int .i64 n2), (15, .int .i64 k)]) (fun ⟨k, A', c'⟩ w1 => k ≤ n2 ∧ (∃ B', Rd w1 B' 1 A' (m + 8 * k) (ints .u8 (bs ++ le8s (l.take k)))) ∧ m + 8 * k ≤ c' ∧ (A' = none → c' = 0) ∧ (0 < k → Own w1 w.heap.size 5 1 A' (m + 8 * k) c' (ints .u8 (bs ++ le8s (l.take k)))) ∧ Ext w w1) (fun ⟨k, A', c'⟩ => n2 - k) (⟨0, A, m⟩) ⟨rfl, rfl, rfl, rfl, trivial⟩ ?_ ?_
  · exact ⟨by omega, ⟨B, by simpa [le8s] using hr⟩, by omega, fun h => by have := hnil h; omega, fun h => absurd h (by omega), Ext.refl _⟩
  · rintro ⟨k, A', c'⟩ w1 ⟨hk, ⟨B', hR⟩, hcc, hnn, hO, hE⟩
    refine C_seq (C_region (RL_q rfl (Yd_lss rfl rfl) (RL_nil (X_then (C_seq (?_))))))
    refine C_cond rfl (fun hb => ?_) (fun hb => ?_)
    · skip
      have hb : (k : Int) < n2 := of_decide_eq_true hb
      clear hO
      have hsz := hE.size
      obtain ⟨ad, rfl, _, hcell⟩ := (hl.ext hE).cells (by omega)
      have hget := ints_get .i64 l k (by omega)
      have hlen : (bs ++ le8s (l.take k)).length = m + 8 * k := by
        rw [List.length_append, le8s_len, List.length_take, hn, Nat.min_eq_left (by omega)]
      refine C_skip (X_then (C_seq (C_block (C_seq (C_region (RL_q rfl (Yd_idx Tryz.underlying83 (sz := 1) (by kernel_rfl) rfl rfl (by omega) (by omega)) (RL_q rfl (Yd_load Tryz.underlying3 rfl rfl (ldK (hl.ext hE) (by omega) hget (by omega))) (RL_q rfl (Yd_assign rfl) (RL_nil (X_then (C_region (RL_q rfl (Yd_move rfl) (RL_q rfl (Yd_move rfl) (RL_q rfl (Yd_conv ⟨_, Tryz.underlying3⟩ Tryz.underlying37 rfl rfl) (RL_l rfl (Ld_call Tryz.func95 rfl (by kernel_rfl) rfl (layUint_c A' (m + 8 * k) c' (bs ++ le8s (l.take k)) _ _ hR hlen hcc (by omega) hnn) ?_))))))))))))))))
      rintro e W1 ⟨A3, c3, rfl, hO, he1⟩
      refine ⟨_, rfl, ?_⟩
      replace hE := Ext.trans hE he1
      refine RL_q rfl (Yd_assign rfl) (RL_nil (X_block (X_then (C_region (RL_q rfl (Yd_add rfl rfl (i64w (by omega) (by omega))) (RL_q rfl (Yd_move rfl) (RL_nil (?_))))))))
      have hO3 : Own W1 w.heap.size 5 1 A3 (m + 8 * (k + 1)) c3 (ints .u8 (bs ++ le8s (l.take (k + 1)))) := by
        have h1 : bs ++ le8s (l.take (k + 1)) = (bs ++ le8s (l.take k)) ++ le 8 (IntKind.u64.wrap (l[k]'(by omega))) := by
          rw [List.take_succ_eq_append_getElem (by omega), le8s_append, List.append_assoc]; simp [le8s, le8]
        rw [h1]
        exact hO.base_ hsz
      refine X_again (⟨k + 1, A3, c3⟩) ⟨rfl, rfl, rfl, rfl, trivial⟩ ?_ (by first | omega | (dsimp only; omega))
      exact ⟨by omega, ⟨_, hO3.rd⟩, hO3.cap.1, fun h => (hO3.none_ h).1, fun _ => hO3, hE⟩
    · skip
      have hb : ¬ (k : Int) < n2 := of_decide_eq_false hb
      obtain rfl : k = n2 := by omega
      rw [List.take_of_length_le (by omega)] at hR hO
      refine C_exit (X_thenE (X_thenE (X_blockE (X_then (C_seq (C_region (RL_q rfl (Yd_move rfl) (RL_q rfl (Yd_assign rfl) (RL_nil (X_then (C_ret (X_ret1 rfl rfl ?_))))))))))))
      exact ⟨A', c', rfl, ⟨B', hR⟩, hcc, hnn, hO, hE⟩
theorem layBytes_c {B B2 : Nat} (A A2 : Option Addr) (m c n2 c2 : Nat) (bs s : List Int) (w : World) (hr : Rd w B 1 A m (ints .u8 bs)) (hn : bs.length = m) (hc : m ≤ c) (hnil : A = none → c = 0) (hl : Rd w B2 1 A2 n2 (ints .u8 s)) (hn2 : s.length = n2) (hnil2 : A2 = none → c2 = 0) (hs : m + 8 + n2 ≤ 60000) :
    Calls Tryz.prog 263 #[.slice A m c, .slice A2 n2 c2] w fun e w' => ∃ A' c', e = .returned (.slice A' (m + 8 + n2) c') ∧ Own w' w.heap.size 5 1 A' (m + 8 + n2) c' (ints .u8 (bs ++ text s)) ∧ Ext w w' := by
  have hE := Ext.refl w
  refine calls_of (l := [.slice A m c, .slice A2 n2 c2]) (N := 12) Tryz.func263 rfl rfl rfl ?_
  refine C_seq (C_region (RL_q rfl (Yd_assign rfl) (RL_nil (X_then (C_seq (C_region (RL_q rfl (Yd_move rfl) (RL_q rfl (Yd_move rfl) (RL_q rfl (Yd_len Tryz.underlying22 rfl) (RL_l rfl (Ld_lit Tryz.underlying83 rfl (lit_flat Tryz.underlying83 Tryz.elt3 rfl rfl ⟨rfl, by decide⟩) ?_)))))))))))
  intro W1 he1 hz1 hB
  replace hE := Ext.trans hE he1
  have hsz := hE.size
  refine RL_l rfl (Ld_call Tryz.func50 rfl (by kernel_rfl) rfl (layInts_c A _ m c _ _ bs [(n2 : Int)] _ (hr.ext hE) hn hc hnil (Blk.one hB) rfl (by omega)) ?_)
  rintro e W2 ⟨A3, c3, rfl, hR3, hc3, hn3, hO3, he2⟩
  refine ⟨_, rfl, ?_⟩
  replace hE := Ext.trans hE he2
  replace hB := hB.ext he2
  have hO := own_base (hO3 (by omega)) hsz
  clear hR3 hO3
  refine RL_q rfl (Yd_move rfl) (RL_l rfl (Ld_app Tryz.underlying22 Tryz.elt5 rfl (by decide) rfl rfl hO (hl.ext hE) (ints_one _ _) (by simp only [maxLen]; omega) (by omega) hE.size hnil2 rfl ?_))
  intro A4 c4 W3 hO4 hg3 hat3
  replace hE := ext_app hO hE hE.size hg3
  refine RL_q rfl (Yd_assign rfl) (RL_nil (X_then (C_ret (X_ret1 rfl rfl ?_))))
  refine ⟨A4, c4, rfl, ?_, hE⟩
  rw [text, ← List.append_assoc, ints_append, hn2]
  have h5 : le8s [(n2 : Int)] = le8 n2 := by simp [le8s]
  rw [h5] at hO4
  exact hO4
theorem refBytes_c {B2 : Nat} (A2 : Option Addr) (n2 c2 : Nat) (s : List Int) (w : World) (hl : Rd w B2 1 A2 n2 (ints .u8 s)) (hn2 : s.length = n2) (hnil2 : A2 = none → c2 = 0) (hs : n2 ≤ 60000) :
    Calls Tryz.prog 34 #[.slice A2 n2 c2] w fun e w' => ∃ A' c', e = .returned (.slice A' (8 + n2) c') ∧ Own w' w.heap.size 5 1 A' (8 + n2) c' (ints .u8 (text s)) ∧ Ext w w' := by
  have hE := Ext.refl w
  refine calls_of (l := [.slice A2 n2 c2]) (N := 8) Tryz.func34 rfl rfl rfl ?_
  refine C_seq (C_region (RL_q rfl (Yd_assign rfl) (RL_nil (X_then (C_seq (C_region (RL_q rfl (Yd_move rfl) (RL_q rfl (Yd_len Tryz.underlying22 rfl) (RL_l rfl (Ld_call Tryz.func33 rfl (by kernel_rfl) rfl (refInt_c (n2 : Int) _) ?_))))))))))
  rintro e W1 ⟨A3, c3, rfl, hO, he1⟩
  refine ⟨_, rfl, ?_⟩
  replace hE := Ext.trans hE he1
  refine RL_q rfl (Yd_move rfl) (RL_l rfl (Ld_app Tryz.underlying22 Tryz.elt5 rfl (by decide) rfl rfl hO (hl.ext hE) (ints_one _ _) (by simp only [maxLen]; omega) (by omega) hE.size hnil2 rfl ?_))
  intro A4 c4 W2 hO4 hg2 hat2
  replace hE := ext_app hO hE hE.size hg2
  refine RL_q rfl (Yd_assign rfl) (RL_nil (X_then (C_ret (X_ret1 rfl rfl ?_))))
  refine ⟨A4, c4, rfl, ?_, hE⟩
  rw [text, ints_append, hn2]
  exact hO4
end Go.Proofs.AL
/- Lists behind slices, for whatever type of elements: 'Ty' (how an element lies in cells), 'Vw' (a slice that reads as a list), 'Ow' (such a slice of the call's own). -/
set_option linter.unusedVariables false
set_option linter.unusedSimpArgs false
namespace Go.Proofs.AL
open Go.RowKit
structure Ty (α : Type) where
  sz : Nat
  enc : α → List Value
  ok : α → Prop
  len : ∀ a, (enc a).length = sz
  one : ∀ a, ∀ v ∈ enc a, v.oneCell' = true
  pos : 0 < sz
namespace Ty
variable {α : Type} (T : Ty α)
def cells (l : List α) : List Value := l.flatMap T.enc
theorem cells_len (l : List α) : (T.cells l).length = l.length * T.sz := by
  induction l with
  | nil => simp [cells]
  | cons a l ih =>
    have : T.cells (a :: l) = T.enc a ++ T.cells l := rfl
    rw [this, List.length_append, ih, T.len, List.length_cons, Nat.add_mul]; omega
theorem cells_append (a b : List α) : T.cells (a ++ b) = T.cells a ++ T.cells b := by simp [cells]
theorem cells_nil : T.cells [] = [] := rfl
theorem cells_one (a : α) : T.cells [a] = T.enc a := by simp [cells]
theorem cells_cons (a : α) (l : List α) : T.cells (a :: l) = T.enc a ++ T.cells l := rfl
theorem cells_drop (l : List α) (k : Nat) (h : k ≤ l.length) : (T.cells l).drop (k * T.sz) = T.cells (l.drop k) := by
  have e : l = l.take k ++ l.drop k := (List.take_append_drop k l).symm
  conv => lhs; rw [e, T.cells_append]
  have h2 : (T.cells (l.take k)).length = k * T.sz := by rw [T.cells_len, List.length_take, Nat.min_eq_left h]
  rw [List.drop_append, ← h2, List.drop_length, Nat.sub_self, List.drop_zero, List.nil_append]
theorem cells_take (l : List α) (k : Nat) (h : k ≤ l.length) : (T.cells l).take (k * T.sz) = T.cells (l.take k) := by
  have e : l = l.take k ++ l.drop k := (List.take_append_drop k l).symm
  conv => lhs; rw [e, T.cells_append]
  have h2 : (T.cells (l.take k)).length = k * T.sz := by rw [T.cells_len, List.length_take, Nat.min_eq_left h]
  rw [List.take_append, ← h2, List.take_length, Nat.sub_self, List.take_zero, List.append_nil]
theorem cells_at (l : List α) (i : Nat) (h : i < l.length) : T.cells l = T.cells (l.take i) ++ T.enc l[i] ++ T.cells (l.drop (i + 1)) := by
  have e : l = l.take i ++ (l[i] :: l.drop (i + 1)) := by rw [← List.drop_eq_getElem_cons h, List.take_append_drop]
  conv => lhs; rw [e, T.cells_append, T.cells_cons]
  rw [List.append_assoc]
theorem take_len (l : List α) (i : Nat) (h : i ≤ l.length) : (T.cells (l.take i)).length = i * T.sz := by rw [T.cells_len, List.length_take, Nat.min_eq_left h]
theorem cells_get (l : List α) (i j : Nat) (h : i < l.length) (hj : j < T.sz) : (T.cells l)[i * T.sz + j]? = (T.enc l[i])[j]? := by
  rw [T.cells_at l i h]
  have h1 := T.take_len l i (by omega)
  rw [List.append_assoc, List.getElem?_append_right (by omega), h1, Nat.add_sub_cancel_left, List.getElem?_append_left (by rw [T.len]; exact hj)]
theorem cells_one' (l : List α) : ∀ v ∈ T.cells l, v.oneCell' = true := fun v hv => by
  simp only [cells, List.mem_flatMap] at hv
  obtain ⟨a, _, h⟩ := hv
  exact T.one a v h
/-- one element is another one -/
theorem cells_set (l : List α) (i : Nat) (a : α) (h : i < l.length) (o : Nat) (ho : o = i * T.sz) (ys : List Value) : (T.cells l ++ ys).take o ++ T.enc a ++ (T.cells l ++ ys).drop (o + (T.enc a).length) = T.cells (l.set i a) ++ ys := by
  subst ho
  have h1 := T.take_len l i (by omega)
  have h0 := T.cells_len l
  have hle : (i + 1) * T.sz ≤ l.length * T.sz := Nat.mul_le_mul_right _ (by omega)
  have hs : (i + 1) * T.sz = i * T.sz + T.sz := by rw [Nat.add_mul, Nat.one_mul]
  rw [T.len, ← hs, List.take_append_of_le_length (by omega), List.drop_append_of_le_length (by omega), T.cells_take _ _ (by omega), T.cells_drop _ _ (by omega), List.set_eq_take_append_cons_drop, if_pos h, T.cells_append, T.cells_cons]
  simp
/-- one cell of one element is another one -/
theorem cells_setf (l : List α) (i j : Nat) (a : α) (v : Value) (h : i < l.length) (hj : j < T.sz) (o : Nat) (ho : o = i * T.sz + j) (he : (T.enc l[i]).set j v = T.enc a) (ys : List Value) (hv : cellsL v = [v]) : (T.cells l ++ ys).take o ++ cellsL v ++ (T.cells l ++ ys).drop (o + (cellsL v).length) = T.cells (l.set i a) ++ ys := by
  rw [hv]
  have hlen : o < (T.cells l ++ ys).length := by
    have h0 := T.cells_len l
    have hle : (i + 1) * T.sz ≤ l.length * T.sz := Nat.mul_le_mul_right _ (by omega)
    have hs : (i + 1) * T.sz = i * T.sz + T.sz := by rw [Nat.add_mul, Nat.one_mul]
    rw [List.length_append]; omega
  have e : (T.cells l ++ ys).take o ++ [v] ++ (T.cells l ++ ys).drop (o + [v].length) = (T.cells l ++ ys).set o v := by
    rw [List.set_eq_take_append_cons_drop, if_pos hlen]; simp
  rw [e, T.cells_at (l.set i a) i (by simpa using h)]
  subst ho
  conv => lhs; rw [T.cells_at l i h]
  have h1 := T.take_len l i (by omega)
  have h2 : (T.enc l[i]).length = T.sz := T.len _
  simp only [List.append_assoc]
  rw [List.set_append_right _ _ (by omega), h1, Nat.add_sub_cancel_left, List.set_append_left _ _ (by omega), he]
  simp [List.take_set_of_le, List.drop_set_of_lt]
end Ty
/-- numbers of a kind -/
def tInt (k : IntKind) (P : Int → Prop) : Ty Int := ⟨1, fun x => [.int k x], P, fun _ => rfl, fun _ v hv => by simp at hv; subst hv; rfl, by decide⟩
def tBool : Ty Bool := ⟨1, fun x => [.bool x], fun _ => True, fun _ => rfl, fun _ v hv => by simp at hv; subst hv; rfl, by decide⟩
abbrev tU8 : Ty Int := tInt .u8 (fun x => 0 ≤ x ∧ x ≤ 255)
abbrev tI64 : Ty Int := tInt .i64 (fun x => -9223372036854775808 ≤ x ∧ x ≤ 9223372036854775807)
theorem cells_ints (k : IntKind) (P : Int → Prop) (l : List Int) : (tInt k P).cells l = ints k l := by
  induction l with
  | nil => rfl
  | cons a l ih => rw [Ty.cells_cons, ih]; rfl
theorem okc {α : Type} {p : α → Prop} {a : α} {l : List α} (h : p a) (k : ∀ x ∈ l, p x) : ∀ x ∈ a :: l, p x := fun x hx => by
  rcases List.mem_cons.1 hx with e | e
  · subst e; exact h
  · exact k x e
theorem okn {α : Type} {p : α → Prop} : ∀ x ∈ ([] : List α), p x := fun _ h => by cases h
/-- a slice that reads as a list, its rows between two blocks -/
structure Vw {α : Type} (T : Ty α) (w : World) (lo B : Nat) (A : Option Addr) (n c : Nat) (l : List α) : Prop where
  rw_ : Rw w lo B T.sz A n c (T.cells l)
  max : c ≤ maxLen
  ok : ∀ a ∈ l, T.ok a
/-- such a slice that is the call's own -/
structure Ow {α : Type} (T : Ty α) (t : TypeId) (w : World) (lo B : Nat) (A : Option Addr) (n c : Nat) (l : List α) : Prop where
  own : Own w lo t T.sz A n c (T.cells l)
  hi : ∀ ad, A = some ad → ad.block < B
  ok : ∀ a ∈ l, T.ok a
section
variable {α : Type} {T : Ty α} {t : TypeId} {w w' : World} {lo lo' B B' n c k m : Nat} {A : Option Addr} {l l' : List α} {G : Nat → Prop}
theorem mul_right {a b s : Nat} (hs : 0 < s) (h : a * s = b * s) : a = b := Nat.eq_of_mul_eq_mul_right hs h
theorem Vw.ln (h : Vw T w lo B A n c l) : l.length = n := mul_right T.pos (by rw [← T.cells_len]; exact h.rw_.rd.len)
theorem Vw.cap (h : Vw T w lo B A n c l) : n ≤ c := h.rw_.cap
theorem Vw.nil (h : Vw T w lo B A n c l) : A = none → c = 0 := h.rw_.nil
theorem Vw.ext (h : Vw T w lo B A n c l) (hb : Ext w w') : Vw T w' lo B A n c l := { h with rw_ := h.rw_.ext hb }
theorem Vw.kp (h : Vw T w lo B A n c l) (hb : Kp G w w') (hG : ∀ k, G k → k < lo ∨ B ≤ k) : Vw T w' lo B A n c l := { h with rw_ := h.rw_.kp hb hG }
theorem Vw.bt {g : Nat} (h : Vw T w lo B A n c l) (hb : But g w w') (hG : g < lo ∨ B ≤ g) : Vw T w' lo B A n c l := { h with rw_ := h.rw_.bt hb hG }
theorem Vw.more (h : Vw T w lo B A n c l) (hl : lo' ≤ lo) (hB : B ≤ B') : Vw T w lo' B' A n c l := { h with rw_ := h.rw_.more hl hB }
theorem Vw.cast (h : Vw T w lo B A n c l) (e : l = l') : Vw T w lo B A n c l' := e ▸ h
theorem Rw.fit' {sz : Nat} {xs : List Value} (hs : 0 < sz) (h : Rw w lo B sz A n c xs) : Rw w lo w.heap.size sz A n c xs :=
  ⟨⟨h.rd.len, fun hn => by
    obtain ⟨ad, e, _, hc⟩ := h.rd.cells hn
    refine ⟨ad, e, ?_, hc⟩
    have hl : 0 < xs.length := by rw [h.rd.len]; exact Nat.mul_pos hn hs
    have := World.block_lt_of_cell? w _ (hc 0 xs[0] (List.getElem?_eq_getElem hl))
    rwa [add_block] at this⟩, h.cap, h.nil, h.low⟩
theorem Vw.fit (h : Vw T w lo B A n c l) : Vw T w lo w.heap.size A n c l := { h with rw_ := h.rw_.fit' T.pos }
theorem Vw.none_ : Vw T w lo B none 0 0 [] := ⟨Rw.none, Nat.zero_le _, fun _ h => by cases h⟩
theorem Vw.rd (h : Vw T w lo B A n c l) : Rd w B T.sz A n (T.cells l) := h.rw_.rd
/-- s[:k] -/
theorem Vw.take (h : Vw T w lo B A n c l) (hk : k ≤ n) : Vw T w lo B A k c (l.take k) := by
  have hl := h.ln
  refine ⟨⟨?_, Nat.le_trans hk h.cap, h.nil, h.rw_.low⟩, h.max, fun a ha => h.ok a (List.mem_of_mem_take ha)⟩
  have := h.rw_.rd.cut (k := 0) (m := k) (cap := k + 1) (by omega) hk (by omega)
  rw [if_neg (by omega), Nat.zero_mul, List.drop_zero, Nat.sub_zero, T.cells_take _ _ (by omega)] at this
  simpa [add_zero'] using this
/-- s[k:m] -/
theorem Vw.cut (h : Vw T w lo B A n c l) (hk : k ≤ m) (hm : m ≤ n) : Vw T w lo B (if c = k then A else A.map (·.add (k * T.sz))) (m - k) (c - k) ((l.drop k).take (m - k)) := by
  have hl := h.ln
  have hc := h.cap
  refine ⟨⟨?_, by omega, fun e => ?_, fun ad e => ?_⟩, Nat.le_trans (Nat.sub_le _ _) h.max, fun a ha => h.ok a (List.mem_of_mem_drop (List.mem_of_mem_take ha))⟩
  · have := h.rw_.rd.cut (k := k) (m := m) (cap := c) hk hm (by omega)
    rwa [T.cells_drop _ _ (by omega), T.cells_take _ _ (by rw [List.length_drop]; omega)] at this
  · split at e
    · omega
    · have := h.nil (by simpa using e); omega
  · split at e
    · exact h.rw_.low ad e
    · obtain ⟨ad', e1, rfl⟩ := Option.map_eq_some_iff.1 e
      rw [add_block]; exact h.rw_.low ad' e1
/-- s[k:] -/
theorem Vw.drop (h : Vw T w lo B A n c l) (hk : k ≤ n) : Vw T w lo B (if c = k then A else A.map (·.add (k * T.sz))) (n - k) (c - k) (l.drop k) := by
  have := h.cut (k := k) (m := n) hk (Nat.le_refl _)
  rwa [List.take_of_length_le (by rw [List.length_drop, h.ln]; exact Nat.le_refl _)] at this
theorem Vw.at_ (h : Vw T w lo B A n c l) {i : Nat} (hi : i < n) : ∃ ad, A = some ad ∧ ad.block < B ∧ lo ≤ ad.block := by
  obtain ⟨ad, e, hb, _⟩ := h.rw_.rd.cells (by omega)
  exact ⟨ad, e, hb, h.rw_.low ad e⟩
/-- loads: a whole element; one cell of an element -/
theorem Vw.cell {ad : Addr} (h : Vw T w lo B (some ad) n c l) {i j : Nat} (hi : i < l.length) {o : Nat} (ho : o = i * T.sz) {v : Value} (hv : (T.enc l[i])[j]? = some v) : w.cell? ((ad.add o).add j) = some v := by
  subst ho
  have hn := h.ln
  obtain ⟨ad', e, _, hc⟩ := h.rw_.rd.cells (by omega)
  injection e with e
  subst e
  have hj : j < T.sz := by
    rcases Nat.lt_or_ge j T.sz with h | h
    · exact h
    · rw [List.getElem?_eq_none (by rw [T.len]; exact h)] at hv; cases hv
  rw [add_add]
  exact hc _ _ (by rw [T.cells_get l i j hi hj]; exact hv)
theorem Vw.ldA {ad : Addr} (h : Vw T w lo B (some ad) n c l) {i : Nat} (hi : i < l.length) {o : Nat} (ho : o = i * T.sz) {cs : List Value} (hcs : T.enc l[i] = cs) : ∀ W, Ext w W → ∀ j u, cs[j]? = some u → W.cell? ((ad.add o).add j) = some u :=
  fun W hW j u hu => (h.ext hW).cell hi ho (by rw [hcs]; exact hu)
theorem Vw.ldF {ad : Addr} (h : Vw T w lo B (some ad) n c l) {i j : Nat} (hi : i < l.length) {o : Nat} (ho : o = i * T.sz) {v : Value} (hv : (T.enc l[i])[j]? = some v) : ∀ W, Ext w W → W.cell? ((ad.add o).add j) = some v :=
  fun W hW => (h.ext hW).cell hi ho hv
theorem Vw.ld1 {ad : Addr} (h : Vw T w lo B (some ad) n c l) {i : Nat} (hi : i < l.length) {o : Nat} (ho : o = i * T.sz) {v : Value} (hv : (T.enc l[i])[0]? = some v) : ∀ W, Ext w W → W.cell? (ad.add o) = some v :=
  fun W hW => by have := (h.ext hW).cell hi ho hv; rwa [add_zero'] at this
theorem Ow.vw (h : Ow T t w lo B A n c l) : Vw T w lo B A n c l := by
  have h2 := h.own.rw_
  refine ⟨⟨⟨h2.rd.len, fun hn => ?_⟩, h2.cap, h2.nil, h2.low⟩, h.own.cap.2, h.ok⟩
  obtain ⟨ad, e, _, hc⟩ := h2.rd.cells hn
  exact ⟨ad, e, h.hi ad e, hc⟩
theorem Ow.ln (h : Ow T t w lo B A n c l) : l.length = n := h.vw.ln
theorem Ow.cap (h : Ow T t w lo B A n c l) : n ≤ c := h.vw.cap
theorem Ow.ext (h : Ow T t w lo B A n c l) (hb : Ext w w') : Ow T t w' lo B A n c l := ⟨h.own.ext hb, h.hi, h.ok⟩
theorem Ow.kp (h : Ow T t w lo B A n c l) (hb : Kp G w w') (hG : ∀ k, G k → k < lo ∨ B ≤ k) : Ow T t w' lo B A n c l := by
  refine ⟨?_, h.hi, h.ok⟩
  have hlt := h.own.lt'
  rcases h.own with ⟨h1, h2⟩
  refine ⟨h1, ?_⟩
  rcases h2 with h2 | ⟨g, cap, cur, e, hg, hh, r⟩
  · exact .inl h2
  · obtain rfl : A = some ⟨g, 0, none⟩ := by injection e
    exact .inr ⟨g, cap, cur, e, hg, (hb.block g (hlt _ rfl).2 (fun hk => by have := hG _ hk; have := h.hi _ rfl; dsimp only at *; omega)).trans hh, r⟩
theorem Ow.bt {g : Nat} (h : Ow T t w lo B A n c l) (hb : But g w w') (hG : g < lo ∨ B ≤ g) : Ow T t w' lo B A n c l := h.kp (G := fun k => k = g) (Kp.of_but hb rfl) (fun k hk => by obtain rfl := hk; exact hG)
theorem Ow.more (h : Ow T t w lo B A n c l) (hl : lo' ≤ lo) (hB : B ≤ B') : Ow T t w lo' B' A n c l := ⟨h.own.base_ hl, fun ad e => Nat.lt_of_lt_of_le (h.hi ad e) hB, h.ok⟩
theorem Ow.cast (h : Ow T t w lo B A n c l) (e : l = l') : Ow T t w lo B A n c l' := e ▸ h
theorem Ow.nil : Ow T t w lo B none 0 0 [] := ⟨Own.nil w lo t T.sz, (fun _ h => by cases h), (fun _ h => by cases h)⟩
theorem Ow.of_own (h : Own w lo t T.sz A n c (T.cells l)) (ok : ∀ a ∈ l, T.ok a) : Ow T t w lo w.heap.size A n c l := ⟨h, fun ad e => (h.lt' ad e).2, ok⟩
theorem Ow.fit (h : Ow T t w lo B A n c l) : Ow T t w lo w.heap.size A n c l := Ow.of_own h.own h.ok
/-- a new block as a list of the call's own -/
theorem Ow.of_blk {g : Nat} {cs : List Value} (h : Blk w g t cs) (e : cs = T.cells l) (hn : l.length = n) (hm : n ≤ maxLen) (ok : ∀ a ∈ l, T.ok a) : Ow T t w g (g + 1) (some ⟨g, 0, none⟩) n n l := by
  subst e hn
  refine ⟨own_of_blk h (Nat.le_refl _) (T.cells_len l) (Nat.le_refl _) hm (by rw [← T.cells_len, List.take_length]), fun ad e => by injection e with e; subst e; exact Nat.lt_succ_self _, ok⟩
/-- what an append touches -/
theorem Ow.kpOf {v : Value} (h : Ow T t w lo B A n c l) (hv : v = .slice A n c) (hg : w.grownBy w' v.ownBlock) : Kp (fun k => lo ≤ k ∧ k < B) w w' := by
  subst hv
  refine ⟨hg.os, hg.tape, hg.output, hg.size, fun k hk hn => hg.block k hk (fun e => ?_)⟩
  cases A with
  | none => simp [Value.ownBlock] at e
  | some ad =>
    have e : k = ad.block := by simpa [Value.ownBlock] using e
    subst e
    exact hn ⟨(h.own.lt' ad rfl).1, h.hi ad rfl⟩
theorem Ext.kp {w0 : World} (h : Ext w0 w) (hb : Kp G w w') (hG : ∀ k, G k → w0.heap.size ≤ k) : Ext w0 w' :=
  ⟨hb.os.trans h.os, hb.tape.trans h.tape, hb.output.trans h.output, Nat.le_trans h.size hb.size, fun k hk => (hb.block k (Nat.lt_of_lt_of_le hk h.size) (fun e => by have := hG k e; omega)).trans (h.block k hk)⟩
theorem But.kp {g : Nat} {w0 : World} (h : But g w0 w) (hb : Kp G w w') (hG : ∀ k, G k → k = g ∨ w0.heap.size ≤ k) : But g w0 w' :=
  ⟨hb.os.trans h.os, hb.tape.trans h.tape, hb.output.trans h.output, Nat.le_trans h.size hb.size, fun k hk hn => (hb.block k (Nat.lt_of_lt_of_le hk h.size) (fun e => by
    rcases hG k e with h | h
    · exact hn (by rw [h])
    · omega)).trans (h.block k hk hn)⟩
theorem Kp.go {G' : Nat → Prop} {w0 : World} (h : Kp G w0 w) (hb : Kp G' w w') (hG : ∀ k, G' k → G k ∨ w0.heap.size ≤ k) : Kp G w0 w' :=
  ⟨hb.os.trans h.os, hb.tape.trans h.tape, hb.output.trans h.output, Nat.le_trans h.size hb.size, fun k hk hn => (hb.block k (Nat.lt_of_lt_of_le hk h.size) (fun e => by
    rcases hG k e with h | h
    · exact hn h
    · omega)).trans (h.block k hk hn)⟩
theorem Kp.ofb {g : Nat} (h : But g w w') : Kp (fun k => k = g) w w' := Kp.of_but h rfl
theorem Kp.mono {G' : Nat → Prop} (h : Kp G w w') (hG : ∀ k, G k → G' k) : Kp G' w w' := ⟨h.os, h.tape, h.output, h.size, fun k hk hn => h.block k hk (fun e => hn (hG k e))⟩
end
section
variable {α : Type} {T : Ty α} {e : TypeId} {P : Program} {w : World} {E : Env} {ty t : TypeId} {x y : Operand} {Q : Exit → Act → World → Prop} {K : Value → World → Prop}
/-- append(dst, src...) onto a list of the call's own -/
theorem Ld_apO {lo B lo2 B2 n n' m c by_ : Nat} {A A2 : Option Addr} {l l2 : List α} {zv : Value} (hT : P.underlying t = some (.slice e)) (he : Elt P e zv T.sz by_) (hzs : zv.cells.size = T.sz)
    (hx : ev E x = some (.slice A n n')) (hy : ev E y = some (.slice A2 m c)) (ho : Ow T e w lo B A n n' l) (hr : Vw T w lo2 B2 A2 m c l2) (h63 : n + m ≤ maxLen) (hby : (n + m) * by_ ≤ 140737488355328) (hlo : lo ≤ w.heap.size)
    (hK : ∀ A' c' w', Ow T e w' lo w'.heap.size A' (n + m) c' (l ++ l2) → Kp (fun k => lo ≤ k ∧ k < B) w w' → K (.slice A' (n + m) c') w') :
    Ld P E (.call { callee := .builtin .append, args := #[x, y], argTypes := #[t, t] }) ty w Q K := by
  refine Ld_app hT he hzs T.pos hx hy ho.own hr.rd (T.cells_one' l2) h63 hby hlo hr.nil rfl fun A' c' w' h2 h3 _ => hK A' c' w' (Ow.of_own (by rw [T.cells_append]; exact h2) ?_) (ho.kpOf rfl h3)
  intro a ha
  rcases List.mem_append.1 ha with h | h
  · exact ho.ok a h
  · exact hr.ok a h
/-- append(dst, src...) where dst has no room: a new row -/
theorem Ld_apF {lo B lo2 B2 n m c by_ : Nat} {A A2 : Option Addr} {l l2 : List α} {zv : Value} (hT : P.underlying t = some (.slice e)) (he : Elt P e zv T.sz by_) (hzs : zv.cells.size = T.sz)
    (hx : ev E x = some (.slice A n n)) (hy : ev E y = some (.slice A2 m c)) (ho : Vw T w lo B A n n l) (hr : Vw T w lo2 B2 A2 m c l2) (h63 : n + m ≤ maxLen) (hby : (n + m) * by_ ≤ 140737488355328) (hm : 0 < m)
    (hK : ∀ A' c' w', Ow T e w' w.heap.size w'.heap.size A' (n + m) c' (l ++ l2) → Ext w w' → K (.slice A' (n + m) c') w') :
    Ld P E (.call { callee := .builtin .append, args := #[x, y], argTypes := #[t, t] }) ty w Q K := by
  refine Ld_appF hT he hzs T.pos hx hy ho.rd hr.rd (T.cells_one' l2) h63 hby hm ho.nil rfl fun A' c' w' h2 h3 => hK A' c' w' (Ow.of_own (by rw [T.cells_append]; exact h2) ?_) h3
  intro a ha
  rcases List.mem_append.1 ha with h | h
  · exact ho.ok a h
  · exact hr.ok a h
/-- a store into a list of the call's own: of a whole element (of any number of cells), or of one cell of it -/
theorem Ow.put {lo B n c g i : Nat} {a : α} {l : List α} {ys : List Value} {w w' : World} {xs : List Value} (h : Ow T e w lo B (some ⟨g, 0, none⟩) n c l) (hb : Blk w' g e xs) (hx : xs = T.cells (l.set i a) ++ ys) (hl : xs.length = c * T.sz) (ok : T.ok a) :
    Ow T e w' lo B (some ⟨g, 0, none⟩) n c (l.set i a) := by
  subst hx
  have hln := h.ln
  have hcap := h.own.cap
  refine ⟨own_of_blk hb (h.own.lt' _ rfl).1 hl hcap.1 hcap.2 ?_, h.hi, fun b hb => ?_⟩
  · have : (T.cells (l.set i a)).length = n * T.sz := by rw [T.cells_len, List.length_set, hln]
    rw [← this, List.take_left]
  · rcases List.mem_or_eq_of_mem_set hb with h1 | h1
    · exact h.ok b h1
    · subst h1; exact ok
end
/-- between bytes as they were told before and these lists -/
theorem ow_u8 {w : World} {lo : Nat} {t : TypeId} {A : Option Addr} {n c : Nat} {l : List Int} (h : Own w lo t 1 A n c (ints .u8 l)) (hy : Byt l) : Ow tU8 t w lo w.heap.size A n c l := Ow.of_own (by rw [cells_ints]; exact h) hy
theorem Vw.u8 {w : World} {lo B : Nat} {A : Option Addr} {n c : Nat} {l : List Int} (h : Vw tU8 w lo B A n c l) : Rd w B 1 A n (ints .u8 l) := by have := h.rd; rwa [cells_ints] at this
theorem vw_u8 {w : World} {lo B : Nat} {A : Option Addr} {n c : Nat} {l : List Int} (h : Rd w B 1 A n (ints .u8 l)) (hc : n ≤ c) (hm : c ≤ maxLen) (hz : A = none → c = 0) (hy : Byt l) (hlo : lo = 0) : Vw tU8 w lo B A n c l :=
  ⟨⟨by rw [cells_ints]; exact h, hc, hz, fun _ _ => by omega⟩, hm, hy⟩
theorem Vw.byt {w : World} {lo B : Nat} {A : Option Addr} {n c : Nat} {l : List Int} (h : Vw tU8 w lo B A n c l) : Byt l := h.ok
theorem Ow.byt {t : TypeId} {w : World} {lo B : Nat} {A : Option Addr} {n c : Nat} {l : List Int} (h : Ow tU8 t w lo B A n c l) : Byt l := h.ok

section
variable {α : Type} {T : Ty α} {t : TypeId} {w w' : World} {lo lo' B B' n c k m : Nat} {A : Option Addr} {l l' : List α} {G : Nat → Prop}
theorem Vw.elem (h : Vw T w lo B A n c l) {i : Nat} (hi : i < n) : ∃ a, l[i]? = some a ∧ T.ok a := by
  have hl := h.ln
  exact ⟨l[i]'(by omega), List.getElem?_eq_getElem (by omega), h.ok _ (List.getElem_mem _)⟩
theorem get_of {i : Nat} {a : α} (h : l[i]? = some a) : ∃ hi : i < l.length, l[i] = a := by
  obtain ⟨hi, e⟩ := List.getElem?_eq_some_iff.1 h
  exact ⟨hi, e⟩
theorem Vw.lqA {ad : Addr} (h : Vw T w lo B (some ad) n c l) {i : Nat} {a : α} (hg : l[i]? = some a) {o : Nat} (ho : o = i * T.sz) {cs : List Value} (hcs : T.enc a = cs) : ∀ W, Ext w W → ∀ j u, cs[j]? = some u → W.cell? ((ad.add o).add j) = some u := by
  obtain ⟨hi, e⟩ := get_of hg
  exact h.ldA hi ho (by rw [e]; exact hcs)
theorem Vw.lqF {ad : Addr} (h : Vw T w lo B (some ad) n c l) {i j : Nat} {a : α} (hg : l[i]? = some a) {o : Nat} (ho : o = i * T.sz) {v : Value} (hv : (T.enc a)[j]? = some v) : ∀ W, Ext w W → W.cell? ((ad.add o).add j) = some v := by
  obtain ⟨hi, e⟩ := get_of hg
  exact h.ldF hi ho (by rw [e]; exact hv)
theorem Vw.lq1 {ad : Addr} (h : Vw T w lo B (some ad) n c l) {i : Nat} {a : α} (hg : l[i]? = some a) {o : Nat} (ho : o = i * T.sz) {v : Value} (hv : (T.enc a)[0]? = some v) : ∀ W, Ext w W → W.cell? (ad.add o) = some v := by
  obtain ⟨hi, e⟩ := get_of hg
  exact h.ld1 hi ho (by rw [e]; exact hv)
theorem Vw.lqAL {g : Nat} (h : Vw T w lo B (some ⟨g, 0, none⟩) n c l) {i : Nat} {a : α} (hg : l[i]? = some a) {o : Nat} (ho : o = i * T.sz) {cs : List Value} (hcs : T.enc a = cs) : ∀ W, Ext w W → ∀ j u, cs[j]? = some u → W.cell? ((⟨g, 0 + o, none⟩ : Addr).add j) = some u := by
  rw [← add_lit]; exact h.lqA hg ho hcs
theorem Vw.lqFL {g : Nat} (h : Vw T w lo B (some ⟨g, 0, none⟩) n c l) {i j : Nat} {a : α} (hg : l[i]? = some a) {o : Nat} (ho : o = i * T.sz) {v : Value} (hv : (T.enc a)[j]? = some v) : ∀ W, Ext w W → W.cell? ⟨g, 0 + o + j, none⟩ = some v := by
  rw [← add_lit, ← add_lit]; exact h.lqF hg ho hv
theorem Vw.lq1L {g : Nat} (h : Vw T w lo B (some ⟨g, 0, none⟩) n c l) {i : Nat} {a : α} (hg : l[i]? = some a) {o : Nat} (ho : o = i * T.sz) {v : Value} (hv : (T.enc a)[0]? = some v) : ∀ W, Ext w W → W.cell? ⟨g, 0 + o, none⟩ = some v := by
  rw [← add_lit]; exact h.lq1 hg ho hv
theorem Ow.at_ (h : Ow T t w lo B A n c l) {i : Nat} (hi : i < n) : ∃ g, A = some ⟨g, 0, none⟩ ∧ lo ≤ g ∧ g < B := by
  obtain ⟨g, ys, e, hg, _⟩ := h.own.blk (by omega)
  exact ⟨g, e, hg, h.hi _ e⟩
/-- s[:k:m] -/
theorem Vw.full (h : Vw T w lo B A n c l) (hk : k ≤ m) (hm : m ≤ n) : Vw T w lo B A k m (l.take k) := by
  have h1 := h.take (k := k) (by omega)
  have hc := h.cap
  exact ⟨⟨h1.rw_.rd, hk, fun e => by have := h.nil e; omega, h1.rw_.low⟩, by have := h.max; omega, h1.ok⟩
end
section
variable {α : Type} {T : Ty α} {e : TypeId} {P : Program} {w : World} {E : Env} {ty t : TypeId} {x y : Operand} {Q : Exit → Act → World → Prop} {K : Value → World → Prop}
/-- make([]T, n) -/
theorem Ld_mk {by_ n : Nat} {zv : Value} {a : α} {kl kc : IntKind} {l c : Int} (hT : P.underlying t = some (.slice e)) (he : Elt P e zv T.sz by_) (hzs : zv.cells.size = T.sz) (hx : ev E x = some (.int kl l)) (hy : ev E y = some (.int kc c)) (hl : l = n) (hc : c = n)
    (ha : zv.cells.toList = T.enc a) (hby : by_ * n ≤ 281474976710656) (h63 : n ≤ maxLen) (ok : T.ok a)
    (hK : ∀ w', Ow T e w' w.heap.size (w.heap.size + 1) (some ⟨w.heap.size, 0, none⟩) n n (List.replicate n a) → Ext w w' → K (.slice (some ⟨w.heap.size, 0, none⟩) n n) w') : Ld P E (.makeSlice t x y) ty w Q K := by
  refine Ld_make hT he hx hy hl hc hby h63 fun w' h1 h2 h3 => ?_
  refine hK w' ?_ h1
  have hcs : (madeCells zv.cells (n * T.sz)).toList = T.cells (List.replicate n a) := by
    apply List.ext_getElem
    · simp [madeCells, T.cells_len]
    · intro j h4 h5
      have h6 : j < n * T.sz := by simpa [madeCells] using h4
      have h7 : (madeCells zv.cells (n * T.sz)).toList[j] = zv.cells[j % zv.cells.size]! := by simp [madeCells]
      have h8 : j = (j / T.sz) * T.sz + j % T.sz := by rw [Nat.mul_comm]; exact (Nat.div_add_mod _ _).symm
      have h9 : j / T.sz < n := Nat.div_lt_of_lt_mul (by rw [Nat.mul_comm]; exact h6)
      have h10 := T.cells_get (List.replicate n a) (j / T.sz) (j % T.sz) (by simpa using h9) (Nat.mod_lt _ T.pos)
      rw [← h8] at h10
      rw [h7, hzs]
      have h11 : j % T.sz < zv.cells.size := by rw [hzs]; exact Nat.mod_lt _ T.pos
      rw [getElem!_pos zv.cells _ h11]
      have h12 : (T.cells (List.replicate n a))[j]? = some (T.cells (List.replicate n a))[j] := List.getElem?_eq_getElem h5
      rw [h12, List.getElem_replicate, ← ha] at h10
      have h13 : (zv.cells.toList)[j % T.sz]? = some zv.cells[j % T.sz] := by rw [List.getElem?_eq_getElem (by simpa using h11)]; simp
      rw [h13] at h10
      exact (Option.some.inj h10).symm
  have := Ow.of_blk (T := T) (l := List.replicate n a) h3 hcs (n := n) (by simp) (by simpa using h63) (fun b hb => by rw [List.eq_of_mem_replicate hb]; exact ok)
  simpa using this
/-- a store of a whole element -/
theorem Ld_putO {lo B n c g o i : Nat} {l : List α} {a : α} {v : Value} (hn : (P.info? t).map (·.size) = some (cellsL v).length) (hx : ev E x = some (.pointer (some ⟨g, o, none⟩))) (hy : ev E y = some v) (h : Ow T e w lo B (some ⟨g, 0, none⟩) n c l) (hi : i < n) (ho : o = 0 + i * T.sz) (hv : cellsL v = T.enc a) (hz : n ≤ c) (ok : T.ok a)
    (hK : ∀ w', Ow T e w' lo B (some ⟨g, 0, none⟩) n c (l.set i a) → But g w w' → K undef w') : Ld P E (.store t x y) ty w Q K := by
  obtain ⟨g', ys, e1, hg, hb, hl⟩ := h.own.blk (by omega)
  injection e1 with e1
  obtain rfl : g = g' := by injection e1
  have hln := h.ln
  have h0 := T.cells_len l
  have hle : (i + 1) * T.sz ≤ l.length * T.sz := Nat.mul_le_mul_right _ (by omega)
  have hs : (i + 1) * T.sz = i * T.sz + T.sz := by rw [Nat.add_mul, Nat.one_mul]
  have hlv : (cellsL v).length = T.sz := by rw [hv, T.len]
  refine Ld_store hn hx hy hb (by rw [List.length_append]; omega) (by rw [hv]; exact T.one a) fun w' hu _ hN => hK w' ?_ hu
  have e2 := T.cells_set l i a (by omega) o (by omega) ys
  rw [hv, e2] at hN
  refine h.put hN rfl ?_ ok
  rw [← e2]
  simp only [List.length_append, List.length_take, List.length_drop] at hl ⊢
  rw [T.len]
  omega
/-- a store of one cell of an element -/
theorem Ld_putF {lo B n c g o i j : Nat} {l : List α} {a b : α} {v : Value} (hn : (P.info? t).map (·.size) = some (cellsL v).length) (hx : ev E x = some (.pointer (some ⟨g, o, none⟩))) (hy : ev E y = some v) (h : Ow T e w lo B (some ⟨g, 0, none⟩) n c l) (hg : l[i]? = some b) (ho : o = 0 + i * T.sz + j) (hv : cellsL v = [v]) (h1 : v.oneCell' = true) (he : (T.enc b).set j v = T.enc a) (hj : j < T.sz) (ok : T.ok a)
    (hK : ∀ w', Ow T e w' lo B (some ⟨g, 0, none⟩) n c (l.set i a) → But g w w' → K undef w') : Ld P E (.store t x y) ty w Q K := by
  obtain ⟨hi, hb⟩ := get_of hg
  have hln := h.ln
  obtain ⟨g', ys, e1, hg', hbl, hl⟩ := h.own.blk (by omega)
  injection e1 with e1
  obtain rfl : g = g' := by injection e1
  have h0 := T.cells_len l
  have hle : (i + 1) * T.sz ≤ l.length * T.sz := Nat.mul_le_mul_right _ (by omega)
  have hs : (i + 1) * T.sz = i * T.sz + T.sz := by rw [Nat.add_mul, Nat.one_mul]
  refine Ld_store hn hx hy hbl (by rw [List.length_append, hv]; simp only [List.length_cons, List.length_nil]; omega) (by rw [hv]; intro u hu; simp at hu; subst hu; exact h1) fun w' hu _ hN => hK w' ?_ hu
  have e2 := T.cells_setf l i j a v hi hj o (by omega) (by rw [hb]; exact he) ys hv
  rw [e2] at hN
  refine h.put hN rfl ?_ ok
  rw [← e2, hv]
  simp only [List.length_append, List.length_take, List.length_drop, List.length_cons, List.length_nil] at hl ⊢
  omega
/-- copy(dst[off:..], src) into a list of the call's own -/
theorem Ld_cpO {lo B lo2 B2 n c off m c2 dn dc : Nat} {A A2 D : Option Addr} {t2 : TypeId} {l l2 : List α} (hs1 : T.sz = 1) (hT : P.underlying t = some (.slice e)) (hsz : (P.info? e).map (·.size) = some 1) (hx : ev E x = some (.slice D dn dc)) (hy : ev E y = some (.slice A2 m c2))
    (h : Ow T e w lo B A n c l) (hr : Vw T w lo2 B2 A2 m c2 l2) (hD : 0 < m → 0 < n → ∀ g, A = some ⟨g, 0, none⟩ → D = some ⟨g, off, none⟩) (hd : m ≤ dn) (ho : off + m ≤ n)
    (hK : ∀ w', Ow T e w' lo B A n c (l.take off ++ l2 ++ l.drop (off + m)) → Kp (fun k => lo ≤ k ∧ k < B) w w' → K (.int .i64 m) w') :
    Ld P E (.call { callee := .builtin .copy, args := #[x, y], argTypes := #[t, t2] }) ty w Q K := by
  have hln := h.ln
  have hl2 := hr.ln
  rcases Nat.eq_zero_or_pos m with hm | hm
  · subst hm
    obtain rfl : l2 = [] := List.eq_nil_of_length_eq_zero hl2
    have hrun := run_copy_none (P := P) w t t2 ty e D A2 dn dc 0 c2 hT hsz (by simp)
    refine Ld.of_run (.int .i64 0) w (fun N a ha o ho ht => by simp [execOp, ho, ha.ev hx, ha.ev hy, ht, resolve, invoke, builtin, hrun, goInt]) ?_
    exact hK w (by simpa using h) (Kp.refl _ _)
  · obtain ⟨g, ys, rfl, hg, hb, hl⟩ := h.own.blk (by omega)
    have h0 := T.cells_len l
    have h02 := T.cells_len l2
    rw [hs1] at h0 h02 hl
    have hD' := hD hm (by omega) g rfl
    have hrd := hr.rd
    rw [hs1] at hrd
    refine Ld_copy hT hsz hx hy hb (fun _ _ => hD') hrd hd (by rw [List.length_append]; omega) (T.cells_one' l2) fun w' hu _ hN => ?_
    have hgB := h.hi _ rfl
    refine hK w' ?_ (Kp.of_but hu ⟨hg, hgB⟩)
    have e1 : (T.cells l ++ ys).take off = T.cells (l.take off) := by
      rw [List.take_append_of_le_length (by omega)]
      have := T.cells_take l off (by omega)
      rwa [hs1, Nat.mul_one] at this
    have e2 : (T.cells l ++ ys).drop (off + m) = T.cells (l.drop (off + m)) ++ ys := by
      rw [List.drop_append_of_le_length (by omega)]
      have := T.cells_drop l (off + m) (by omega)
      rw [hs1, Nat.mul_one] at this
      rw [this]
    rw [e1, e2, ← List.append_assoc, ← T.cells_append, ← T.cells_append] at hN
    have hlen : (l.take off ++ l2 ++ l.drop (off + m)).length = n := by simp only [List.length_append, List.length_take, List.length_drop]; omega
    have hcap := h.own.cap
    refine ⟨own_of_blk hN hg ?_ hcap.1 hcap.2 ?_, h.hi, fun b hb => ?_⟩
    · simp only [List.length_append, T.cells_len, hs1] at hl ⊢
      simp only [List.length_append] at hlen
      omega
    · have h3 : (T.cells (l.take off ++ l2 ++ l.drop (off + m))).length = n * T.sz := by rw [T.cells_len, hlen]
      rw [← h3, List.take_left]
    · rcases List.mem_append.1 hb with h4 | h4
      · rcases List.mem_append.1 h4 with h5 | h5
        · exact h.ok b (List.mem_of_mem_take h5)
        · exact hr.ok b h5
      · exact h.ok b (List.mem_of_mem_drop h4)
end
theorem Yd_eqlSB {P : Program} {S : World → Prop} {E : Env} {ty t t2 : TypeId} {x y : Operand} {a b : List Int} (hx : ev E x = some (.string (strOfNums a))) (hy : ev E y = some (.string (strOfNums b))) (ha : Byt a) (hb : Byt b) : Yd P S E (.binOp .eql t x y t2) ty (.bool (decide (a = b))) := by
  rw [← str_dec ha hb]; exact Yd_eqlS hx hy
theorem Yd_neqSB {P : Program} {S : World → Prop} {E : Env} {ty t t2 : TypeId} {x y : Operand} {a b : List Int} (hx : ev E x = some (.string (strOfNums a))) (hy : ev E y = some (.string (strOfNums b))) (ha : Byt a) (hb : Byt b) : Yd P S E (.binOp .neq t x y t2) ty (.bool (!decide (a = b))) := by
  rw [← str_dec ha hb]; exact Yd_neqS hx hy
instance (l : List Int) : Decidable (Byt l) := List.decidableBAll _ l
/-- slices as elements of a slice -/
structure SlH where
  A : Option Addr
  n : Nat
  c : Nat
def tSl : Ty SlH := ⟨1, fun h => [.slice h.A h.n h.c], fun _ => True, fun _ => rfl, fun _ v hv => by simp at hv; subst hv; rfl, by decide⟩
/-- what slices in a list hold -/
def Vws {α : Type} (T : Ty α) (w : World) (lo B N : Nat) (hs : List SlH) (ls : List (List α)) : Prop :=
  hs.length = ls.length ∧ ∀ (i : Nat) (h : SlH) (l : List α), hs[i]? = some h → ls[i]? = some l → Vw T w lo B h.A h.n h.c l ∧ h.n ≤ N
section
variable {α : Type} {T : Ty α} {w w' : World} {lo B N : Nat} {hs : List SlH} {ls : List (List α)} {G : Nat → Prop}
theorem Vws.nil : Vws T w lo B N [] [] := ⟨rfl, fun i h l e => by simp at e⟩
theorem Vws.cons {A : Option Addr} {n c : Nat} {l : List α} (h1 : Vw T w lo B A n c l) (h2 : n ≤ N) (h3 : Vws T w lo B N hs ls) : Vws T w lo B N (⟨A, n, c⟩ :: hs) (l :: ls) :=
  ⟨by simp [h3.1], fun i h k e1 e2 => by
    cases i with
    | zero => simp at e1 e2; subst e1 e2; exact ⟨h1, h2⟩
    | succ i => exact h3.2 i h k (by simpa using e1) (by simpa using e2)⟩
theorem Vws.ofs (h : Vws T w lo B N hs ls) : Vws T w lo B N hs ls := h
theorem Vws.ext (h : Vws T w lo B N hs ls) (hb : Ext w w') : Vws T w' lo B N hs ls := ⟨h.1, fun i a l e1 e2 => ⟨(h.2 i a l e1 e2).1.ext hb, (h.2 i a l e1 e2).2⟩⟩
theorem Vws.kp (h : Vws T w lo B N hs ls) (hb : Kp G w w') (hG : ∀ k, G k → k < lo ∨ B ≤ k) : Vws T w' lo B N hs ls := ⟨h.1, fun i a l e1 e2 => ⟨(h.2 i a l e1 e2).1.kp hb hG, (h.2 i a l e1 e2).2⟩⟩
theorem Vws.get (h : Vws T w lo B N hs ls) {i : Nat} {a : SlH} (e : hs[i]? = some a) : ∃ l, ls[i]? = some l ∧ Vw T w lo B a.A a.n a.c l ∧ a.n ≤ N := by
  have hi := (List.getElem?_eq_some_iff.1 e).1
  have h1 := h.1
  exact ⟨ls[i]'(by omega), List.getElem?_eq_getElem (by omega), h.2 i a _ e (List.getElem?_eq_getElem (by omega))⟩
end
theorem cp_cut {A : Option Addr} {c k n m : Nat} (h : k + m ≤ n) (hc : n ≤ c) : 0 < m → 0 < n → ∀ g, A = some ⟨g, 0, none⟩ → (if c = k then A else A.map (·.add (k * 1))) = some ⟨g, k, none⟩ := by
  rintro h1 _ g rfl
  rw [if_neg (by omega), Option.map_some, add_lit]
  simp
/-! rounds that are walked one by one -/
section
variable {P : Program} {N : Nat} {Q : Exit → Act → World → Prop} {E : Env} {w : World} {c : Code} {n : Nat}
def CR (P : Program) (N : Nat) (Q : Exit → Act → World → Prop) (c : Code) (n : Nat) (E : Env) (w : World) : Prop := ∀ a, Sim N a E → Code.rounds P c Q n a w
theorem C_rounds (n : Nat) (h : CR P N Q c n E w) : C P N Q (.loop c) E w := fun a ha => wp_loop_rounds n (h a ha)
theorem CR_succ (h : C P N (Exit.then (Code.rounds P c Q n) Q) c E w) : CR P N Q c (n + 1) E w := fun a ha => h a ha
theorem CR_sub {E' : Env} (hs : SubE E' E) (h : CR P N Q c n E' w) : CR P N Q c n E w := fun a ha => h a (ha.sub hs)
theorem X_round (h : CR P N Q c n E w) : X N (Exit.then (Code.rounds P c Q n) Q) .normal E w := fun a ha => h a ha
/-- two ways that meet again -/
def JoinK {T : Type} (N : Nat) (E' : T → Env) (F : T → World → Prop) (a : Act) (w : World) : Prop := ∃ x, Sim N a (E' x) ∧ F x w
theorem C_joinX {T : Type} (E' : T → Env) (F : T → World → Prop) (hc : C P N (Exit.then (JoinK N E' F) Q) c E w) (hr : ∀ x w, F x w → X N Q .normal (E' x) w) : C P N Q c E w := fun a ha => by
  refine Code.wp_mono (fun e a' w' hq => ?_) (hc a ha)
  cases e with
  | normal => obtain ⟨x, h1, h2⟩ := hq; exact hr x w' h2 a' h1
  | _ => exact hq
theorem X_join {T : Type} {E' : T → Env} {F : T → World → Prop} (x : T) (hs : SubE (E' x) E) (hF : F x w) : X N (Exit.then (JoinK N E' F) Q) .normal E w := fun _ ha => ⟨x, ha.sub hs, hF⟩
end
/-! a region that draws its order, where two may come up that both make memory: both ways -/
inductive Pl
  | nil : Pl
  | q : Nat → Pl → Pl
  | l : Nat → Pl → Pl
  | two : Nat → Nat → Pl → Pl → Pl
def Pl.len : Pl → Nat
  | .nil => 0
  | .q _ r => r.len + 1
  | .l _ r => r.len + 1
  | .two _ _ r _ => r.len + 1
def okPl (ops : Array Oper) : Array Bool → Pl → Bool
  | listed, .nil => (Region.ready .any ops listed).isEmpty
  | listed, .q i r => Region.free .any ops listed i && ((Region.ready .any ops listed).contains i && okPl ops (listed.setIfInBounds i true) r)
  | listed, .l i r => decide (Region.ready .any ops listed = [i]) && okPl ops (listed.setIfInBounds i true) r
  | listed, .two i j r s => decide (Region.ready .any ops listed = [i, j]) && (decide (r.len = s.len) && (okPl ops (listed.setIfInBounds i true) r && okPl ops (listed.setIfInBounds j true) s))
section
variable {P : Program} {N : Nat} {Q : Exit → Act → World → Prop} {E : Env} {w : World} {ops : Array Oper} {G : Nat → Prop}
def RP (P : Program) (N : Nat) (G : Nat → Prop) (ops : Array Oper) (Q : Exit → Act → World → Prop) (p : Pl) (E : Env) (w : World) : Prop :=
  Region.noSelect ops = true → (∀ c a d v w, Q (.panic c) (a.put d v) w → Q (.panic c) a w) →
  ∀ listed, okPl ops listed p = true → ∀ a, Sim N a E → wpAnyH P .any ops Q (Kp G w) p.len listed a w
def RPl (P : Program) (N : Nat) (G : Nat → Prop) (ops : Array Oper) (Q : Exit → Act → World → Prop) (o : Oper) (r : Pl) (E : Env) (w : World) : Prop :=
  ∀ a, Sim N a E → ∀ K : Act → World → Prop, (∀ a' w', Kp G w w' → ∀ E', Sim N a' E' → RP P N G ops Q r E' w' → K a' w') → if Region.wanted o (yielded ops a.tmps) = true then o.wp P a w K Q else K (a.put o.dst undef) w
theorem C_regionP {id : Nat} {p : Pl} (G : Nat → Prop) (hm : P.follows .mixedOrders = true) (hn : Region.noSelect ops = true) (hl : p.len = ops.size) (ho : okPl ops (Array.replicate ops.size false) p = true)
    (hQ : ∀ c a d v w, Q (.panic c) (a.put d v) w → Q (.panic c) a w) (h : ∀ w1, Ext w w1 → w1.heap = w.heap → RP P N G ops Q p E w1) : C P N Q (.region id ops true) E w := fun a ha => by
  refine wp_region_held hm (S := Kp G w.drew) ?_
  have := h w.drew ((Below.refl _ _).drew) rfl hn hQ _ ho a ha
  rw [hl] at this
  exact this
theorem RP_nil (h : X N Q .normal E w) : RP P N G ops Q .nil E w := fun _ _ listed ho a ha => by
  refine wpAnyH_done ?_ (h a ha) 0
  simpa [okPl] using ho
theorem RP_q {i d : Nat} {op : Op} {ty : TypeId} {pos : String} {aft : Array Edge} {rest : Pl} {v : Value} (hi : ops[i]? = some ⟨some d, op, ty, pos, aft, none⟩) (hd : Nat.blt d N = true)
    (hy : Yd P (Kp G w) E op ty v) (h : RP P N G ops Q rest ((d, v) :: E) w) : RP P N G ops Q (.q i rest) E w := fun hn hQ listed ho a ha => by
  simp only [okPl, Bool.and_eq_true] at ho
  exact wpAnyH_take hi hn ho.1 ho.2.1 (fun c a w => hQ c a _ _ w) (.inl ⟨by simp [Region.wanted], fun W hW => hy N a ha _ rfl rfl W hW⟩) (Kp.refl G w) (h hn hQ _ ho.2.2 _ (ha.put d hd v))
theorem RP_gq {i d j dj : Nat} {b : Bool} {op : Op} {ty : TypeId} {pos : String} {aft : Array Edge} {rest : Pl} {v : Value} (hi : ops[i]? = some ⟨some d, op, ty, pos, aft, some (j, b)⟩)
    (hj : (ops[j]?).bind (·.dst) = some dj) (hv : lk E dj = some (.bool b)) (hd : Nat.blt d N = true)
    (hy : Yd P (Kp G w) E op ty v) (h : RP P N G ops Q rest ((d, v) :: E) w) : RP P N G ops Q (.q i rest) E w := fun hn hQ listed ho a ha => by
  simp only [okPl, Bool.and_eq_true] at ho
  exact wpAnyH_take hi hn ho.1 ho.2.1 (fun c a w => hQ c a _ _ w) (.inl ⟨by simp [Region.wanted, yielded_of ha hj hv], fun W hW => hy N a ha _ rfl rfl W hW⟩) (Kp.refl G w) (h hn hQ _ ho.2.2 _ (ha.put d hd v))
theorem RP_gn {i d j dj : Nat} {b b' : Bool} {op : Op} {ty : TypeId} {pos : String} {aft : Array Edge} {rest : Pl} (hi : ops[i]? = some ⟨some d, op, ty, pos, aft, some (j, b)⟩)
    (hj : (ops[j]?).bind (·.dst) = some dj) (hv : lk E dj = some (.bool b')) (hb : (b' == b) = false) (hd : Nat.blt d N = true)
    (h : RP P N G ops Q rest ((d, undef) :: E) w) : RP P N G ops Q (.q i rest) E w := fun hn hQ listed ho a ha => by
  simp only [okPl, Bool.and_eq_true] at ho
  exact wpAnyH_take hi hn ho.1 ho.2.1 (fun c a w => hQ c a _ _ w) (.inr ⟨by simpa [Region.wanted, yielded_of ha hj hv] using hb, rfl⟩) (Kp.refl G w) (h hn hQ _ ho.2.2 _ (ha.put d hd undef))
theorem RP_gu {i d j dj : Nat} {b : Bool} {op : Op} {ty : TypeId} {pos : String} {aft : Array Edge} {rest : Pl} (hi : ops[i]? = some ⟨some d, op, ty, pos, aft, some (j, b)⟩)
    (hj : (ops[j]?).bind (·.dst) = some dj) (hv : lk E dj = some undef) (hd : Nat.blt d N = true)
    (h : RP P N G ops Q rest ((d, undef) :: E) w) : RP P N G ops Q (.q i rest) E w := fun hn hQ listed ho a ha => by
  simp only [okPl, Bool.and_eq_true] at ho
  exact wpAnyH_take hi hn ho.1 ho.2.1 (fun c a w => hQ c a _ _ w) (.inr ⟨by simp [Region.wanted, yielded_of ha hj hv, undef], rfl⟩) (Kp.refl G w) (h hn hQ _ ho.2.2 _ (ha.put d hd undef))
theorem RP_two {i j : Nat} {oi oj : Oper} {r s : Pl} (hi : ops[i]? = some oi) (hj : ops[j]? = some oj) (h1 : RPl P N G ops Q oi r E w) (h2 : RPl P N G ops Q oj s E w) : RP P N G ops Q (.two i j r s) E w := fun hn hQ listed ho a ha => by
  simp only [okPl, Bool.and_eq_true, decide_eq_true_eq] at ho
  refine wpAnyH_all ho.1 (by simp) ?_
  intro i' hi'
  have : i' = i ∨ i' = j := by simpa using hi'
  rcases this with rfl | rfl
  · refine wpOp_step hi (fun K hK => ?_)
    refine h1 a ha K (fun a' w' he E' hE' hR => hK a' w' ⟨he, ?_⟩)
    exact wpAnyH_mono (fun W hW => he.trans hW) _ _ _ _ (hR hn hQ _ ho.2.2.1 a' hE')
  · refine wpOp_step hj (fun K hK => ?_)
    refine h2 a ha K (fun a' w' he E' hE' hR => hK a' w' ⟨he, ?_⟩)
    have := hR hn hQ _ ho.2.2.2 a' hE'
    rw [← ho.2.1] at this
    exact wpAnyH_mono (fun W hW => he.trans hW) _ _ _ _ this
theorem RP_loud {i : Nat} {o : Oper} {r : Pl} (hi : ops[i]? = some o) (h1 : RPl P N G ops Q o r E w) : RP P N G ops Q (.l i r) E w := fun hn hQ listed ho a ha => by
  simp only [okPl, Bool.and_eq_true, decide_eq_true_eq] at ho
  refine wpAnyH_all ho.1 (by simp) ?_
  intro i' hi'
  obtain rfl : i' = i := by simpa using hi'
  refine wpOp_step hi (fun K hK => ?_)
  refine h1 a ha K (fun a' w' he E' hE' hR => hK a' w' ⟨he, ?_⟩)
  exact wpAnyH_mono (fun W hW => he.trans hW) _ _ _ _ (hR hn hQ _ ho.2 a' hE')
theorem RPl_l {d : Nat} {op : Op} {ty : TypeId} {pos : String} {aft : Array Edge} {rest : Pl} (hd : Nat.blt d N = true)
    (h : Ld P E op ty w Q (fun v w' => Kp G w w' ∧ RP P N G ops Q rest ((d, v) :: E) w')) : RPl P N G ops Q ⟨some d, op, ty, pos, aft, none⟩ rest E w := fun a ha K hK => by
  rw [if_pos (by simp [Region.wanted])]
  refine Oper.wp_mono (fun a' w' => ?_) (h N a ha ⟨some d, op, ty, pos, aft, none⟩ rfl rfl)
  rintro ⟨v, rfl, he, hv⟩
  exact hK _ _ he _ (ha.put d hd v) hv
theorem RPl_gl {d j dj : Nat} {b : Bool} {op : Op} {ty : TypeId} {pos : String} {aft : Array Edge} {rest : Pl} (hj : (ops[j]?).bind (·.dst) = some dj) (hv : lk E dj = some (.bool b)) (hd : Nat.blt d N = true)
    (h : Ld P E op ty w Q (fun v w' => Kp G w w' ∧ RP P N G ops Q rest ((d, v) :: E) w')) : RPl P N G ops Q ⟨some d, op, ty, pos, aft, some (j, b)⟩ rest E w := fun a ha K hK => by
  rw [if_pos (by simp [Region.wanted, yielded_of ha hj hv])]
  refine Oper.wp_mono (fun a' w' => ?_) (h N a ha ⟨some d, op, ty, pos, aft, some (j, b)⟩ rfl rfl)
  rintro ⟨v, rfl, he, hv⟩
  exact hK _ _ he _ (ha.put d hd v) hv
theorem RPl_l0 {op : Op} {ty : TypeId} {pos : String} {aft : Array Edge} {rest : Pl}
    (h : Ld P E op ty w Q (fun _ w' => Kp G w w' ∧ RP P N G ops Q rest E w')) : RPl P N G ops Q ⟨none, op, ty, pos, aft, none⟩ rest E w := fun a ha K hK => by
  rw [if_pos (by simp [Region.wanted])]
  refine Oper.wp_mono (fun a' w' => ?_) (h N a ha ⟨none, op, ty, pos, aft, none⟩ rfl rfl)
  rintro ⟨v, rfl, he, hv⟩
  exact hK _ _ he _ ha hv
theorem RPl_gn {d j dj : Nat} {b b' : Bool} {op : Op} {ty : TypeId} {pos : String} {aft : Array Edge} {rest : Pl} (hj : (ops[j]?).bind (·.dst) = some dj) (hv : lk E dj = some (.bool b')) (hb : (b' == b) = false) (hd : Nat.blt d N = true)
    (h : RP P N G ops Q rest ((d, undef) :: E) w) : RPl P N G ops Q ⟨some d, op, ty, pos, aft, some (j, b)⟩ rest E w := fun a ha K hK => by
  rw [if_neg (by simpa [Region.wanted, yielded_of ha hj hv] using hb)]
  exact hK _ _ (Kp.refl G w) _ (ha.put d hd undef) h
theorem RPl_gu {d j dj : Nat} {b : Bool} {op : Op} {ty : TypeId} {pos : String} {aft : Array Edge} {rest : Pl} (hj : (ops[j]?).bind (·.dst) = some dj) (hv : lk E dj = some undef) (hd : Nat.blt d N = true)
    (h : RP P N G ops Q rest ((d, undef) :: E) w) : RPl P N G ops Q ⟨some d, op, ty, pos, aft, some (j, b)⟩ rest E w := fun a ha K hK => by
  rw [if_neg (by simp [Region.wanted, yielded_of ha hj hv, undef])]
  exact hK _ _ (Kp.refl G w) _ (ha.put d hd undef) h
theorem RP_is {l : Pl} {d : Nat} {b b' : Bool} (hd : lk E d = some (.bool b)) (e : b = b') (h : RP P N G ops Q l ((d, .bool b') :: E) w) : RP P N G ops Q l E w := fun hn hQ listed ho a ha => h hn hQ listed ho a (ha.is hd (by rw [e]))
theorem RP_case {l : Pl} {d : Nat} {b : Bool} (hd : lk E d = some (.bool b)) (ht : b = true → RP P N G ops Q l ((d, .bool true) :: E) w) (hf : b = false → RP P N G ops Q l ((d, .bool false) :: E) w) : RP P N G ops Q l E w := by
  cases b with
  | true => exact RP_is hd rfl (ht rfl)
  | false => exact RP_is hd rfl (hf rfl)
end
section
variable {P : Program} {N : Nat} {E : Env} {w : World}
theorem X_ret4 {fn : Func} {R : Ending → World → Prop} {t u s r : Tmp} {x y z v : Value} (hr : fn.results = #[.tmp t, .tmp u, .tmp s, .tmp r]) (hx : lk E t = some x) (hy : lk E u = some y) (hz : lk E s = some z) (hv : lk E r = some v) (h : R (.returned (.tuple #[x, y, z, v])) w) : X N (bodyPost P fn R) .ret E w :=
  fun a ha => ⟨ha.defers, .tuple #[x, y, z, v], by have h1 := ha.tmps t x hx; have h2 := ha.tmps u y hy; have h3 := ha.tmps s z hz; have h4 := ha.tmps r v hv; simp at h1 h2 h3 h4; simp [results, hr, h1, h2, h3, h4], h⟩
end
/-! scopes, closures, fields at any address, '==' of structs -/
section
variable {P : Program} {N : Nat} {Q : Exit → Act → World → Prop} {E : Env} {w : World} {c : Code}
theorem C_scope (h : C P N (Exit.noGoto Q) c E w) : C P N Q (.scope c) E w := fun a ha => wp_scope_straight (h a ha)
theorem X_ngN (h : X N Q .normal E w) : X N (Exit.noGoto Q) .normal E w := h
theorem X_ngE {i : Nat} (h : X N Q (.exit i) E w) : X N (Exit.noGoto Q) (.exit i) E w := h
theorem X_ngR (h : X N Q .ret E w) : X N (Exit.noGoto Q) .ret E w := h
end
section
variable {P : Program} {S : World → Prop} {E : Env} {w : World} {ty t t2 : TypeId} {x y : Operand} {Q : Exit → Act → World → Prop} {K : Value → World → Prop}
def evl (E : Env) : List Operand → Option (List Value)
  | [] => some []
  | x :: r => match ev E x, evl E r with
    | some v, some l => some (v :: l)
    | _, _ => none
theorem evl_map {N : Nat} {a : Act} (ha : Sim N a E) : ∀ {l : List Operand} {vs : List Value}, evl E l = some vs → l.map a.eval = vs
  | [], vs, h => by simp [evl] at h; subst h; rfl
  | x :: r, vs, h => by
    simp only [evl] at h
    cases hx : ev E x with
    | none => simp [hx] at h
    | some v =>
      cases hr : evl E r with
      | none => simp [hx, hr] at h
      | some l =>
        simp [hx, hr] at h
        subst h
        simp [ha.ev hx, evl_map ha hr]
theorem Yd_mkf {f : FuncId} {cap : List Operand} {vs : List Value} (hx : evl E cap = some vs) : Yd P S E (.makeFunc (.func f) #[] cap.toArray) ty (.func (.func f) #[] vs.toArray) := fun N a ha o ho ht W hW => by
  have h := evl_map ha hx
  have h2 : cap.toArray.map a.eval = vs.toArray := by rw [← h]; simp
  simp [execOp, ho, Instr.makeFunc]
  rw [← h]
/-- a call of a function value with what it captured -/
theorem Ld_callC {f : FuncId} {args : List Operand} {vs cap : List Value} {ats : Array TypeId} {R : Ending → World → Prop} {fn : Func} (hx0 : ev E x = some (.func (.func f) #[] cap.toArray)) (hf : P.funcs[f]? = some fn) (hb : fn.body.isSome = true) (hn : (fn.name == "runtime.NumGoroutine") = false)
    (hx : evs E (args.map (fun x => (0, x))) = some (vs.map fun v => (0, v))) (hc : Calls P f (vs ++ cap).toArray w R) (hR : ∀ e w', R e w' → ∃ v, e = .returned v ∧ K v w') :
    Ld P E (.call { callee := .value x, args := args.toArray, argTypes := ats }) ty w Q K := fun N a ha o ho ht => by
  have h1 : args.toArray.map a.eval = vs.toArray := by
    have := evs_map ha hx
    simp only [List.map_map] at this
    have h2 : (args.map fun x => a.eval x) = vs := by
      have h3 := congrArg (List.map Prod.snd) this
      simpa [List.map_map, Function.comp_def] using h3
    rw [← h2]
    simp
  have h2 : (execOp a.eval o).run P w = .ok (.enter f (vs ++ cap).toArray) w := by
    have h3 : fn.name ≠ "runtime.NumGoroutine" := by simpa using hn
    simp only [execOp, ho]
    simp [resolve, ha.ev hx0, Deferred.ofValue, h1, invoke, callFunc, hf, h3]
    intro hn0
    rw [hn0] at hb
    cases hb
  unfold Oper.wp
  rw [h2]
  show Calls P f (vs ++ cap).toArray w _
  refine Calls.mono hc fun e w' he => ?_
  obtain ⟨v, rfl, hv⟩ := hR e w' he
  exact ⟨v, rfl, hv⟩
theorem Yd_fldG {fs : Array Field} {i off : Nat} {p : Addr} (hT : P.underlying t = some (.struct fs)) (hf : fs[i]?.map (fun f => (f.offset, (P.info? f.type).map (fun i => decide (i.size = 0)))) = some (off, some false)) (hx : ev E x = some (.pointer (some p))) :
    Yd P S E (.fieldAddr t x i) ty (.pointer (some (p.add off))) :=
  fun N a ha o ho ht W hW => by
    obtain ⟨f, hf1, hf2⟩ := Option.map_eq_some_iff.1 hf
    simp only [Prod.mk.injEq] at hf2
    obtain ⟨he, hs⟩ := hf2
    obtain ⟨fi, hfi, hz⟩ := Option.map_eq_some_iff.1 hs
    have hz' : ¬ fi.size = 0 := by simpa using hz
    simp [execOp, ho, ha.ev hx, Instr.fieldAt, run_underlying hT, hf1, Instr.sureAddr, fieldPlace, sizeOf, typeInfo, hfi, hz', he]
/-- the kinds that '==' of flat structs tells apart -/
def fkind (P : Program) (t : TypeId) : Nat := match P.underlying t with
  | some (.int _) => 0
  | some .bool => 1
  | some .string => 2
  | _ => 9
def eqT : List (Bool × Nat × Nat) → List Value → List Value → Option Bool
  | [], _, _ => some true
  | (true, _, _) :: r, xs, ys => eqT r xs ys
  | (false, off, k) :: r, xs, ys => match k, xs[off]?, ys[off]?, eqT r xs ys with
    | 0, some (.int k a), some (.int k' b), some s => if k = k' then some ((a == b) && s) else none
    | 1, some (.bool a), some (.bool b), some s => some ((a == b) && s)
    | 2, some (.string a), some (.string b), some s => some ((a.toList == b.toList) && s)
    | _, _, _, _ => none
theorem run_part_flat {t : TypeId} {d : TypeDesc} {cs : Array Value} {off : Nat} {v : Value} (hT : P.underlying t = some d) (hd : isFlat d = true) (hv : cs[off]? = some v) (W : World) : (part t cs off).run P W = .ok v W := by
  simp [part, run_isAgg hT, hd, hv]
theorem run_eqT {d : Nat} {xs ys : List Value} (W : World) : ∀ (fs : List Field) {b : Bool}, eqT (fs.map fun f => (f.name == "_", f.offset, fkind P f.type)) xs ys = some b → (Op.eqFields (d + 1) xs.toArray ys.toArray fs).run P W = .ok b W
  | [], b, h => by simp [eqT] at h; subst h; simp [Op.eqFields]
  | f :: fs, b, h => by
    rw [List.map_cons] at h
    cases hn : (f.name == "_") with
    | true =>
      rw [hn] at h
      have hn' : ¬ (f.name ≠ "_") := by simpa using hn
      rw [Op.eqFields, if_neg hn']
      exact run_eqT W fs (by simpa [eqT] using h)
    | false =>
      rw [hn] at h
      have hn' : f.name ≠ "_" := by simpa using hn
      rw [Op.eqFields]
      simp only [if_pos hn', Sem.run_bind]
      simp only [eqT] at h
      cases hu : P.underlying f.type with
      | none => simp [fkind, hu] at h
      | some dd =>
        cases dd <;> try (simp [fkind, hu] at h; done)
        case int kk =>
          simp only [fkind, hu] at h
          split at h
          · rename_i k a k' c s e0 e1 e2 e3
            split at h
            · rename_i hk
              subst hk
              injection h with h
              subst h
              rw [run_part_flat hu rfl (by simpa using e1) W]
              simp only [Result.andThen_ok]
              rw [run_part_flat hu rfl (by simpa using e2) W]
              simp only [Result.andThen_ok]
              rw [run_equalIn_int W d f.type k kk a c hu]
              have h3 := run_eqT (d := d) W fs e3
              cases h4 : (a == c) <;> simp [h3]
            · cases h
          · rename_i h5 _ _ _ ; cases h5
          · rename_i h5 _ _ _ ; cases h5
          · cases h
        case bool =>
          simp only [fkind, hu] at h
          split at h
          · rename_i h5 _ _ _ ; cases h5
          · rename_i a c s e0 e1 e2 e3
            injection h with h
            subst h
            rw [run_part_flat hu rfl (by simpa using e1) W]
            simp only [Result.andThen_ok]
            rw [run_part_flat hu rfl (by simpa using e2) W]
            simp only [Result.andThen_ok]
            rw [run_equalIn_bool' W d f.type a c hu]
            have h3 := run_eqT (d := d) W fs e3
            cases h4 : (a == c) <;> simp [h3]
          · rename_i h5 _ _ _ ; cases h5
          · cases h
        case string =>
          simp only [fkind, hu] at h
          split at h
          · rename_i h5 _ _ _ ; cases h5
          · rename_i h5 _ _ _ ; cases h5
          · rename_i a c s e0 e1 e2 e3
            injection h with h
            subst h
            rw [run_part_flat hu rfl (by simpa using e1) W]
            simp only [Result.andThen_ok]
            rw [run_part_flat hu rfl (by simpa using e2) W]
            simp only [Result.andThen_ok]
            rw [run_equalIn_string W d f.type a c hu]
            have h3 := run_eqT (d := d) W fs e3
            cases h4 : (a.toList == c.toList) <;> simp [h3]
          · cases h
theorem run_eqA {fs : Array Field} {xs ys : List Value} {b : Bool} {tb : List (Bool × Nat × Nat)} (hT : P.underlying t = some (.struct fs)) (hp : P.stoodInHeld t = false) (ht : (fs.toList.map fun f => (f.name == "_", f.offset, fkind P f.type)) = tb) (hb : eqT tb xs ys = some b) (W : World) :
    (Op.equalIn 10000 t (.agg xs.toArray) (.agg ys.toArray)).run P W = .ok b W := by
  have hf : P.fieldsOf t = fs := by simp [Program.fieldsOf, hT]
  rw [run_equalIn_struct W 9999 t xs.toArray ys.toArray (by rw [hf]; exact hT) hp, hf]
  subst ht
  exact run_eqT W fs.toList hb
theorem Yd_eqlA {fs : Array Field} {xs ys : List Value} {b r : Bool} {tb : List (Bool × Nat × Nat)} (hT : P.underlying t = some (.struct fs)) (hp : P.stoodInHeld t = false) (hg : P.eqGuardType P.depth t = false) (ht : (fs.toList.map fun f => (f.name == "_", f.offset, fkind P f.type)) = tb) (hx : ev E x = some (.agg xs.toArray)) (hy : ev E y = some (.agg ys.toArray)) (hb : eqT tb xs ys = some b) (hr : b = r) :
    Yd P S E (.binOp .eql t x y t2) ty (.bool r) := fun N a ha o ho hty W hW => by
  subst hr
  simp only [execOp, ho, ha.ev hx, ha.ev hy]
  simp [run_eqGuard_agg W .eql t x y _ _ hg, run_eql_struct, run_eqA hT hp ht hb W]
theorem Yd_neqA {fs : Array Field} {xs ys : List Value} {b r : Bool} {tb : List (Bool × Nat × Nat)} (hT : P.underlying t = some (.struct fs)) (hp : P.stoodInHeld t = false) (hg : P.eqGuardType P.depth t = false) (ht : (fs.toList.map fun f => (f.name == "_", f.offset, fkind P f.type)) = tb) (hx : ev E x = some (.agg xs.toArray)) (hy : ev E y = some (.agg ys.toArray)) (hb : eqT tb xs ys = some b) (hr : b = r) :
    Yd P S E (.binOp .neq t x y t2) ty (.bool (!r)) := fun N a ha o ho hty W hW => by
  subst hr
  simp only [execOp, ho, ha.ev hx, ha.ev hy]
  simp [run_eqGuard_agg W .neq t x y _ _ hg, run_neq_struct, run_eqA hT hp ht hb W]
end
theorem rows_ty {α : Type} {T : Ty α} {rows : List (List Value)} (h : ∀ r ∈ rows, ∃ a, r = T.enc a ∧ T.ok a) : ∃ l, rows.flatten = T.cells l ∧ l.length = rows.length ∧ ∀ a ∈ l, T.ok a := by
  induction rows with
  | nil => exact ⟨[], rfl, rfl, fun _ h => by cases h⟩
  | cons r rows ih =>
    obtain ⟨l, h1, h2, h3⟩ := ih (fun r hr => h r (by simp [hr]))
    obtain ⟨a, rfl, ha⟩ := h r (by simp)
    exact ⟨a :: l, by rw [List.flatten_cons, h1]; rfl, by simp [h2], okc ha h3⟩
theorem vw_rows {α : Type} {T : Ty α} {w : World} {A : Option Addr} {n c : Nat} {rows : List (List Value)} (hr : Rd w w.heap.size T.sz A n rows.flatten) (hc : n ≤ c) (hm : c ≤ maxLen) (hz : A = none → c = 0) (h : ∀ r ∈ rows, ∃ a, r = T.enc a ∧ T.ok a) : ∃ l, Vw T w 0 w.heap.size A n c l := by
  obtain ⟨l, h1, _, h3⟩ := rows_ty h
  rw [h1] at hr
  exact ⟨l, ⟨hr, hc, hz, fun _ _ => Nat.zero_le _⟩, hm, h3⟩
end Go.Proofs.AL
set_option linter.unusedVariables false
/-! What is told of an argument that came in, by its type; generic over the program. -/
namespace Go.Proofs.AL
open Go.WideShapes
/-- the cells of a value that was read as type t: numbers fit, slices lead to rows -/
def Is (P : Program) (w : World) : Nat → TypeId → List Value → Prop
  | 0, _, _ => False
  | d + 1, t, cs => match P.underlying t with
    | some (.int k) => ∃ n, cs = [.int k n] ∧ (Lit.int k n).wf = true
    | some .bool => ∃ b, cs = [.bool b]
    | some .string => ∃ s : ByteArray, cs = [.string s] ∧ s.size ≤ maxLen
    | some (.slice e) => ∃ A n c, cs = [.slice A n c] ∧ n ≤ c ∧ c ≤ maxLen ∧ (A = none → c = 0) ∧ ∃ rows : List (List Value), rows.length = n ∧ (0 < P.cellsOf e → Rd w w.heap.size (P.cellsOf e) A n rows.flatten) ∧ ∀ r ∈ rows, r.length = P.cellsOf e ∧ Is P w d e r
    | some (.array n e) => cs.length = P.cellsOf t ∧ ∀ i, i < n → Is P w d e ((cs.drop (i * P.cellsOf e)).take (P.cellsOf e))
    | some (.struct fs) => cs.length = P.cellsOf t ∧ ∀ (i : Nat) (f : Field), fs[i]? = some f → Is P w d f.type ((cs.drop f.offset).take (P.cellsOf f.type))
    | _ => True
section
variable {P : Program} {w : World} {d : Nat} {t : TypeId} {cs : List Value}
theorem Is.int {k : IntKind} (ht : P.underlying t = some (.int k)) (h : Is P w d t cs) : ∃ n, cs = [.int k n] ∧ (Lit.int k n).wf = true := by
  cases d with
  | zero => exact h.elim
  | succ d => simpa only [Is, ht] using h
theorem Is.bool (ht : P.underlying t = some .bool) (h : Is P w d t cs) : ∃ b, cs = [.bool b] := by
  cases d with
  | zero => exact h.elim
  | succ d => simpa only [Is, ht] using h
theorem Is.str (ht : P.underlying t = some .string) (h : Is P w d t cs) : ∃ s : ByteArray, cs = [.string s] ∧ s.size ≤ maxLen := by
  cases d with
  | zero => exact h.elim
  | succ d => simpa only [Is, ht] using h
theorem Is.slice {e : TypeId} (ht : P.underlying t = some (.slice e)) (h : Is P w d t cs) : ∃ d' A n c, cs = [.slice A n c] ∧ n ≤ c ∧ c ≤ maxLen ∧ (A = none → c = 0) ∧ ∃ rows : List (List Value), rows.length = n ∧ (0 < P.cellsOf e → Rd w w.heap.size (P.cellsOf e) A n rows.flatten) ∧ ∀ r ∈ rows, r.length = P.cellsOf e ∧ Is P w d' e r := by
  cases d with
  | zero => exact h.elim
  | succ d => exact ⟨d, by simpa only [Is, ht] using h⟩
theorem Is.array {n : Nat} {e : TypeId} (ht : P.underlying t = some (.array n e)) (h : Is P w d t cs) : ∃ d', cs.length = P.cellsOf t ∧ ∀ i, i < n → Is P w d' e ((cs.drop (i * P.cellsOf e)).take (P.cellsOf e)) := by
  cases d with
  | zero => exact h.elim
  | succ d => exact ⟨d, by simpa only [Is, ht] using h⟩
theorem Is.struct {fs : Array Field} (ht : P.underlying t = some (.struct fs)) (h : Is P w d t cs) : ∃ d', cs.length = P.cellsOf t ∧ ∀ (i : Nat) (f : Field), fs[i]? = some f → Is P w d' f.type ((cs.drop f.offset).take (P.cellsOf f.type)) := by
  cases d with
  | zero => exact h.elim
  | succ d => exact ⟨d, by simpa only [Is, ht] using h⟩
theorem flat_get {sz : Nat} : ∀ (rows : List (List Value)), (∀ r ∈ rows, r.length = sz) → ∀ i (hi : i < rows.length) j, j < sz → rows.flatten[i * sz + j]? = (rows[i])[j]? := by
  intro rows
  induction rows with
  | nil => intro _ i hi; simp at hi
  | cons r rows ih =>
    intro h i hi j hj
    have hr : r.length = sz := h r (by simp)
    cases i with
    | zero =>
      rw [List.flatten_cons, List.getElem?_append_left (by omega)]
      simp
    | succ i =>
      rw [List.flatten_cons, List.getElem?_append_right (by rw [Nat.add_mul]; omega), show (i + 1) * sz + j - r.length = i * sz + j from by rw [Nat.add_mul]; omega, ih (fun r hr => h r (by simp [hr])) i (by simpa using hi) j hj]
      simp
theorem flat_len {sz : Nat} : ∀ (rows : List (List Value)), (∀ r ∈ rows, r.length = sz) → rows.flatten.length = rows.length * sz := by
  intro rows
  induction rows with
  | nil => intro _; simp
  | cons r rows ih =>
    intro h
    rw [List.flatten_cons, List.length_append, ih (fun r hr => h r (by simp [hr])), h r (by simp), List.length_cons, Nat.add_mul]; omega
/-- a slice of numbers -/
theorem Is.ints {e : TypeId} {k : IntKind} (ht : P.underlying t = some (.slice e)) (he : P.underlying e = some (.int k)) (hc : P.cellsOf e = 1) (h : Is P w d t cs) :
    ∃ A n c l, cs = [.slice A n c] ∧ Rd w w.heap.size 1 A n (Go.Proofs.AL.ints k l) ∧ l.length = n ∧ n ≤ c ∧ c ≤ maxLen ∧ (A = none → c = 0) ∧ ∀ x ∈ l, (Lit.int k x).wf = true := by
  obtain ⟨d', A, n, c, h1, h2, h3, h4, rows, h5, h6, h7⟩ := h.slice ht
  rw [hc] at h6
  have key : ∀ rows : List (List Value), (∀ r ∈ rows, r.length = P.cellsOf e ∧ Is P w d' e r) → ∃ l, rows.flatten = Go.Proofs.AL.ints k l ∧ l.length = rows.length ∧ ∀ x ∈ l, (Lit.int k x).wf = true := by
    intro rows
    induction rows with
    | nil => intro _; exact ⟨[], rfl, rfl, fun x hx => by cases hx⟩
    | cons r rows ih =>
      intro h
      obtain ⟨l, e1, e2, e3⟩ := ih (fun r hr => h r (by simp [hr]))
      obtain ⟨n, rfl, hn⟩ := (h r (by simp)).2.int he
      refine ⟨n :: l, by rw [List.flatten_cons, e1]; rfl, by simp [e2], fun x hx => ?_⟩
      rcases List.mem_cons.1 hx with rfl | hx
      · exact hn
      · exact e3 x hx
  obtain ⟨l, e1, e2, e3⟩ := key rows h7
  exact ⟨A, n, c, l, h1, e1 ▸ h6 (by omega), e2.trans h5, h2, h3, h4, e3⟩
/-- slices, one behind the other: where, how many, room, what -/
abbrev Sl := Option Addr × Nat × Nat × List Int
def slc (S : List Sl) : List Value := S.map fun x => .slice x.1 x.2.1 x.2.2.1
theorem slc_get (S : List Sl) (i : Nat) (h : i < S.length) : (slc S)[i]? = some (.slice S[i].1 S[i].2.1 S[i].2.2.1) := by simp [slc, List.getElem?_eq_getElem h]
def SlOk (w : World) (k : IntKind) (x : Sl) : Prop := Rd w w.heap.size 1 x.1 x.2.1 (Go.Proofs.AL.ints k x.2.2.2) ∧ x.2.2.2.length = x.2.1 ∧ x.2.1 ≤ x.2.2.1 ∧ x.2.2.1 ≤ maxLen ∧ (x.1 = none → x.2.2.1 = 0) ∧ ∀ y ∈ x.2.2.2, (Lit.int k y).wf = true
theorem slices_of {e q : TypeId} {k : IntKind} (he : P.underlying e = some (.slice q)) (hq : P.underlying q = some (.int k)) (hc : P.cellsOf q = 1) : ∀ (rows : List (List Value)), (∀ r ∈ rows, r.length = 1 ∧ Is P w d e r) → ∃ S, rows.flatten = slc S ∧ S.length = rows.length ∧ ∀ x ∈ S, SlOk w k x := by
  intro rows
  induction rows with
  | nil => intro _; exact ⟨[], rfl, rfl, fun x hx => by cases hx⟩
  | cons r rows ih =>
    intro h
    obtain ⟨S, e1, e2, e3⟩ := ih (fun r hr => h r (by simp [hr]))
    obtain ⟨A, n, c, l, rfl, h1⟩ := (h r (by simp)).2.ints he hq hc
    refine ⟨(A, n, c, l) :: S, by rw [List.flatten_cons, e1]; rfl, by simp [e2], fun x hx => ?_⟩
    rcases List.mem_cons.1 hx with rfl | hx
    · exact h1
    · exact e3 x hx
theorem is_of_trod {H : Type} {enc : TypeId × Value → H} : ∀ (fuel : Nat) (t : TypeId) (cs : List Value) (x : DataW H × List MemPlace), DataW.trod enc P w 0 (fun _ => true) true fuel t cs = some x → Is P w fuel t cs := by
  intro fuel
  induction fuel with
  | zero => intro t cs x h; simp [DataW.trod] at h
  | succ d ih =>
    intro t cs x h
    have h0 := h
    unfold Is
    split
    · rename_i k ht
      obtain ⟨n, h1, _, h2⟩ := DataW.trod_int ht h
      exact ⟨n, h1, h2⟩
    · rename_i ht
      obtain ⟨b, h1, _⟩ := DataW.trod_bool ht h
      exact ⟨b, h1⟩
    · rename_i ht
      obtain ⟨s, h1, _, h2⟩ := DataW.trod_string ht h
      exact ⟨s, h1, h2⟩
    · rename_i e ht
      rcases DataW.trod_slice ht h with ⟨h1, _⟩ | ⟨a, len, cap, elems, rest, n, hf, h1, _, _, hl, hm, hlen, hel, _⟩
      · exact ⟨none, 0, 0, h1, Nat.le_refl _, Nat.zero_le _, fun _ => rfl, [], rfl, fun _ => Rd.none _ _ _, fun r hr => by cases hr⟩
      · obtain rfl : d = n := by omega
        have each : ∀ i, i < len → ∃ cs', w.cells? 0 (a.add (i * P.cellsOf e)) (P.cellsOf e) = some cs' ∧ Is P w d e cs' := by
          intro i hi
          have h2 := hel i hi
          rw [List.getElem?_eq_getElem (by omega)] at h2
          obtain ⟨cs', h3, h4⟩ := Option.bind_eq_some_iff.1 h2
          exact ⟨cs', h3, ih _ _ _ h4⟩
        have each2 : ∃ rows : List (List Value), rows.length = len ∧ ∀ i (hi : i < rows.length), w.cells? 0 (a.add (i * P.cellsOf e)) (P.cellsOf e) = some rows[i] ∧ Is P w d e rows[i] := by
          have : ∀ m, m ≤ len → ∃ rows : List (List Value), rows.length = m ∧ ∀ i (hi : i < rows.length), w.cells? 0 (a.add (i * P.cellsOf e)) (P.cellsOf e) = some rows[i] ∧ Is P w d e rows[i] := by
            intro m
            induction m with
            | zero => intro _; exact ⟨[], rfl, fun i hi => by simp at hi⟩
            | succ m ihm =>
              intro hm
              obtain ⟨rows, r1, r2⟩ := ihm (by omega)
              obtain ⟨cs', c1, c2⟩ := each m (by omega)
              refine ⟨rows ++ [cs'], by simp [r1], fun i hi => ?_⟩
              rcases Nat.lt_or_ge i rows.length with h | h
              · rw [List.getElem_append_left h]; exact r2 i h
              · have : i = m := by simp at hi; omega
                subst this
                rw [List.getElem_append_right h]
                simp [r1, c1, c2]
          exact this len (Nat.le_refl _)
        obtain ⟨rows, r1, r2⟩ := each2
        have rl : ∀ r ∈ rows, r.length = P.cellsOf e := fun r hr => by
          obtain ⟨i, hi, rfl⟩ := List.mem_iff_getElem.1 hr
          exact (World.cells?_some (r2 i hi).1).2.1
        refine ⟨some a, len, cap, h1, hl, hm, (fun h => by cases h), rows, r1, fun hpos => ⟨by rw [flat_len rows rl, r1], fun hn => ⟨a, rfl, ?_, ?_⟩⟩, fun r hr => ⟨rl r hr, ?_⟩⟩
        · have h3 := (World.cells?_some (r2 0 (by omega)).1).2.2 0 hpos
          rw [List.getElem?_eq_getElem (by rw [rl _ (List.getElem_mem _)]; exact hpos)] at h3
          have := World.block_lt_of_cell? w _ h3
          rwa [add_block, add_block] at this
        · intro j u hu
          have hj : j < rows.flatten.length := by
            rcases Nat.lt_or_ge j rows.flatten.length with h | h
            · exact h
            · rw [List.getElem?_eq_none h] at hu; cases hu
          rw [flat_len rows rl] at hj
          have hdm : j = j / P.cellsOf e * P.cellsOf e + j % P.cellsOf e := by rw [Nat.mul_comm]; exact (Nat.div_add_mod _ _).symm
          have hi : j / P.cellsOf e < rows.length := Nat.div_lt_of_lt_mul (by rw [Nat.mul_comm]; exact hj)
          have hmd := Nat.mod_lt j hpos
          rw [hdm, flat_get rows rl _ hi _ hmd] at hu
          rw [hdm, ← add_add, (World.cells?_some (r2 _ hi).1).2.2 _ hmd]
          exact hu
        · obtain ⟨i, hi, rfl⟩ := List.mem_iff_getElem.1 hr
          exact (r2 i hi).2
    · rename_i n e ht
      obtain ⟨xs, m, hf, _, hl, hxl, hx⟩ := DataW.trod_array ht h
      obtain rfl : d = m := by omega
      refine ⟨hl, fun i hi => ?_⟩
      have h2 := hx i hi
      rw [List.getElem?_eq_getElem (by omega)] at h2
      exact ih _ _ _ h2
    · rename_i fs ht
      obtain ⟨xs, m, hf, _, hl, hxl, hx⟩ := DataW.trod_struct ht h
      obtain rfl : d = m := by omega
      refine ⟨hl, fun i f hi => ?_⟩
      have h2 := hx i f hi
      have : i < fs.size := (Array.getElem?_eq_some_iff.1 hi).1
      rw [List.getElem?_eq_getElem (by omega)] at h2
      exact ih _ _ _ h2
    · trivial
theorem okWide_array {n : Nat} {e : TypeId} {r : Reach} {base : Nat} {v : Value} (ht : P.underlying t = some (.array n e)) (h : Value.okWide P w r base t v) : ∃ cs, v = .agg cs ∧ cs.size = P.cellsOf t := by
  simp only [Value.okWide, ht] at h
  obtain ⟨cs, h1, h2, _⟩ := h
  exact ⟨cs, h1, h2⟩
end
end Go.Proofs.AL
/- How long a slice among the arguments may be. -/
set_option linter.unusedVariables false
namespace Go.Proofs.AL
open Go.RowKit
theorem sized_arg {H : Type} {enc : TypeId × Value → H} {P : Program} {w : World} {t e : TypeId} {v : Value} {d : DataW H} {ps : List MemPlace} {ts : List TypeId} {ds : List (DataW H)} {j B : Nat} (hsz : (DataW.weightsEach P ts ds).all (· ≤ reachBytes) = true) (ht : ts[j]? = some t) (hd : ds[j]? = some d)
    (hu : P.underlying t = some (.slice e)) (hB : P.bytesOf e = B) (h : DataW.Trod enc P w 0 (fun _ => true) true t v d ps) : ∀ a l c, v = .slice a l c → l * B ≤ 140737488351232 := by
  rintro a l c rfl
  subst hB
  obtain ⟨m, hm⟩ := h
  rcases DataW.trod_slice hu hm with ⟨h1, _⟩ | ⟨a', len, cap, elems, rest, n, _, h1, h2, _, _, _, hl, _⟩
  · simp [Value.cells] at h1
    obtain ⟨rfl, rfl, rfl⟩ := h1
    simp
  · simp [Value.cells] at h1
    obtain ⟨rfl, rfl, rfl⟩ := h1
    obtain ⟨h3, _⟩ := Prod.mk.inj h2
    subst h3
    have z := sized_slice hsz ht hd hu
    simp only [List.length_map] at z
    have h4 : l * P.bytesOf e ≤ (elems.length + rest.length) * P.bytesOf e := Nat.mul_le_mul_right _ (by omega)
    exact Nat.le_trans h4 z
end Go.Proofs.AL
/- Maps whose keys are whole numbers: made, looked up, stored into, deleted from, emptied, ranged over. -/
namespace Go.Proofs.AL
open Go Go.RowKit
/-- a map's entries, one behind the other -/
abbrev Es := List (Int × Value)
def mget : Es → Int → Option Value
  | [], _ => none
  | p :: r, k => if p.1 = k then some p.2 else mget r k
def mput : Es → Int → Value → Es
  | [], k, v => [(k, v)]
  | p :: r, k, v => if p.1 = k then (k, v) :: r else p :: mput r k v
def mdel : Es → Int → Es
  | [], _ => []
  | p :: r, k => if p.1 = k then r else p :: mdel r k
def mfind : Es → Int → Nat → Option (Nat × Value)
  | [], _, _ => none
  | p :: r, k, i => if p.1 = k then some (i, p.2) else mfind r k (i + 1)
def entOf (e : MapEntry) : Value × Value := (e.key, e.val)
def esOf (q : IntKind) (m : Es) : List (Value × Value) := m.map fun p => (.int q p.1, p.2)
/-- the map at block g -/
def MpB (w : World) (g : Nat) (q : IntKind) (m : Es) : Prop := ∃ es clock, w.heap[g]? = some (.map es clock) ∧ es.toList.map entOf = esOf q m
theorem MpB.lt {w : World} {g : Nat} {q : IntKind} {m : Es} (h : MpB w g q m) : g < w.heap.size := by
  obtain ⟨es, c, h1, _⟩ := h; exact (Array.getElem?_eq_some_iff.1 h1).1
theorem MpB.ext {w w' : World} {g : Nat} {q : IntKind} {m : Es} (h : MpB w g q m) (hb : Ext w w') : MpB w' g q m := by
  have hl := h.lt
  obtain ⟨es, c, h1, h2⟩ := h; exact ⟨es, c, (hb.block g hl).trans h1, h2⟩
theorem MpB.kp {w w' : World} {g : Nat} {q : IntKind} {m : Es} {G : Nat → Prop} (h : MpB w g q m) (hb : Kp G w w') (hg : ¬ G g) : MpB w' g q m := by
  have hl := h.lt
  obtain ⟨es, c, h1, h2⟩ := h; exact ⟨es, c, (hb.block g hl hg).trans h1, h2⟩
theorem findNow_int (q : IntKind) (d : IntKind) (k : Int) : ∀ (es : List MapEntry) (m : Es) (i : Nat), es.map entOf = esOf q m → Instr.findNow (.int d) (.int q k) es i = some (mfind m k i) := by
  intro es
  induction es with
  | nil =>
    intro m i h
    cases m with
    | nil => rfl
    | cons p m => simp [esOf] at h
  | cons e es ih =>
    intro m i h
    cases m with
    | nil => simp [esOf] at h
    | cons p m =>
      simp only [List.map_cons, esOf, List.cons.injEq, entOf, Prod.mk.injEq] at h
      obtain ⟨⟨h1, h2⟩, h3⟩ := h
      simp only [Instr.findNow, h1, Instr.sameNow, if_true]
      by_cases hk : k = p.1
      · subst hk; simp [mfind, h2]
      · have h4 : (k == p.1) = false := by simpa using hk
        rw [h4]
        simp only [mfind]
        rw [if_neg (fun e => hk e.symm)]
        exact ih m (i + 1) h3
theorem mfind_get : ∀ (m : Es) (k : Int) (i : Nat), (mfind m k i).map (·.2) = mget m k := by
  intro m
  induction m with
  | nil => intro k i; rfl
  | cons p m ih =>
    intro k i
    simp only [mfind, mget]
    split
    · rfl
    · exact ih k (i + 1)
theorem mfind_put : ∀ (m : Es) (k : Int) (v : Value) (i j : Nat) (u : Value), mfind m k i = some (j, u) → ∃ n, j = i + n ∧ n < m.length ∧ mput m k v = m.set n (k, v) ∧ mdel m k = m.eraseIdx n ∧ (m[n]?).map (·.1) = some k := by
  intro m
  induction m with
  | nil => intro k v i j u h; cases h
  | cons p m ih =>
    intro k v i j u h
    simp only [mfind] at h
    by_cases hk : p.1 = k
    · rw [if_pos hk] at h
      injection h with h; injection h with h1 h2
      exact ⟨0, by omega, by simp, by simp [mput, hk], by simp [mdel, hk], by simp [hk]⟩
    · rw [if_neg hk] at h
      obtain ⟨n, h1, h2, h3, h4, h5⟩ := ih k v (i + 1) j u h
      exact ⟨n + 1, by omega, by simp; omega, by simp [mput, hk, h3], by simp [mdel, hk, h4], by simpa using h5⟩
theorem mfind_none : ∀ (m : Es) (k : Int) (v : Value) (i : Nat), mfind m k i = none → mput m k v = m ++ [(k, v)] ∧ mdel m k = m := by
  intro m
  induction m with
  | nil => intro k v i h; exact ⟨rfl, rfl⟩
  | cons p m ih =>
    intro k v i h
    simp only [mfind] at h
    by_cases hk : p.1 = k
    · rw [if_pos hk] at h; cases h
    · rw [if_neg hk] at h
      have := ih k v (i + 1) h
      exact ⟨by simp [mput, hk, this.1], by simp [mdel, hk, this.2]⟩
section
variable {P : Program} {w : World} {E : Env} {ty t kt et : TypeId} {x y z : Operand} {v : Value} {N g : Nat} {Q : Exit → Act → World → Prop} {K : Value → World → Prop} {q : IntKind} {m : Es} {k : Int}
theorem run_keyOk (hk : P.underlying kt = some (.int q)) (e : Bool) (n : Nat) (W : World) : (Instr.checkKey e (n + 1) kt (.int q k)).run P W = .ok () W := by
  unfold Instr.checkKey
  simp only [Sem.run_bind, run_underlying hk, Result.andThen]
  rfl
theorem rgm {W : World} {es : Array MapEntry} {c : Nat} (h : W.heap[g]? = some (.map es c)) : (getObj g).run P W = .ok (.map es c) W := by simp [getObj, Sem.run, h]
theorem rsm {W : World} {es : Array MapEntry} {c : Nat} (o : Obj) (h : W.heap[g]? = some (.map es c)) : (setObj g o).run P W = .ok () { W with heap := W.heap.setIfInBounds g o } := by simp [setObj, Sem.run, h]
theorem but_setO {W : World} (o : Obj) : But g W { W with heap := W.heap.setIfInBounds g o } :=
  ⟨rfl, rfl, rfl, by simp, fun k hk hne => by
    have : g ≠ k := fun e => hne (by rw [e])
    simp [this]⟩
theorem mp_setO {W : World} {es es' : Array MapEntry} {c c' : Nat} (h : W.heap[g]? = some (.map es c)) (h2 : es'.toList.map entOf = esOf q m) : MpB { W with heap := W.heap.setIfInBounds g (.map es' c') } g q m :=
  ⟨es', c', by have := (Array.getElem?_eq_some_iff.1 h).1; simp [this], h2⟩
theorem run_find {es : Array MapEntry} (hk : P.underlying kt = some (.int q)) (h : es.toList.map entOf = esOf q m) (W : World) : (Instr.findKey kt (.int q k) es.toList).run P W = .ok (mfind m k 0) W := by
  simp only [Instr.findKey, Sem.run_bind, run_underlying hk, Result.andThen, findNow_int q q k es.toList m 0 h]
  rfl
theorem Ld_mkmap (hK : ∀ w', Ext w w' → w'.heap.size = w.heap.size + 1 → MpB w' w.heap.size q [] → K (.map (some w.heap.size)) w') : Ld P E (.makeMap t none) ty w Q K :=
  Ld.of_run (.map (some w.heap.size)) (w.alloc (.map #[] 0)) (fun N a ha o ho ht => by simp [execOp, ho, Instr.makeMap, newObj, Sem.run])
    (hK _ (Ext.alloc w _) (by simp) ⟨#[], 0, heap_alloc_new w _, rfl⟩)
theorem run_look {zv : Value} {c : Bool} (ht : P.underlying t = some (.map kt et)) (hk : P.underlying kt = some (.int q)) (hz : (P.info? et).bind (·.zero) = some zv) {W : World} (h : MpB W g q m) :
    (Instr.lookup t (.map (some g)) (.int q k) c).run P W = .ok (if c then .tuple #[(mget m k).getD zv, .bool (mget m k).isSome] else (mget m k).getD zv) W := by
  obtain ⟨es, cl, h1, h2⟩ := h
  obtain ⟨i, hi, hv⟩ := Option.bind_eq_some_iff.1 hz
  have h3 := mfind_get m k 0
  cases hf : mfind m k 0 with
  | none =>
    rw [hf] at h3
    simp [Instr.lookup, run_underlying ht, rgm h1, run_keyOk hk, run_find hk h2, hf, ← h3, zeroValue, typeInfo, hi, hv]
  | some r =>
    rw [hf] at h3
    simp [Instr.lookup, run_underlying ht, rgm h1, run_keyOk hk, run_find hk h2, hf, ← h3]
theorem Yd_look {S : World → Prop} {zv : Value} (ht : P.underlying t = some (.map kt et)) (hk : P.underlying kt = some (.int q)) (hz : (P.info? et).bind (·.zero) = some zv) (hx : ev E x = some (.map (some g))) (hy : ev E y = some (.int q k)) (h : ∀ W, S W → MpB W g q m) :
    Yd P S E (.lookup t x y false) ty ((mget m k).getD zv) := fun N a ha o ho hty W hW => by
  simp [execOp, ho, ha.ev hx, ha.ev hy, run_look ht hk hz (h W hW)]
theorem Yd_look2 {S : World → Prop} {zv : Value} (ht : P.underlying t = some (.map kt et)) (hk : P.underlying kt = some (.int q)) (hz : (P.info? et).bind (·.zero) = some zv) (hx : ev E x = some (.map (some g))) (hy : ev E y = some (.int q k)) (h : ∀ W, S W → MpB W g q m) :
    Yd P S E (.lookup t x y true) ty (.tuple #[(mget m k).getD zv, .bool (mget m k).isSome]) := fun N a ha o ho hty W hW => by
  simp [execOp, ho, ha.ev hx, ha.ev hy, run_look ht hk hz (h W hW)]
theorem esOf_len {es : Array MapEntry} (h : es.toList.map entOf = esOf q m) : es.size = m.length := by
  have := congrArg List.length h; simpa [esOf] using this
theorem es_mod {es : Array MapEntry} (h : es.toList.map entOf = esOf q m) (n : Nat) (hk : (m[n]?).map (·.1) = some k) (v : Value) : ((es[n]?).map (·.key)).getD (.int q k) = .int q k ∧ (es.modify n fun e => { e with key := .int q k, val := v }).toList.map entOf = esOf q (m.set n (k, v)) := by
  have hl := esOf_len h
  constructor
  · cases he : es[n]? with
    | none => rfl
    | some e =>
      have h1 : (es.toList.map entOf)[n]? = some (entOf e) := by rw [List.getElem?_map, Array.getElem?_toList, he]; rfl
      rw [h] at h1
      simp only [esOf, List.getElem?_map] at h1
      obtain ⟨p, hp, e1⟩ := Option.map_eq_some_iff.1 h1
      rw [hp] at hk
      simp only [Option.map_some, Option.some.injEq] at hk
      simp only [entOf, Prod.mk.injEq] at e1
      simp [← e1.1, hk]
  · apply List.ext_getElem?
    intro i
    have hi : (es.toList.map entOf)[i]? = (esOf q m)[i]? := by rw [h]
    simp only [List.getElem?_map, Array.getElem?_toList, esOf, List.getElem?_set, Array.getElem?_modify] at hi ⊢
    by_cases hin : n = i
    · subst hin
      obtain ⟨p, hp, e1⟩ := Option.map_eq_some_iff.1 hk
      have hn := (List.getElem?_eq_some_iff.1 hp).1
      rw [hp] at hi
      cases he : es[n]? with
      | none => rw [he] at hi; simp at hi
      | some e => simp [hn, entOf]
    · simp only [hin, if_false]
      rw [hi]
theorem Ld_mput (ht : P.underlying t = some (.map kt et)) (hk : P.underlying kt = some (.int q)) (hx : ev E x = some (.map (some g))) (hy : ev E y = some (.int q k)) (hz : ev E z = some v) (h : MpB w g q m)
    (hK : ∀ w', But g w w' → w'.heap.size = w.heap.size → MpB w' g q (mput m k v) → K undef w') : Ld P E (.mapUpdate t x y z) ty w Q K ∧ Ld P E (.insert t x y z) ty w Q K := by
  obtain ⟨es, cl, h1, h2⟩ := h
  have hrun : ∃ w', (Instr.mapUpdate t (.map (some g)) (.int q k) v).run P w = .ok () w' ∧ But g w w' ∧ w'.heap.size = w.heap.size ∧ MpB w' g q (mput m k v) := by
    cases hf : mfind m k 0 with
    | none =>
      refine ⟨{ w with heap := w.heap.setIfInBounds g (.map (es.push { key := .int q k, val := v, born := cl }) (cl + 1)) }, ?_, but_setO _, by simp, mp_setO h1 ?_⟩
      · simp [Instr.mapUpdate, run_underlying ht, rgm h1, run_keyOk hk, run_find hk h2, hf, rsm _ h1]
      · rw [(mfind_none m k v 0 hf).1]; simp [h2, esOf, entOf]
    | some r =>
      obtain ⟨n, e1, hn, e2, _, e3⟩ := mfind_put m k v 0 r.1 r.2 (by rw [hf])
      have hm := es_mod h2 n e3 v
      have hr : r.1 = n := by omega
      refine ⟨{ w with heap := w.heap.setIfInBounds g (.map (es.modify n fun e => { e with key := .int q k, val := v }) cl) }, ?_, but_setO _, by simp, mp_setO h1 (by rw [e2]; exact hm.2)⟩
      have hs : Instr.sameBits 10000 (.int q k) (.int q k) = true := by simp [Instr.sameBits]
      simp [Instr.mapUpdate, run_underlying ht, rgm h1, run_keyOk hk, run_find hk h2, hf, hr, Instr.keyThatStays, hm.1, hs, rsm _ h1]
  obtain ⟨w', h3, h4, h5, h6⟩ := hrun
  exact ⟨Ld.of_skip w' (fun N a ha o ho hty => by simp [execOp, ho, ha.ev hx, ha.ev hy, ha.ev hz, h3]) (hK w' h4 h5 h6), Ld.of_skip w' (fun N a ha o ho hty => by simp [execOp, ho, ha.ev hx, ha.ev hy, ha.ev hz, h3]) (hK w' h4 h5 h6)⟩
theorem eraseMap {α β : Type} (f : α → β) : ∀ (l : List α) (n : Nat), (l.eraseIdx n).map f = (l.map f).eraseIdx n
  | [], _ => rfl
  | a :: l, 0 => rfl
  | a :: l, n + 1 => by simp [eraseMap f l n]
theorem es_del {es : Array MapEntry} (h : es.toList.map entOf = esOf q m) (n : Nat) : (es.eraseIdxIfInBounds n).toList.map entOf = esOf q (m.eraseIdx n) := by
  simp only [Array.toList_eraseIdxIfInBounds]
  have h1 : (es.toList.eraseIdx n).map entOf = (es.toList.map entOf).eraseIdx n := eraseMap entOf _ n
  rw [h1, h]
  simp only [esOf]
  exact (eraseMap _ _ n).symm
theorem Ld_mdel {a2 : TypeId} (ht : P.underlying t = some (.map kt et)) (hk : P.underlying kt = some (.int q)) (hx : ev E x = some (.map (some g))) (hy : ev E y = some (.int q k)) (h : MpB w g q m)
    (hK : ∀ v w', But g w w' → w'.heap.size = w.heap.size → MpB w' g q (mdel m k) → K v w') : Ld P E (.call { callee := .builtin .delete, args := #[x, y], argTypes := #[t, a2] }) ty w Q K := by
  obtain ⟨es, cl, h1, h2⟩ := h
  have hrun : ∃ w', (Builtin.delete_ #[t, a2] ty #[.map (some g), .int q k]).run P w = .ok (.tuple #[]) w' ∧ But g w w' ∧ w'.heap.size = w.heap.size ∧ MpB w' g q (mdel m k) := by
    cases hf : mfind m k 0 with
    | none =>
      refine ⟨{ w with heap := w.heap.setIfInBounds g (.map es cl) }, ?_, but_setO _, by simp, mp_setO h1 ?_⟩
      · simp [Builtin.delete_, run_underlying ht, rgm h1, run_keyOk hk, run_find hk h2, hf, rsm _ h1]
      · rw [(mfind_none m k  undef 0 hf).2]; exact h2
    | some r =>
      obtain ⟨n, e1, hn, _, e2, e3⟩ := mfind_put m k  undef 0 r.1 r.2 (by rw [hf])
      have hr : r.1 = n := by omega
      refine ⟨{ w with heap := w.heap.setIfInBounds g (.map (es.eraseIdxIfInBounds n) cl) }, ?_, but_setO _, by simp, mp_setO h1 (by rw [e2]; exact es_del h2 n)⟩
      simp [Builtin.delete_, run_underlying ht, rgm h1, run_keyOk hk, run_find hk h2, hf, hr, rsm _ h1]
  obtain ⟨w', h3, h4, h5, h6⟩ := hrun
  exact Ld.of_run (.tuple #[]) w' (fun N a ha o ho hty => by simp [execOp, ho, ha.ev hx, ha.ev hy, hty, resolve, invoke, builtin, h3]) (hK _ w' h4 h5 h6)
theorem Ld_mclear (ht : P.underlying t = some (.map kt et)) (hx : ev E x = some (.map (some g))) (h : MpB w g q m)
    (hK : ∀ v w', But g w w' → w'.heap.size = w.heap.size → MpB w' g q [] → K v w') : Ld P E (.call { callee := .builtin .clear, args := #[x], argTypes := #[t] }) ty w Q K := by
  obtain ⟨es, cl, h1, h2⟩ := h
  have h3 : (Builtin.clear_ #[t] ty #[.map (some g)]).run P w = .ok (.tuple #[]) { w with heap := w.heap.setIfInBounds g (.map #[] cl) } := by
    simp [Builtin.clear_, run_underlying ht, rgm h1, rsm _ h1]
  exact Ld.of_run (.tuple #[]) { w with heap := w.heap.setIfInBounds g (.map #[] cl) } (fun N a ha o ho hty => by simp [execOp, ho, ha.ev hx, hty, resolve, invoke, builtin, h3]) (hK _ _ (but_setO _) (by simp) (mp_setO h1 rfl))
end
section
variable {P : Program} {E : Env}
/-- an element of an array that is a struct -/
theorem Yd_indexA {S : World → Prop} {ty t e : TypeId} {d : TypeDesc} {x y : Operand} {n m : Nat} {k : IntKind} {i : Int} {cs us : List Value} (hT : P.underlying t = some (.array n e)) (hs : (P.info? e).map (·.size) = some m) (he : P.underlying e = some d) (hd : isFlat d = false) (hx : ev E x = some (.agg cs.toArray)) (hy : ev E y = some (.int k i))
    (h0 : 0 ≤ i) (h1 : i < n) (hv : (cs.drop (i.toNat * m)).take m = us) : Yd P S E (.index t x y) ty (.agg us.toArray) :=
  fun N a ha o ho ht W hW => by
    obtain ⟨ei, hei, hz⟩ := Option.map_eq_some_iff.1 hs
    have h2 : (cs.toArray.extract (i.toNat * m) (i.toNat * m + m)) = us.toArray := by
      rw [← hv]; apply Array.ext'; simp [Array.toList_extract, List.extract_eq_take_drop]
    simp [execOp, ho, ha.ev hx, ha.ev hy, Instr.index, run_underlying hT, asIntOf, h0, h1, sizeOf, typeInfo, hei, hz, part, run_isAgg he, hd, ← hv]
end
section
variable {P : Program} {E : Env}
/-- a call of a function of the model's own -/
theorem Yd_ext {S : World → Prop} {ty : TypeId} {f : FuncId} {fn : Func} {e : Array Value → Sem Value} {args : List Operand} {vs : List Value} {ats : Array TypeId} {v : Value} (hf : P.funcs[f]? = some fn) (h1 : fn.body.isNone = true) (h2 : (fn.name == "runtime.NumGoroutine") = false) (h3 : Extern.findNext fn = none) (h4 : Extern.find fn = some e)
    (hx : evs E (args.map (fun x => (0, x))) = some (vs.map fun v => (0, v))) (hr : ∀ W, (e vs.toArray).run P W = .ok v W) : Yd P S E (.call { callee := .value (.func f), args := args.toArray, argTypes := ats }) ty v := fun N a ha o ho ht W hW => by
  have h5 : args.toArray.map a.eval = vs.toArray := by
    have := evs_map ha hx
    simp only [List.map_map] at this
    have h2 : (args.map fun x => a.eval x) = vs := by
      have h3 := congrArg (List.map Prod.snd) this
      simpa [List.map_map, Function.comp_def] using h3
    rw [← h2]
    simp
  have h6 : (callFunc f vs.toArray).run P W = .ok (.value v) W := by
    have h7 : fn.name ≠ "runtime.NumGoroutine" := by simpa using h2
    have h8 : fn.body = none := by simpa using h1
    simp [callFunc, hf, h7, h8, h3, h4, hr W]
  simp only [execOp, ho]
  simp [resolve, Act.eval, Deferred.ofValue, h5, invoke, h6]
end
section
variable {P : Program} {E : Env} {w : World} {Q : Exit → Act → World → Prop} {K : Value → World → Prop} {ty : TypeId} {x y : Operand}
/-- a lookup whose answer is told -/
theorem Yd_lookT {S : World → Prop} {t kt et : TypeId} {zv v : Value} {b : Bool} {g : Nat} {q : IntKind} {m : Es} {k : Int} (ht : P.underlying t = some (.map kt et)) (hk : P.underlying kt = some (.int q)) (hz : (P.info? et).bind (·.zero) = some zv) (hx : ev E x = some (.map (some g))) (hy : ev E y = some (.int q k)) (h : ∀ W, S W → MpB W g q m)
    (h1 : (mget m k).getD zv = v) (h2 : (mget m k).isSome = b) : Yd P S E (.lookup t x y true) ty (.tuple #[v, .bool b]) := by
  subst h1 h2; exact Yd_look2 ht hk hz hx hy h
theorem Yd_lookV {S : World → Prop} {t kt et : TypeId} {zv v : Value} {g : Nat} {q : IntKind} {m : Es} {k : Int} (ht : P.underlying t = some (.map kt et)) (hk : P.underlying kt = some (.int q)) (hz : (P.info? et).bind (·.zero) = some zv) (hx : ev E x = some (.map (some g))) (hy : ev E y = some (.int q k)) (h : ∀ W, S W → MpB W g q m)
    (h1 : (mget m k).getD zv = v) : Yd P S E (.lookup t x y false) ty v := by
  subst h1; exact Yd_look ht hk hz hx hy h
theorem Yd_mkMO {S : World → Prop} {t : TypeId} {nm : String} : Yd P S E (.makeFunc (.methodOf t nm) #[] #[]) ty (.func (.methodOf t nm) #[] #[]) := fun N a ha o ho ht W hW => by
  simp [execOp, ho, Instr.makeFunc]
/-- a call of a method expression -/
theorem Ld_callMO {t : TypeId} {nm : String} {d : TypeDesc} {f : FuncId} {u recv : Value} {R : Ending → World → Prop} {fn : Func} {ats : Array TypeId} (hx0 : ev E x = some (.func (.methodOf t nm) #[] #[])) (hy : ev E y = some u) (ht : P.underlying t = some d) (hd : ∀ ms, d ≠ .interface ms)
    (hm : ∀ W, (method (P.types.size + Made.depth) t u nm).run P W = .ok (f, recv) W) (hf : P.funcs[f]? = some fn) (hb : fn.body.isSome = true) (hn : (fn.name == "runtime.NumGoroutine") = false)
    (hc : Calls P f #[recv] w R) (hR : ∀ e w', R e w' → ∃ v, e = .returned v ∧ K v w') : Ld P E (.call { callee := .value x, args := #[y], argTypes := ats }) ty w Q K := fun N a ha o ho hty => by
  have h2 : (execOp a.eval o).run P w = .ok (.enter f #[recv]) w := by
    have h3 : fn.name ≠ "runtime.NumGoroutine" := by simpa using hn
    have h4 : ∀ W, (callMethod (.iface t u) nm #[]).run P W = .ok (.enter f #[recv]) W := fun W => by
      simp [callMethod, hm, callFunc, hf, h3]
      intro h0; rw [h0] at hb; cases hb
    simp only [execOp, ho]
    simp [resolve, ha.ev hx0, Deferred.ofValue, ha.ev hy, invoke, run_underlying ht]
    cases d <;> first | exact h4 w | exact absurd rfl (hd _)
  unfold Oper.wp
  rw [h2]
  show Calls P f #[recv] w _
  refine Calls.mono hc fun e w' he => ?_
  obtain ⟨v, rfl, hv⟩ := hR e w' he
  exact ⟨v, rfl, hv⟩
end
section
variable {P : Program} {E : Env} {w : World} {Q : Exit → Act → World → Prop} {K : Value → World → Prop} {ty : TypeId} {x y : Operand}
/-- a slice's elements become nothing -/
theorem Ld_sclear {t e : TypeId} {zv : Value} {zl cs : List Value} {g o n c : Nat} {ti : TypeId} (ht : P.underlying t = some (.slice e)) (hz : (P.info? e).bind (·.zero) = some zv) (hx : ev E x = some (.slice (some ⟨g, o, none⟩) n c)) (hn : 0 < n) (hzl : (Builtin.zeroCells zv.cells n).toList = zl) (h1 : ∀ u ∈ zl, u.oneCell' = true)
    (hb : Blk w g ti cs) (hl : o + zl.length ≤ cs.length) (hK : ∀ v w', But g w w' → w'.heap.size = w.heap.size → Blk w' g ti (cs.take o ++ zl ++ cs.drop (o + zl.length)) → K v w') :
    Ld P E (.call { callee := .builtin .clear, args := #[x], argTypes := #[t] }) ty w Q K := by
  obtain ⟨W', h2, h3, h4, h5⟩ := run_storeCells_blk (P := P) (g := g) (ti := ti) zl 0 o cs w hb (by simpa using hl) h1
  obtain ⟨i, hi, hv⟩ := Option.bind_eq_some_iff.1 hz
  obtain ⟨n, rfl⟩ : ∃ m, n = m + 1 := ⟨n - 1, by omega⟩
  have h6 : (Builtin.clear_ #[t] ty #[.slice (some ⟨g, o, none⟩) (n + 1) c]).run P w = .ok (.tuple #[]) W' := by
    simp [Builtin.clear_, run_underlying ht, zeroValue, typeInfo, hi, hv, hzl, h2]
  exact Ld.of_run (.tuple #[]) W' (fun N a ha o ho hty => by simp [execOp, ho, ha.ev hx, hty, resolve, invoke, builtin, h6]) (hK _ _ h3 h4 (by simpa using h5))
end
section
variable {P : Program} {E : Env} {w : World} {S : World → Prop} {Q : Exit → Act → World → Prop} {K : Value → World → Prop} {ty : TypeId} {x y : Operand}
theorem Yd_mkFC {f : FuncId} {fst cap : List Operand} {us vs : List Value} (hf : evl E fst = some us) (hx : evl E cap = some vs) : Yd P S E (.makeFunc (.func f) fst.toArray cap.toArray) ty (.func (.func f) us.toArray vs.toArray) := fun N a ha o ho ht W hW => by
  have h := evl_map ha hx
  have h' := evl_map ha hf
  simp [execOp, ho, Instr.makeFunc]
  rw [← h, ← h']
  exact ⟨rfl, rfl⟩
/-- a call of a function value with what stands ahead and what it captured -/
theorem Ld_callFC {f : FuncId} {args : List Operand} {us vs cap : List Value} {ats : Array TypeId} {R : Ending → World → Prop} {fn : Func} (hx0 : ev E x = some (.func (.func f) us.toArray cap.toArray)) (hf : P.funcs[f]? = some fn) (hb : fn.body.isSome = true) (hn : (fn.name == "runtime.NumGoroutine") = false)
    (hx : evs E (args.map (fun x => (0, x))) = some (vs.map fun v => (0, v))) (hc : Calls P f (us ++ vs ++ cap).toArray w R) (hR : ∀ e w', R e w' → ∃ v, e = .returned v ∧ K v w') :
    Ld P E (.call { callee := .value x, args := args.toArray, argTypes := ats }) ty w Q K := fun N a ha o ho ht => by
  have h1 : args.toArray.map a.eval = vs.toArray := by
    have := evs_map ha hx
    simp only [List.map_map] at this
    have h2 : (args.map fun x => a.eval x) = vs := by
      have h3 := congrArg (List.map Prod.snd) this
      simpa [List.map_map, Function.comp_def] using h3
    rw [← h2]
    simp
  have h2 : (execOp a.eval o).run P w = .ok (.enter f (us ++ vs ++ cap).toArray) w := by
    have h3 : fn.name ≠ "runtime.NumGoroutine" := by simpa using hn
    simp only [execOp, ho]
    simp [resolve, ha.ev hx0, Deferred.ofValue, h1, invoke, callFunc, hf, h3]
    intro hn0
    rw [hn0] at hb
    cases hb
  unfold Oper.wp
  rw [h2]
  show Calls P f (us ++ vs ++ cap).toArray w _
  refine Calls.mono hc fun e w' he => ?_
  obtain ⟨v, rfl, hv⟩ := hR e w' he
  exact ⟨v, rfl, hv⟩
end
section
variable {P : Program} {E : Env} {w : World} {Q : Exit → Act → World → Prop} {K : Value → World → Prop} {ty t e : TypeId} {x y : Operand} {α : Type} {T : Ty α}
/-- clear(s[i:i+1]) -/
theorem Ld_clr1 {lo B n c c' g o i : Nat} {l : List α} {a : α} {zv : Value} (ht : P.underlying t = some (.slice e)) (hz : (P.info? e).bind (·.zero) = some zv) (hx : ev E x = some (.slice (some ⟨g, o, none⟩) 1 c')) (h : Ow T e w lo B (some ⟨g, 0, none⟩) n c l) (hi : i < n) (ho : o = i * T.sz) (hv : (Builtin.zeroCells zv.cells 1).toList = T.enc a) (ok : T.ok a)
    (hK : ∀ v w', Ow T e w' lo B (some ⟨g, 0, none⟩) n c (l.set i a) → But g w w' → K v w') : Ld P E (.call { callee := .builtin .clear, args := #[x], argTypes := #[t] }) ty w Q K := by
  obtain ⟨g', ys, e1, hg, hb, hl⟩ := h.own.blk (by omega)
  injection e1 with e1
  obtain rfl : g = g' := by injection e1
  have hln := h.ln
  have h0 := T.cells_len l
  have hle : (i + 1) * T.sz ≤ l.length * T.sz := Nat.mul_le_mul_right _ (by omega)
  have hs : (i + 1) * T.sz = i * T.sz + T.sz := by rw [Nat.add_mul, Nat.one_mul]
  refine Ld_sclear (zl := T.enc a) ht hz hx (by omega) hv (T.one a) hb (by rw [List.length_append, T.len]; omega) fun v w' hu _ hN => hK v w' ?_ hu
  have e2 := T.cells_set l i a (by omega) o (by omega) ys
  rw [e2] at hN
  refine h.put hN rfl ?_ ok
  rw [← e2]
  simp only [List.length_append, List.length_take, List.length_drop] at hl ⊢
  rw [T.len]
  omega
end
end Go.Proofs.AL
set_option linter.unusedVariables false
set_option linter.unusedSimpArgs false
set_option maxRecDepth 20000
namespace Go.Proofs.AL
open Go.RowKit

/-- one bit of the check -/
def cbit (n : Nat) : Nat := n / 2 ^^^ (if n % 2 = 1 then 3988292384 else 0)
def cbits : Nat → Nat → Nat
  | 0, n => n
  | k + 1, n => cbits k (cbit n)
theorem cbit_xor (a b : Nat) : cbit (a ^^^ b) = cbit a ^^^ cbit b := by
  unfold cbit
  rw [Nat.xor_div_two]
  have h : (a ^^^ b) % 2 = 1 ↔ ¬(a % 2 = 1 ↔ b % 2 = 1) := Nat.xor_mod_two_eq_one
  have hp : ∀ p x y : Nat, (x ^^^ p) ^^^ (y ^^^ p) = x ^^^ y := fun p x y => by
    rw [Nat.xor_assoc, ← Nat.xor_assoc p y p, Nat.xor_comm p y, Nat.xor_assoc y p p, Nat.xor_self, Nat.xor_zero]
  by_cases ha : a % 2 = 1 <;> by_cases hb : b % 2 = 1
  · rw [if_neg (by rw [h]; simp [ha, hb]), if_pos ha, if_pos hb, hp, Nat.xor_zero]
  · rw [if_pos (by rw [h]; simp [ha, hb]), if_pos ha, if_neg hb, Nat.xor_zero, Nat.xor_assoc, Nat.xor_comm (b / 2), ← Nat.xor_assoc]
  · rw [if_pos (by rw [h]; simp [ha, hb]), if_neg ha, if_pos hb, Nat.xor_zero, Nat.xor_assoc]
  · rw [if_neg (by rw [h]; simp [ha, hb]), if_neg ha, if_neg hb]; simp
theorem cbits_xor (k a b : Nat) : cbits k (a ^^^ b) = cbits k a ^^^ cbits k b := by
  induction k generalizing a b with
  | zero => rfl
  | succ k ih => simp only [cbits, cbit_xor, ih]
theorem cbit_even (n : Nat) : cbit (2 * n) = n := by
  unfold cbit
  rw [if_neg (by omega)]
  simp
theorem cbits_high (n : Nat) : cbits 8 (256 * n) = n := by
  have e : ∀ m, cbit (2 * m) = m := cbit_even
  have h : 256 * n = 2 * (2 * (2 * (2 * (2 * (2 * (2 * (2 * n))))))) := by omega
  rw [h]
  simp only [cbits, e]
theorem split8 (n : Nat) : n = (256 * (n / 256)) ^^^ (n % 256) := by
  apply Nat.eq_of_testBit_eq
  intro i
  rw [Nat.testBit_xor, show (256 : Nat) = 2 ^ 8 from rfl, Nat.testBit_mod_two_pow, Nat.mul_comm, Nat.testBit_mul_two_pow, Nat.testBit_div_two_pow]
  by_cases hi : i < 8
  · simp [hi, show ¬ 8 ≤ i by omega]
  · simp [hi, show 8 ≤ i by omega, show i - 8 + 8 = i by omega]
/-- a byte's step: by a table, and bit by bit -/
theorem cstep (n c : Nat) : n / 256 ^^^ cbits 8 (n % 256 ^^^ c) = cbits 8 (n ^^^ c) := by
  conv => rhs; rw [split8 n, Nat.xor_assoc, cbits_xor, cbits_high]
theorem cbit_lt {n : Nat} (h : n < 4294967296) : cbit n < 4294967296 := by
  unfold cbit
  refine Nat.xor_lt_two_pow (n := 32) (by omega) (by split <;> omega)
theorem cbits_lt (k : Nat) {n : Nat} (h : n < 4294967296) : cbits k n < 4294967296 := by
  induction k generalizing n with
  | zero => exact h
  | succ k ih => exact ih (cbit_lt h)
theorem u32_wrap (n : Int) : IntKind.u32.wrap n = n % 4294967296 := by simp [IntKind.wrap, IntKind.bits, IntKind.signed]
theorem xor32 {a b : Nat} (ha : a < 4294967296) (hb : b < 4294967296) : bitsOp .xor .u32 (a : Int) (b : Int) = ((a ^^^ b : Nat) : Int) := by
  have h : a ^^^ b < 4294967296 := Nat.xor_lt_two_pow (n := 32) ha hb
  change IntKind.u32.wrap (((BitVec.ofInt 32 _ ^^^ BitVec.ofInt 32 _).toNat : Nat) : Int) = _
  rw [u32_wrap, BitVec.toNat_xor, BitVec.toNat_ofInt, BitVec.toNat_ofInt]
  have e1 : ((a : Int) % ((2 ^ 32 : Nat) : Int)).toNat = a := by omega
  have e2 : ((b : Int) % ((2 ^ 32 : Nat) : Int)).toNat = b := by omega
  rw [e1, e2]
  omega
theorem and1_32 {a : Nat} (ha : a < 4294967296) : bitsOp .and .u32 (a : Int) 1 = ((a % 2 : Nat) : Int) := by
  change IntKind.u32.wrap (((BitVec.ofInt 32 _ &&& BitVec.ofInt 32 _).toNat : Nat) : Int) = _
  rw [u32_wrap, BitVec.toNat_and, BitVec.toNat_ofInt, BitVec.toNat_ofInt]
  have e1 : ((a : Int) % ((2 ^ 32 : Nat) : Int)).toNat = a := by omega
  have e2 : ((1 : Int) % ((2 ^ 32 : Nat) : Int)).toNat = 1 := by decide
  rw [e1, e2, Nat.and_one_is_mod]
  omega
theorem xor8 {a b : Nat} (ha : a < 256) (hb : b < 256) : bitsOp .xor .u8 (a : Int) (b : Int) = ((a ^^^ b : Nat) : Int) := by
  have h : a ^^^ b < 256 := Nat.xor_lt_two_pow (n := 8) ha hb
  change IntKind.u8.wrap (((BitVec.ofInt 8 _ ^^^ BitVec.ofInt 8 _).toNat : Nat) : Int) = _
  rw [IntKind.wrap_u8, BitVec.toNat_xor, BitVec.toNat_ofInt, BitVec.toNat_ofInt]
  have e1 : ((a : Int) % ((2 ^ 8 : Nat) : Int)).toNat = a := by omega
  have e2 : ((b : Int) % ((2 ^ 8 : Nat) : Int)).toNat = b := by omega
  rw [e1, e2]
  omega
/-- all ones, less a number: its complement -/
theorem com32 {a : Nat} (ha : a < 4294967296) : bitsOp .xor .u32 4294967295 (a : Int) = ((4294967295 - a : Nat) : Int) := by
  rw [show (4294967295 : Int) = ((4294967295 : Nat) : Int) from rfl, xor32 (by omega) ha]
  congr 1
  have h := congrArg BitVec.toNat (BitVec.allOnes_xor (x := BitVec.ofNat 32 a))
  simp only [BitVec.toNat_xor, BitVec.toNat_allOnes, BitVec.toNat_not, BitVec.toNat_ofNat, Nat.mod_eq_of_lt ha] at h
  exact h
/-- the check, bit by bit: the register behind bytes -/
def creg (n : Nat) : List Int → Nat
  | [] => n
  | b :: r => creg (cbits 8 (n ^^^ b.toNat)) r
def cmore (n : Nat) (l : List Int) : Nat := 4294967295 - creg (4294967295 - n) l
theorem creg_append (n : Nat) (a b : List Int) : creg n (a ++ b) = creg (creg n a) b := by
  induction a generalizing n with
  | nil => rfl
  | cons x a ih => exact ih _

theorem cbits_rest {k m : Nat} (h : k < 8) : cbits (8 - k) m = cbits (8 - (k + 1)) (cbit m) := by
  obtain ⟨j, hj⟩ : ∃ j, 8 - k = j + 1 := ⟨7 - k, by omega⟩
  rw [hj, show 8 - (k + 1) = j from by omega]; rfl
theorem creg_drop (n : Nat) (l : List Int) (i : Nat) (h : i < l.length) : creg n (l.drop i) = creg (cbits 8 (n ^^^ l[i].toNat)) (l.drop (i + 1)) := by
  rw [List.drop_eq_getElem_cons h]; rfl
theorem creg_lt {n : Nat} (h : n < 4294967296) {l : List Int} (hl : ∀ x ∈ l, 0 ≤ x ∧ x ≤ 255) : creg n l < 4294967296 := by
  induction l generalizing n with
  | nil => exact h
  | cons x l ih =>
    have := hl x (by simp)
    exact ih (cbits_lt 8 (Nat.xor_lt_two_pow (n := 32) h (by omega))) (fun y hy => hl y (by simp [hy]))

theorem Yd_idxAL {P : Program} {S : World → Prop} {E : Env} {ty t e : TypeId} {x y : Operand} {sz n g o : Nat} {k : IntKind} {i : Int} (hT : P.underlying t = some (.array n e)) (hs : (P.info? e).map (·.size) = some sz) (hx : ev E x = some (.pointer (some ⟨g, o, none⟩))) (hy : ev E y = some (.int k i))
    (h0 : 0 ≤ i) (h1 : i < n) : Yd P S E (.indexAddr t x y) ty (.pointer (some ⟨g, o + i.toNat * sz, none⟩)) := by
  rw [← add_lit]; exact Yd_idxA hT hs hx hy h0 h1
def zeros : List Value := (List.range 256).map fun _ => .int .u32 0
theorem zeros_len : zeros.length = 256 := by rw [zeros, List.length_map, List.length_range]
def tbl (i : Nat) : List Value := (List.range 256).map fun j => .int .u32 ((if j < i then cbits 8 j else 0 : Nat) : Int)
@[simp] theorem tbl_len (i : Nat) : (tbl i).length = 256 := by simp [tbl]
theorem tbl_zero : tbl 0 = zeros := by
  unfold tbl zeros
  refine List.map_congr_left fun j _ => ?_
  rw [if_neg (by omega)]; rfl
theorem tbl_set (i o : Nat) (hi : i < 256) (ho : o = i) : (tbl i).take o ++ cellsL (.int .u32 ((cbits 8 i : Nat) : Int)) ++ (tbl i).drop (o + (cellsL (.int .u32 ((cbits 8 i : Nat) : Int))).length) = tbl (i + 1) := by
  subst ho
  have h2 : cellsL (.int .u32 ((cbits 8 o : Nat) : Int)) = [.int .u32 ((cbits 8 o : Nat) : Int)] := rfl
  rw [h2]
  have h3 : (tbl o).take o ++ [Value.int .u32 ((cbits 8 o : Nat) : Int)] ++ (tbl o).drop (o + [Value.int .u32 ((cbits 8 o : Nat) : Int)].length) = (tbl o).set o (.int .u32 ((cbits 8 o : Nat) : Int)) := by
    rw [List.set_eq_take_append_cons_drop, if_pos (by simpa using hi)]; simp
  rw [h3]
  apply List.ext_getElem (by simp)
  intro j h1 h2
  rw [List.getElem_set]
  by_cases h : o = j
  · subst h; simp [tbl]
  · rw [if_neg h]
    simp only [tbl, List.getElem_map, List.getElem_range]
    congr 2
    by_cases h4 : j < o
    · rw [if_pos h4, if_pos (by omega)]
    · rw [if_neg h4, if_neg (by omega)]
theorem tbl_one : ∀ u ∈ tbl 256, u.oneCell' = true := fun u hu => by
  simp only [tbl, List.mem_map] at hu
  obtain ⟨j, _, rfl⟩ := hu
  rfl
theorem shr1 (m : Nat) : (m : Int).fdiv (2 ^ (min (1 : Int).toNat IntKind.u32.bits)) = ((m / 2 : Nat) : Int) := by
  have : min (1 : Int).toNat IntKind.u32.bits = 1 := rfl
  rw [this, Int.fdiv_eq_ediv_of_nonneg _ (by decide)]; omega
theorem shr8 (m : Nat) : (m : Int).fdiv (2 ^ (min (8 : Int).toNat IntKind.u32.bits)) = ((m / 256 : Nat) : Int) := by
  have : min (8 : Int).toNat IntKind.u32.bits = 8 := rfl
  rw [this, Int.fdiv_eq_ediv_of_nonneg _ (by decide)]; omega
theorem mulp (m : Nat) : IntKind.u32.wrap (3988292384 * ((m % 2 : Nat) : Int)) = ((3988292384 * (m % 2) : Nat) : Int) := by rw [u32w (by omega) (by omega)]; omega
theorem xorp {m : Nat} (hm : m < 4294967296) : bitsOp .xor .u32 ((m / 2 : Nat) : Int) ((3988292384 * (m % 2) : Nat) : Int) = ((cbit m : Nat) : Int) := by
  rw [xor32 (by omega) (by omega)]
  congr 1
  unfold cbit
  congr 1
  split <;> omega
theorem table_c (w : World) :
    Calls Tryz.prog 221 #[] w fun e w' => e = .returned (.agg (tbl 256).toArray) ∧ Ext w w' := by
  have hE := Ext.refl w
  refine calls_of (l := []) (N := 25) Tryz.func221 rfl rfl rfl ?_
  refine C_seq (C_region (RL_l rfl (Ld_alloc (v := .agg zeros.toArray) (by kernel_rfl) ?_)))
  intro W1 he1 hz1 hB0
  replace hE := Ext.trans hE he1
  refine RL_nil (X_then (C_seq (C_region (RL_l rfl (Ld_alloc (v := .agg zeros.toArray) (by kernel_rfl) ?_)))))
  intro W2 he2 hz2 hB1
  replace hE := Ext.trans hE he2
  replace hB0 := hB0.ext he2
  refine RL_nil (X_then (C_seq (C_seq (C_region (RL_q rfl (Yd_move rfl) (RL_nil (X_then (C_block (?_)))))))))
  have hB1 : Blk W2 W1.heap.size 301 (tbl 0) := tbl_zero ▸ hB1
  refine C_loop (T := Nat) (fun i => [(0, .pointer (some ⟨w.heap.size, 0, none⟩)), (1, .pointer (some ⟨W1.heap.size, 0, none⟩)), (5, .int .i64 i)]) (fun i w1 => i ≤ 256 ∧ Blk w1 W1.heap.size 301 (tbl i) ∧ Blk w1 w.heap.size 301 zeros ∧ Ext w w1) (fun i => 256 - i) (0) ⟨rfl, rfl, rfl, trivial⟩ ?_ ?_
  · exact ⟨by omega, hB1, hB0, hE⟩
  · rintro i w1 ⟨hi, hB1, hB0, hE⟩
    refine C_seq (C_region (RL_q rfl (Yd_lss rfl rfl) (RL_nil (X_then (C_seq (?_))))))
    refine C_cond rfl (fun hb => ?_) (fun hb => ?_)
    · skip
      have hb : (i : Int) < 256 := of_decide_eq_true hb
      refine C_skip (X_then (C_seq (C_block (C_seq (C_region (RL_q rfl (Yd_move rfl) (RL_q rfl (Yd_assign rfl) (RL_nil (X_then (C_seq (C_region (RL_q rfl (Yd_move rfl) (RL_q rfl (Yd_conv ⟨_, Tryz.underlying3⟩ Tryz.underlying194 rfl (u32w (by omega) (by omega))) (RL_q rfl (Yd_assign rfl) (RL_nil (X_then (C_seq (C_seq (C_region (RL_q rfl (Yd_move rfl) (RL_nil (X_then (C_block (?_))))))))))))))))))))))))
      refine C_loop (T := Nat × Nat) (fun ⟨k, m⟩ => [(0, .pointer (some ⟨w.heap.size, 0, none⟩)), (1, .pointer (some ⟨W1.heap.size, 0, none⟩)), (2, .int .i64 i), (3, .int .u32 (m : Int)), (5, .int .i64 i), (10, .int .i64 k)]) (fun ⟨k, m⟩ w2 => k ≤ 8 ∧ m < 4294967296 ∧ cbits (8 - k) m = cbits 8 i ∧ w1 = w2) (fun ⟨k, m⟩ => 8 - k) (⟨0, i⟩) ⟨rfl, rfl, rfl, rfl, rfl, rfl, trivial⟩ ?_ ?_
      · exact ⟨by omega, by omega, rfl, rfl⟩
      · rintro ⟨k, m⟩ w2 ⟨hk, hm, hcb, rfl⟩
        refine C_seq (C_region (RL_q rfl (Yd_lss rfl rfl) (RL_nil (X_then (C_seq (?_))))))
        refine C_cond rfl (fun hb => ?_) (fun hb => ?_)
        · skip
          have hbk : (k : Int) < 8 := of_decide_eq_true hb
          have hcl := cbit_lt hm
          rw [cbits_rest (by omega)] at hcb
          refine C_skip (X_then (C_seq (C_block (C_seq (C_region (RL_q rfl (Yd_move rfl) (RL_q rfl (Yd_and rfl rfl (and1_32 hm)) (RL_q rfl (Yd_assign rfl) (RL_nil (X_then (C_region (RL_q rfl (Yd_move rfl) (RL_q rfl (Yd_shr rfl rfl (by omega) (shr1 m)) (RL_q rfl (Yd_move rfl) (RL_q rfl (Yd_mul rfl rfl (mulp m)) (RL_q rfl (Yd_xor rfl rfl (xorp hm)) (RL_q rfl (Yd_assign rfl) (RL_nil (X_block (X_then (C_region (RL_q rfl (Yd_add rfl rfl (i64w (by omega) (by omega))) (RL_q rfl (Yd_move rfl) (RL_nil (?_)))))))))))))))))))))))))
          refine X_again (⟨k + 1, cbit m⟩) ⟨rfl, rfl, rfl, rfl, rfl, rfl, trivial⟩ ?_ (by first | omega | (dsimp only; omega))
          exact ⟨by omega, hcl, hcb, rfl⟩
        · skip
          have hbk : ¬ (k : Int) < 8 := of_decide_eq_false hb
          obtain rfl : k = 8 := by omega
          obtain rfl : m = cbits 8 i := hcb
          refine C_exit (X_thenE (X_thenE (X_blockE (X_then (C_region (RL_q rfl (Yd_move rfl) (RL_q rfl (Yd_move rfl) (RL_q rfl (Yd_idxAL Tryz.underlying301 (sz := 1) (by kernel_rfl) rfl rfl (by omega) (by omega)) (RL_l0 (Ld_store (by kernel_rfl) rfl rfl hB1 (by simp [cellsL, Value.cells]; omega) (by simp [cellsL, Value.cells, Value.oneCell']) ?_))))))))))
          intro W3 hu3 hz3 hN
          replace hB0 := hB0.bt hu3 (by omega)
          replace hE := ext_but hE hu3 (by omega)
          rw [tbl_set i _ (by omega) (by omega)] at hN
          refine RL_nil (X_block (X_then (C_region (RL_q rfl (Yd_add rfl rfl (i64w (by omega) (by omega))) (RL_q rfl (Yd_move rfl) (RL_nil (?_)))))))
          refine X_again (i + 1) ⟨rfl, rfl, rfl, trivial⟩ ?_ (by first | omega | (dsimp only; omega))
          exact ⟨by omega, hN, hB0, hE⟩
    · skip
      have hb : ¬ (i : Int) < 256 := of_decide_eq_false hb
      obtain rfl : i = 256 := by omega
      refine C_exit (X_thenE (X_thenE (X_blockE (X_then (C_seq (C_region (RL_q rfl (Yd_loadA Tryz.underlying301 rfl (by kernel_rfl) rfl (ldBA hB1)) (RL_l0 (Ld_store (by kernel_rfl) rfl rfl hB0 (Nat.le_of_eq (by rw [Nat.zero_add, zeros_len]; exact tbl_len 256)) (fun u hu => tbl_one u (by simpa [cellsL, Value.cells] using hu)) ?_)))))))))
      intro W3 hu3 hz3 hN
      replace hE := ext_but hE hu3 (by omega)
      have hN2 : Blk W3 w.heap.size 301 (tbl 256) := by
        have e : zeros.take 0 ++ cellsL (.agg (tbl 256).toArray) ++ zeros.drop (0 + (cellsL (.agg (tbl 256).toArray)).length) = tbl 256 := by
          have e2 : cellsL (.agg (tbl 256).toArray) = tbl 256 := rfl
          rw [e2, List.take_zero, List.nil_append, List.drop_eq_nil_of_le (by rw [zeros_len, Nat.zero_add, tbl_len]; exact Nat.le_refl _), List.append_nil]
        rw [e] at hN
        exact hN
      refine RL_nil (X_then (C_ret (?_)))
      exact X_retC rfl rfl Tryz.underlying301 rfl (by kernel_rfl) hN2 ⟨rfl, hE⟩

attribute [irreducible] tbl zeros
theorem tbl_get {j o : Nat} (hj : j < 256) (ho : o = j) : (tbl 256)[o]? = some (.int .u32 ((cbits 8 j : Nat) : Int)) := by
  subst ho
  unfold tbl
  rw [List.getElem?_map, List.getElem?_range hj]
  simp only [Option.map_some, if_pos hj]
theorem cut8 (n : Nat) : IntKind.u8.wrap (n : Int) = ((n % 256 : Nat) : Int) := by rw [u8_wrap]; omega
theorem More_c {B : Nat} (A : Option Addr) (n c sum : Nat) (b : List Int) (w : World) (hr : Rd w B 1 A n (ints .u8 b)) (hn : b.length = n) (hn2 : n ≤ 9223372036854775807) (hy : Byt b) (hs : sum < 4294967296) :
    Calls Tryz.prog 166 #[.int .u32 (sum : Int), .slice A n c] w fun e w' => e = .returned (.int .u32 (cmore sum b : Int)) ∧ Ext w w' := by
  have hE := Ext.refl w
  refine calls_of (l := [.int .u32 (sum : Int), .slice A n c]) (N := 29) Tryz.func166 rfl rfl rfl ?_
  refine C_seq (C_region (RL_q rfl (Yd_assign rfl) (RL_nil (X_then (C_seq (C_region (RL_l rfl (Ld_call Tryz.func221 rfl (by kernel_rfl) rfl (table_c _) ?_))))))))
  rintro e W1 ⟨rfl, he1⟩
  refine ⟨_, rfl, ?_⟩
  replace hE := Ext.trans hE he1
  have hg5 := hE.size
  refine RL_l rfl (Ld_alloc (v := .agg zeros.toArray) (by kernel_rfl) ?_)
  intro W2 he2 hz2 hB5
  replace hE := Ext.trans hE he2
  have hB5 : Blk W2 W1.heap.size 301 zeros := hB5
  refine RL_l0 (Ld_store (by kernel_rfl) rfl rfl hB5 (Nat.le_of_eq (by rw [Nat.zero_add]; exact (tbl_len 256).trans zeros_len.symm)) (fun u hu => tbl_one u (by simpa [cellsL, Value.cells] using hu)) ?_)
  intro W3 hu3 hz3 hN
  replace hE := ext_but hE hu3 hg5
  have hB5 : Blk W3 W1.heap.size 301 (tbl 256) := by
    have e : zeros.take 0 ++ cellsL (.agg (tbl 256).toArray) ++ zeros.drop (0 + (cellsL (.agg (tbl 256).toArray)).length) = tbl 256 := by
      have e2 : cellsL (.agg (tbl 256).toArray) = tbl 256 := rfl
      rw [e2, List.take_zero, List.nil_append, List.drop_eq_nil_of_le (by rw [zeros_len, Nat.zero_add, tbl_len]; exact Nat.le_refl _), List.append_nil]
    rw [e] at hN
    exact hN
  refine RL_nil (X_then (C_seq (C_region (RL_q rfl (Yd_move rfl) (RL_q rfl (Yd_com rfl (com32 hs)) (RL_q rfl (Yd_assign rfl) (RL_nil (X_then (C_seq (C_seq (C_region (RL_q rfl (Yd_move rfl) (RL_q rfl (Yd_len Tryz.underlying22 rfl) (RL_q rfl (Yd_move rfl) (RL_nil (X_then (C_block (?_))))))))))))))))))
  refine C_loop (T := Nat × Nat) (fun ⟨i, reg⟩ => [(0, .int .u32 (reg : Int)), (5, .pointer (some ⟨W1.heap.size, 0, none⟩)), (11, .slice A n c), (12, .int .i64 n), (13, .int .i64 i)]) (fun ⟨i, reg⟩ w1 => i ≤ n ∧ reg < 4294967296 ∧ creg reg (b.drop i) = creg (4294967295 - sum) b ∧ Blk w1 W1.heap.size 301 (tbl 256) ∧ Ext w w1) (fun ⟨i, reg⟩ => n - i) (⟨0, 4294967295 - sum⟩) ⟨rfl, rfl, rfl, rfl, rfl, trivial⟩ ?_ ?_
  · exact ⟨by omega, by omega, rfl, hB5, hE⟩
  · rintro ⟨i, reg⟩ w1 ⟨hi, hrl, hreg, hB5, hE⟩
    refine C_seq (C_region (RL_q rfl (Yd_lss rfl rfl) (RL_nil (X_then (C_seq (?_))))))
    refine C_cond rfl (fun hb => ?_) (fun hb => ?_)
    · skip
      have hb : (i : Int) < n := of_decide_eq_true hb
      obtain ⟨ad, rfl, _, _⟩ := hr.cells (by omega)
      have hget := ints_get .u8 b i (by omega)
      have hbi := hy.get i (by omega)
      obtain ⟨x, hbx⟩ := Int.eq_ofNat_of_zero_le hbi.1
      have hx8 : x < 256 := by omega
      have hrx : reg ^^^ x < 4294967296 := Nat.xor_lt_two_pow (n := 32) hrl (by omega)
      have hxl : reg % 256 ^^^ x < 256 := Nat.xor_lt_two_pow (n := 8) (by omega) hx8
      have hx22 : bitsOp .xor .u8 ((reg % 256 : Nat) : Int) (b[i]'(by omega)) = ((reg % 256 ^^^ x : Nat) : Int) := by rw [hbx]; exact xor8 (by omega) hx8
      have hx25 : bitsOp .xor .u32 ((reg / 256 : Nat) : Int) ((cbits 8 (reg % 256 ^^^ x) : Nat) : Int) = ((cbits 8 (reg ^^^ x) : Nat) : Int) := by rw [← cstep reg x]; exact xor32 (by omega) (cbits_lt 8 (by omega))
      refine C_skip (X_then (C_seq (C_block (C_seq (C_region (RL_q rfl (Yd_idx Tryz.underlying22 (sz := 1) (by kernel_rfl) rfl rfl (by omega) (by omega)) (RL_q rfl (Yd_load Tryz.underlying5 rfl rfl (ldK (hr.ext hE) (by omega) hget (by omega))) (RL_q rfl (Yd_assign rfl) (RL_nil (X_then (C_region (RL_q rfl (Yd_move rfl) (RL_q rfl (Yd_shr rfl rfl (by omega) (shr8 reg)) (RL_q rfl (Yd_move rfl) (RL_q rfl (Yd_conv ⟨_, Tryz.underlying194⟩ Tryz.underlying5 rfl (cut8 reg)) (RL_q rfl (Yd_move rfl) (RL_q rfl (Yd_xor rfl rfl hx22) (RL_q rfl (Yd_idxAL Tryz.underlying301 (sz := 1) (by kernel_rfl) rfl rfl (by omega) (by omega)) (RL_q rfl (Yd_load Tryz.underlying194 rfl rfl (ldB hB5 (tbl_get (o := 0 + ((reg % 256 ^^^ x : Nat) : Int).toNat * 1) hxl (by omega)))) (RL_q rfl (Yd_xor rfl rfl hx25) (RL_q rfl (Yd_assign rfl) (RL_nil (X_block (X_then (C_region (RL_q rfl (Yd_add rfl rfl (i64w (by omega) (by omega))) (RL_q rfl (Yd_move rfl) (RL_nil (?_)))))))))))))))))))))))))))))
      refine X_again (⟨i + 1, cbits 8 (reg ^^^ x)⟩) ⟨rfl, rfl, rfl, rfl, rfl, trivial⟩ ?_ (by first | omega | (dsimp only; omega))
      refine ⟨by omega, cbits_lt 8 hrx, ?_, hB5, hE⟩
      rw [← hreg, creg_drop _ _ i (by omega), hbx]; rfl
    · skip
      have hb : ¬ (i : Int) < n := of_decide_eq_false hb
      obtain rfl : i = n := by omega
      rw [List.drop_eq_nil_of_le (by omega)] at hreg
      have hreg : reg = creg (4294967295 - sum) b := hreg
      refine C_exit (X_thenE (X_thenE (X_blockE (X_then (C_seq (C_region (RL_q rfl (Yd_move rfl) (RL_q rfl (Yd_com rfl (com32 hrl)) (RL_q rfl (Yd_assign rfl) (RL_nil (X_then (C_ret (X_ret1 rfl rfl ?_)))))))))))))
      refine ⟨congrArg (fun n => Ending.returned (.int .u32 n)) ?_, hE⟩
      rw [cmore, ← hreg]
theorem Sum_c {B : Nat} (A : Option Addr) (n c : Nat) (b : List Int) (w : World) (hr : Rd w B 1 A n (ints .u8 b)) (hn : b.length = n) (hn2 : n ≤ 9223372036854775807) (hy : Byt b) :
    Calls Tryz.prog 96 #[.slice A n c] w fun e w' => e = .returned (.int .u32 (cmore 0 b : Int)) ∧ Ext w w' := by
  refine calls_of (l := [.slice A n c]) (N := 5) Tryz.func96 rfl rfl rfl ?_
  refine C_seq (C_region (RL_q rfl (Yd_assign rfl) (RL_nil (X_then (C_seq (C_region (RL_q rfl (Yd_move rfl) (RL_l rfl (Ld_call Tryz.func166 rfl (by kernel_rfl) rfl (More_c A n c 0 b _ hr hn hn2 hy (by omega)) ?_)))))))))
  rintro e W1 ⟨rfl, he1⟩
  refine ⟨_, rfl, ?_⟩
  refine RL_q rfl (Yd_assign rfl) (RL_nil (X_then (C_ret (X_ret1 rfl rfl ?_))))
  exact ⟨rfl, he1⟩

end Go.Proofs.AL
set_option linter.unusedVariables false
set_option linter.unusedSimpArgs false
set_option maxRecDepth 20000
namespace Go.Proofs.AL
open Go.RowKit

theorem shr8i (n : Int) : n.fdiv (2 ^ (min (8 : Int).toNat IntKind.u32.bits)) = n / 256 := by
  have : min (8 : Int).toNat IntKind.u32.bits = 8 := rfl
  rw [this, Int.fdiv_eq_ediv_of_nonneg _ (by decide)]; rfl
theorem cmore_lt' (n : Nat) (l : List Int) : (cmore n l : Int) < 4294967296 := by unfold cmore; omega
theorem le_next (l : List Int) (k : Nat) (n : Int) : l ++ le k n ++ [n / 256 ^ k % 256] = l ++ le (k + 1) n := by rw [le_succ, List.append_assoc]
theorem le_zero (n : Int) : le 0 n = [] := rfl
theorem app_le0 (l : List Int) (n : Int) : l = l ++ le 0 n := by rw [le_zero, List.append_nil]
theorem SumV {lo_b B_b : Nat} {A_b : Option Addr} {n_b c_b : Nat} {b : List Int} {w : World}  (h_b : Vw tU8 w lo_b B_b A_b n_b c_b b) :
    Calls Tryz.prog 96 #[.slice A_b n_b c_b] w fun e w' => ∃ (x0 : Int), e = .returned (.int .u32 x0) ∧ x0 = ((cmore 0 b : Int)) ∧ Ext w w' :=
  Calls.mono (Sum_c A_b n_b c_b b w h_b.u8 h_b.ln (by have := h_b.max; have := h_b.cap; simp only [maxLen] at *; omega) h_b.byt) fun e w' ⟨h1, h2⟩ => ⟨_, h1, rfl, h2⟩
theorem bClone_c {B : Nat} (A : Option Addr) (n c : Nat) (b : List Int) (w : World) (hr : Rd w B 1 A n (ints .u8 b)) (hn : b.length = n) (hnc : n ≤ c) (hm : n ≤ 65536) (hnil : A = none → c = 0) :
    Calls Tryz.prog 53 #[.slice A n c] w fun e w' => ∃ A' c', e = .returned (.slice A' n c') ∧ Own w' w.heap.size 5 1 A' n c' (ints .u8 b) ∧ Ext w w' := by
  have hE := Ext.refl w
  refine calls_of (l := [.slice A n c]) (N := 8) Tryz.func53 rfl rfl rfl ?_
  refine C_seq (C_region (RL_q rfl (Yd_assign rfl) (RL_nil (X_then (C_seq (C_seq (C_region (RL_q rfl (Yd_move rfl) (RL_q rfl (Yd_eqlSN Tryz.underlying22 rfl rfl) (RL_nil (X_then (?_))))))))))))
  refine C_cond rfl (fun hb4 => ?_) (fun hb4 => ?_)
  · skip
    try simp only [decide_eq_true_eq, decide_eq_false_iff_not, Bool.not_eq_true', Bool.not_eq_false', Decidable.not_not, Int.not_lt, Int.not_le, Bool.or_eq_true, Bool.and_eq_true, Bool.or_eq_false_iff, Bool.and_eq_false_iff] at hb4
    refine C_seq (C_region (RL_q rfl (Yd_assign rfl) (RL_nil (X_then (C_ret (X_thenR (X_ret1 rfl rfl ?_)))))))
    have hA : A = none := by cases A <;> simp_all
    obtain rfl : n = 0 := by have := hnil hA; omega
    obtain rfl : b = [] := List.eq_nil_of_length_eq_zero hn
    exact ⟨none, 0, rfl, Own.nil _ _ _ _, hE⟩
  · skip
    try simp only [decide_eq_true_eq, decide_eq_false_iff_not, Bool.not_eq_true', Bool.not_eq_false', Decidable.not_not, Int.not_lt, Int.not_le, Bool.or_eq_true, Bool.and_eq_true, Bool.or_eq_false_iff, Bool.and_eq_false_iff] at hb4
    refine C_skip (X_then (C_seq (C_region (RL_l rfl (Ld_lit Tryz.underlying22 rfl (lit_flat Tryz.underlying22 Tryz.elt5 rfl rfl ⟨rfl, by decide⟩) ?_)))))
    intro W1 he1 hz1 hL5
    replace hE := Ext.trans hE he1
    refine RL_q rfl (Yd_move rfl) (RL_l rfl (Ld_app Tryz.underlying22 Tryz.elt5 rfl (by decide) rfl rfl (own_of_blk (base := w.heap.size) (sz := 1) (n := 0) (c := 0) (xs := []) hL5 (Nat.le_refl _) rfl (Nat.le_refl _) (Nat.zero_le _) rfl) (hr.ext hE) (ints_one _ _) (by simp only [maxLen]; omega) (by omega) hE.size hnil (Nat.zero_add _) ?_))
    intro A7 c7 W2 hO hg2 hat2
    replace hE := ext_app (own_of_blk (base := w.heap.size) (sz := 1) (n := 0) (c := 0) (xs := []) hL5 (Nat.le_refl _) rfl (Nat.le_refl _) (Nat.zero_le _) rfl) hE hE.size hg2
    refine RL_q rfl (Yd_assign rfl) (RL_nil (X_then (C_ret (X_ret1 rfl rfl ?_))))
    exact ⟨A7, c7, rfl, hO, hE⟩
theorem Equal_c (A A2 : Option Addr) (n c n2 c2 : Nat) {B B2 : Nat} (a b : List Int) (w : World) (ha : Rd w B 1 A n (ints .u8 a)) (hb : Rd w B2 1 A2 n2 (ints .u8 b)) (hya : Byt a) (hyb : Byt b) :
    Calls Tryz.prog 189 #[.slice A n c, .slice A2 n2 c2] w fun e w' => e = .returned (.bool (decide (a = b))) ∧ Ext w w' := by
  have hE := Ext.refl w
  refine calls_of (l := [.slice A n c, .slice A2 n2 c2]) (N := 10) Tryz.func189 rfl rfl rfl ?_
  refine C_seq (C_region (RL_q rfl (Yd_assign rfl) (RL_nil (X_then (C_seq (C_region (RL_q rfl (Yd_move rfl) (RL_q rfl (Yd_str Tryz.underlying22 Tryz.underlying5 Tryz.underlying9 rfl (fun W hW => Rd.ext ha hW)) (RL_q rfl (Yd_move rfl) (RL_q rfl (Yd_str Tryz.underlying22 Tryz.underlying5 Tryz.underlying9 rfl (fun W hW => Rd.ext hb hW)) (RL_q rfl (Yd_eqlS rfl rfl) (RL_q rfl (Yd_assign rfl) (RL_nil (X_then (C_ret (X_ret1 rfl rfl ?_))))))))))))))))
  exact ⟨by rw [str_dec hya hyb], hE⟩
theorem bCloneV {lo_b B_b : Nat} {A_b : Option Addr} {n_b c_b : Nat} {b : List Int} {w : World}  (h_b : Vw tU8 w lo_b B_b A_b n_b c_b b) (h6 : n_b ≤ 65536) :
    Calls Tryz.prog 53 #[.slice A_b n_b c_b] w fun e w' => ∃ (A0 : Option Addr) (n0 c0 : Nat), e = .returned (.slice A0 n0 c0) ∧ Ow tU8 5 w' w.heap.size w'.heap.size A0 n0 c0 b ∧ Ext w w' :=
  Calls.mono (bClone_c A_b n_b c_b b w h_b.u8 h_b.ln h_b.cap h6 h_b.nil) fun e w' ⟨A, c, h1, h2, h3⟩ => ⟨A, _, c, h1, ow_u8 h2 h_b.byt, h3⟩
theorem EqualV {lo_a B_a : Nat} {A_a : Option Addr} {n_a c_a : Nat} {a : List Int} {lo_b B_b : Nat} {A_b : Option Addr} {n_b c_b : Nat} {b : List Int} {w : World}  (h_a : Vw tU8 w lo_a B_a A_a n_a c_a a) (h_b : Vw tU8 w lo_b B_b A_b n_b c_b b) :
    Calls Tryz.prog 189 #[.slice A_a n_a c_a, .slice A_b n_b c_b] w fun e w' => ∃ (x0 : Bool), e = .returned (.bool x0) ∧ x0 = (decide (a = b)) ∧ Ext w w' :=
  Calls.mono (Equal_c A_a A_b n_a c_a n_b c_b a b w h_a.u8 h_b.u8 h_a.byt h_b.byt) fun e w' ⟨h1, h2⟩ => ⟨_, h1, rfl, h2⟩
theorem PutV {lo_b B_b : Nat} {A_b : Option Addr} {n_b c_b : Nat} {b : List Int} {w : World}  (h_b : Vw tU8 w lo_b B_b A_b n_b c_b b) (h6 : n_b ≤ 65000) :
    Calls Tryz.prog 51 #[.slice A_b n_b c_b] w fun e w' => ∃ (A0 : Option Addr) (n0 c0 : Nat), e = .returned (.slice A0 n0 c0) ∧ Ow tU8 5 w' w.heap.size w'.heap.size A0 n0 c0 (b ++ le 4 (cmore 0 b)) ∧ Ext w w' := by
  have hE := Ext.refl w
  replace h_b := h_b.fit
  have hn_b := h_b.ln
  have hc_b := h_b.cap
  have hm_b := h_b.max
  simp only [maxLen] at hm_b
  refine calls_of (l := [.slice A_b n_b c_b]) (N := 20) Tryz.func51 rfl rfl rfl ?_
  refine C_seq (C_region (RL_q rfl (Yd_assign rfl) (RL_nil (X_then (C_seq (C_region (RL_q rfl (Yd_move rfl) (RL_l rfl (Ld_call Tryz.func96 rfl (by kernel_rfl) rfl (SumV h_b) ?_)))))))))
  rintro e W1 ⟨y6, rfl, hy6, he1⟩
  refine ⟨_, rfl, ?_⟩
  replace hE := Ext.trans hE he1
  replace h_b := h_b.ext he1
  have hs1 := he1.size
  refine RL_q rfl (Yd_assign rfl) (RL_nil (X_then (C_seq (C_region (RL_q rfl (Yd_move rfl) (RL_l rfl (Ld_call Tryz.func53 rfl (by kernel_rfl) rfl (bCloneV h_b (by omega)) ?_)))))))
  rintro e W2 ⟨A8, n8, c8, rfl, hF8, he2⟩
  refine ⟨_, rfl, ?_⟩
  replace hE := Ext.trans hE he2
  replace h_b := h_b.ext he2
  have hs2 := he2.size
  have hn8 := hF8.ln
  try simp only [List.length_append, List.length_cons, List.length_nil, List.length_set, List.length_take, List.length_drop, List.length_replicate, List.length_map, Nat.zero_add, Nat.add_zero, le_len, le8s_len, le8_len] at hn8
  have hc8 := hF8.cap
  refine RL_q rfl (Yd_assign rfl) (RL_nil (X_then (C_seq (C_seq (C_region (RL_q rfl (Yd_move rfl) (RL_nil (X_then (C_block (?_))))))))))
  refine C_loop (T := Nat × Option Addr × Nat × Nat) (fun ⟨k, lA4, ln4, lc4⟩ => [(2, .slice none 0 0), (3, .int .u32 ((cmore 0 b : Int) / 256 ^ k)), (4, .slice lA4 ln4 lc4), (9, .int .i64 (k : Int))]) (fun ⟨k, lA4, ln4, lc4⟩ lw2 => Ow tU8 5 lw2 W1.heap.size lw2.heap.size lA4 ln4 lc4 (b ++ le k (cmore 0 b)) ∧ (k ≤ 4) ∧ Kp (fun k => W1.heap.size ≤ k) W2 lw2) (fun ⟨k, lA4, ln4, lc4⟩ => 4 - k) (⟨0, A8, n8, c8⟩) ⟨rfl, (lk_int rfl (by simp; try assumption)), rfl, rfl, trivial⟩ ?_ ?_
  · refine ⟨(hF8.fit).cast ?_, ?_, Kp.refl _ _⟩
    all_goals (try dsimp only)
    all_goals (first | omega | exact app_le0 _ _ | exact le_next _ _ _)
  · rintro ⟨k, lA4, ln4, lc4⟩ lw2 ⟨hR4, hi2_0, hL2⟩
    replace hE := Ext.kp hE hL2 (fun k hk => by first | omega | (have hk := hk; dsimp only at hk; omega))
    replace h_b := h_b.kp hL2 (fun k hk => by first | omega | (have hk := hk; dsimp only at hk; omega))
    have hsL2 := hL2.size
    have hnhR4 := hR4.ln
    try simp only [List.length_append, List.length_cons, List.length_nil, List.length_set, List.length_take, List.length_drop, List.length_replicate, List.length_map, Nat.zero_add, Nat.add_zero, le_len, le8s_len, le8_len] at hnhR4
    have hchR4 := hR4.cap
    have hq0 := cmore_lt' 0 b
    have hq1 : 0 ≤ (cmore 0 b : Int) / 256 ^ k := Int.ediv_nonneg (by omega) (Int.pow_nonneg (by decide))
    have hq2 : (cmore 0 b : Int) / 256 ^ k ≤ cmore 0 b := Int.ediv_le_self _ (by omega)
    refine C_seq (C_region (RL_q rfl (Yd_lss rfl rfl) (RL_nil (X_then (C_seq (?_))))))
    refine C_cond rfl (fun hb10 => ?_) (fun hb10 => ?_)
    · skip
      try simp only [decide_eq_true_eq, decide_eq_false_iff_not, Bool.not_eq_true', Bool.not_eq_false', Decidable.not_not, Int.not_lt, Int.not_le, Bool.or_eq_true, Bool.and_eq_true, Bool.or_eq_false_iff, Bool.and_eq_false_iff] at hb10
      refine C_skip (X_then (C_seq (C_block (C_seq (C_region (RL_q rfl (Yd_move rfl) (RL_q rfl (Yd_move rfl) (RL_q rfl (Yd_conv ⟨_, Tryz.underlying194⟩ Tryz.underlying5 rfl (u8_wrap _)) (RL_l rfl (Ld_lit Tryz.underlying22 rfl (lit_flat Tryz.underlying22 Tryz.elt5 rfl rfl ⟨rfl, by decide⟩) ?_))))))))))
      intro W3 he3 hz3 hL14
      replace hE := Ext.trans hE he3
      replace h_b := h_b.ext he3
      replace hR4 := hR4.ext he3
      replace hL2 := Kp.go hL2 (Kp.of_ext (G := NoB) he3) (fun _ h => h.elim)
      have hO14 := Ow.of_blk (T := tU8) (l := [((cmore 0 b : Int) / 256 ^ k % 256)]) hL14 rfl (n := 1) rfl (by simp [maxLen]) (okc ⟨by omega, by omega⟩ okn)
      clear hL14
      refine RL_l rfl (Ld_apO (T := tU8) Tryz.underlying22 Tryz.elt5 rfl rfl rfl hR4 hO14.vw (by simp only [maxLen]; omega) (by omega) (by omega) ?_)
      intro A15 c15 W4 hO15 hk4
      have hs4 := hk4.size
      replace hE := Ext.kp hE hk4 (fun k hk => by first | omega | (have hk := hk; dsimp only at hk; omega))
      replace h_b := h_b.kp hk4 (fun k hk => by first | omega | (have hk := hk; dsimp only at hk; omega))
      try replace hL2 := hL2.go hk4 (fun k hk => by first | omega | (have hk := hk; (try dsimp only at hk); (try dsimp only); omega))
      replace hO14 := hO14.kp hk4 (fun k hk => by first | omega | (have hk := hk; dsimp only at hk; omega))
      have hn15 := hO15.ln
      try simp only [List.length_append, List.length_cons, List.length_nil, List.length_set, List.length_take, List.length_drop, List.length_replicate, List.length_map, Nat.zero_add, Nat.add_zero, le_len, le8s_len, le8_len] at hn15
      have hc15 := hO15.cap
      refine RL_q rfl (Yd_assign rfl) (RL_nil (X_then (C_region (RL_q rfl (Yd_move rfl) (RL_q rfl (Yd_shr rfl rfl (by omega) (shr8i _)) (RL_q rfl (Yd_assign rfl) (RL_nil (X_block (X_then (C_region (RL_q rfl (Yd_add rfl rfl (i64w (by omega) (by omega))) (RL_q rfl (Yd_move rfl) (RL_nil (?_))))))))))))))
      refine X_again (⟨k + 1, A15, (ln4 + 1), c15⟩) ⟨rfl, (lk_int rfl (le_div _ _)), rfl, rfl, trivial⟩ ?_ (by show 4 - (k + 1) < 4 - k; omega)
      refine ⟨hO15.fit.cast ?_, ?_, hL2⟩
      all_goals (try dsimp only)
      all_goals (first | omega | exact app_le0 _ _ | exact le_next _ _ _)
    · skip
      try simp only [decide_eq_true_eq, decide_eq_false_iff_not, Bool.not_eq_true', Bool.not_eq_false', Decidable.not_not, Int.not_lt, Int.not_le, Bool.or_eq_true, Bool.and_eq_true, Bool.or_eq_false_iff, Bool.and_eq_false_iff] at hb10
      refine C_exit (X_thenE (X_thenE (X_blockE (X_then (C_seq (C_region (RL_q rfl (Yd_move rfl) (RL_q rfl (Yd_assign rfl) (RL_nil (X_then (C_ret (X_ret1 rfl rfl ?_))))))))))))
      refine ⟨_, _, _, rfl, (hR4.fit.more (by omega) (Nat.le_refl _)).cast ?_, hE⟩
      all_goals ((obtain rfl : k = 4 := by omega); rfl)

def takeE (b : List Int) : Int := if b.length < 4 then 2 else if b.take (b.length - 4) ++ le 4 (cmore 0 (b.take (b.length - 4))) = b then 0 else 9
def takeL (b : List Int) : List Int := if b.length < 4 then [] else if b.take (b.length - 4) ++ le 4 (cmore 0 (b.take (b.length - 4))) = b then b.take (b.length - 4) else []
theorem take_short {b : List Int} (h : b.length < 4) : takeE b = 2 ∧ takeL b = [] := by unfold takeE takeL; rw [if_pos h, if_pos h]; exact ⟨rfl, rfl⟩
theorem take_ok {b : List Int} {k : Nat} (hk : k + 4 = b.length) (h : b.take k ++ le 4 (cmore 0 (b.take k)) = b) : takeE b = 0 ∧ takeL b = b.take k := by
  obtain rfl : k = b.length - 4 := by omega
  have h4 : ¬ b.length < 4 := by omega
  exact ⟨by unfold takeE; rw [if_neg h4, if_pos h], by unfold takeL; rw [if_neg h4, if_pos h]⟩
theorem take_bad {b : List Int} {k : Nat} (hk : k + 4 = b.length) (h : ¬ b.take k ++ le 4 (cmore 0 (b.take k)) = b) : takeE b = 9 ∧ takeL b = [] := by
  obtain rfl : k = b.length - 4 := by omega
  have h4 : ¬ b.length < 4 := by omega
  exact ⟨by unfold takeE; rw [if_neg h4, if_neg h], by unfold takeL; rw [if_neg h4, if_neg h]⟩
theorem takeE_put (b : List Int) : takeE (b ++ le 4 (cmore 0 b)) = 0 ∧ takeL (b ++ le 4 (cmore 0 b)) = b := by
  have h1 : (b ++ le 4 (cmore 0 b)).take b.length = b := by simp
  have h := take_ok (b := b ++ le 4 (cmore 0 b)) (k := b.length) (by simp) (by rw [h1])
  rw [h1] at h; exact h
def good (b : List Int) : Bool := decide (4 ≤ b.length) && decide (b.take (b.length - 4) ++ le 4 (cmore 0 (b.take (b.length - 4))) = b)
theorem good_short {b : List Int} (h : b.length < 4) : good b = false := by unfold good; rw [decide_eq_false (by omega)]; rfl
theorem good_long {b : List Int} {k : Nat} (hk : k + 4 = b.length) : good b = decide (b.take k ++ le 4 (cmore 0 (b.take k)) = b) := by
  obtain rfl : k = b.length - 4 := by omega
  unfold good; rw [decide_eq_true (by omega : 4 ≤ b.length)]; rfl
theorem good_takeE {b : List Int} (h : 4 ≤ b.length) : takeE b = if good b then 0 else 9 := by
  by_cases hg : b.take (b.length - 4) ++ le 4 (cmore 0 (b.take (b.length - 4))) = b
  · rw [(take_ok (by omega) hg).1, good_long (k := b.length - 4) (by omega), decide_eq_true hg]; rfl
  · rw [(take_bad (by omega) hg).1, good_long (k := b.length - 4) (by omega), decide_eq_false hg]; rfl
theorem take_cases (l : List Int) : (l.length < 4 ∧ good l = false ∧ takeE l = 2 ∧ takeL l = [] ∧ (takeL l).length = 0) ∨ (4 ≤ l.length ∧ good l = true ∧ takeE l = 0 ∧ takeL l = l.take (l.length - 4) ∧ (takeL l).length = l.length - 4) ∨ (4 ≤ l.length ∧ good l = false ∧ takeE l = 9 ∧ takeL l = [] ∧ (takeL l).length = 0) := by
  by_cases h4 : l.length < 4
  · exact .inl ⟨h4, good_short h4, (take_short h4).1, (take_short h4).2, by rw [(take_short h4).2]; rfl⟩
  · have hl := good_long (b := l) (k := l.length - 4) (by omega)
    by_cases hg : l.take (l.length - 4) ++ le 4 (cmore 0 (l.take (l.length - 4))) = l
    · exact .inr (.inl ⟨by omega, by rw [hl, decide_eq_true hg], (take_ok (by omega) hg).1, (take_ok (by omega) hg).2, by rw [(take_ok (k := l.length - 4) (by omega) hg).2, List.length_take]; omega⟩)
    · exact .inr (.inr ⟨by omega, by rw [hl, decide_eq_false hg], (take_bad (by omega) hg).1, (take_bad (by omega) hg).2, by rw [(take_bad (k := l.length - 4) (by omega) hg).2]; rfl⟩)
theorem TakeV {lo_b B_b : Nat} {A_b : Option Addr} {n_b c_b : Nat} {b : List Int} {w : World}  (h_b : Vw tU8 w lo_b B_b A_b n_b c_b b) (h6 : n_b ≤ 65000) :
    Calls Tryz.prog 124 #[.slice A_b n_b c_b] w fun e w' => ∃ (A0 : Option Addr) (n0 c0 : Nat) (x1 : Int), e = .returned (.tuple #[.slice A0 n0 c0, .int .i64 x1]) ∧ Ow tU8 5 w' w.heap.size w'.heap.size A0 n0 c0 (takeL b) ∧ x1 = (takeE b) ∧ Ext w w' := by
  have hE := Ext.refl w
  replace h_b := h_b.fit
  have hn_b := h_b.ln
  have hc_b := h_b.cap
  have hm_b := h_b.max
  simp only [maxLen] at hm_b
  refine calls_of (l := [.slice A_b n_b c_b]) (N := 21) Tryz.func124 rfl rfl rfl ?_
  refine C_seq (C_region (RL_q rfl (Yd_assign rfl) (RL_q rfl (Yd_assign rfl) (RL_nil (X_then (C_seq (C_region (RL_q rfl (Yd_move rfl) (RL_q rfl (Yd_len Tryz.underlying22 rfl) (RL_q rfl (Yd_sub rfl rfl (i64w (by omega) (by omega))) (RL_q rfl (Yd_assign rfl) (RL_nil (X_then (C_seq (C_seq (C_region (RL_q rfl (Yd_move rfl) (RL_q rfl (Yd_lss rfl rfl) (RL_nil (X_then (?_)))))))))))))))))))))
  refine C_cond rfl (fun hb9 => ?_) (fun hb9 => ?_)
  · skip
    try simp only [decide_eq_true_eq, decide_eq_false_iff_not, Bool.not_eq_true', Bool.not_eq_false', Decidable.not_not, Int.not_lt, Int.not_le, Bool.or_eq_true, Bool.and_eq_true, Bool.or_eq_false_iff, Bool.and_eq_false_iff] at hb9
    refine C_seq (C_region (RL_q rfl (Yd_assign rfl) (RL_q rfl (Yd_assign rfl) (RL_nil (X_then (C_ret (X_thenR (X_ret2 rfl rfl rfl ?_))))))))
    refine ⟨_, _, _, _, rfl, Ow.nil.cast ?_, ?_, hE⟩
    all_goals (first | rfl | exact (take_short (by omega)).1.symm | exact (take_short (by omega)).2.symm | exact (take_ok (k := ((n_b : Int) - 4).toNat) (by omega) (by assumption)).1.symm | exact (take_ok (k := ((n_b : Int) - 4).toNat) (by omega) (by assumption)).2.symm | exact (take_bad (k := ((n_b : Int) - 4).toNat) (by omega) (by assumption)).1.symm | exact (take_bad (k := ((n_b : Int) - 4).toNat) (by omega) (by assumption)).2.symm)
  · skip
    try simp only [decide_eq_true_eq, decide_eq_false_iff_not, Bool.not_eq_true', Bool.not_eq_false', Decidable.not_not, Int.not_lt, Int.not_le, Bool.or_eq_true, Bool.and_eq_true, Bool.or_eq_false_iff, Bool.and_eq_false_iff] at hb9
    refine C_skip (X_then (C_seq (C_seq (C_region (RL_q rfl (Yd_move rfl) (RL_q rfl (Yd_move rfl) (RL_q rfl (Yd_sliceH Tryz.underlying22 (sz := 1) (by kernel_rfl) rfl rfl (by omega) (by omega)) (RL_l rfl (Ld_call Tryz.func51 rfl (by kernel_rfl) rfl (PutV (Vw.take (k := ((n_b : Int) - 4).toNat) h_b (by omega)) (by omega)) ?_)))))))))
    rintro e W1 ⟨A13, n13, c13, rfl, hF13, he1⟩
    refine ⟨_, rfl, ?_⟩
    replace hE := Ext.trans hE he1
    replace h_b := h_b.ext he1
    have hs1 := he1.size
    have hn13 := hF13.ln
    try simp only [List.length_append, List.length_cons, List.length_nil, List.length_set, List.length_take, List.length_drop, List.length_replicate, List.length_map, Nat.zero_add, Nat.add_zero, le_len, le8s_len, le8_len] at hn13
    have hc13 := hF13.cap
    refine RL_q rfl (Yd_move rfl) (RL_l rfl (Ld_call Tryz.func189 rfl (by kernel_rfl) rfl (EqualV hF13.vw h_b) ?_))
    rintro e W2 ⟨_, rfl, rfl, he2⟩
    refine ⟨_, rfl, ?_⟩
    replace hE := Ext.trans hE he2
    replace h_b := h_b.ext he2
    replace hF13 := hF13.ext he2
    have hs2 := he2.size
    refine RL_q rfl (Yd_not rfl) (RL_nil (X_then (?_)))
    refine C_cond rfl (fun hb16 => ?_) (fun hb16 => ?_)
    · skip
      try simp only [decide_eq_true_eq, decide_eq_false_iff_not, Bool.not_eq_true', Bool.not_eq_false', Decidable.not_not, Int.not_lt, Int.not_le, Bool.or_eq_true, Bool.and_eq_true, Bool.or_eq_false_iff, Bool.and_eq_false_iff] at hb16
      refine C_seq (C_region (RL_q rfl (Yd_assign rfl) (RL_q rfl (Yd_assign rfl) (RL_nil (X_then (C_ret (X_thenR (X_ret2 rfl rfl rfl ?_))))))))
      refine ⟨_, _, _, _, rfl, Ow.nil.cast ?_, ?_, hE⟩
      all_goals (first | rfl | exact (take_short (by omega)).1.symm | exact (take_short (by omega)).2.symm | exact (take_ok (k := ((n_b : Int) - 4).toNat) (by omega) (by assumption)).1.symm | exact (take_ok (k := ((n_b : Int) - 4).toNat) (by omega) (by assumption)).2.symm | exact (take_bad (k := ((n_b : Int) - 4).toNat) (by omega) (by assumption)).1.symm | exact (take_bad (k := ((n_b : Int) - 4).toNat) (by omega) (by assumption)).2.symm)
    · skip
      try simp only [decide_eq_true_eq, decide_eq_false_iff_not, Bool.not_eq_true', Bool.not_eq_false', Decidable.not_not, Int.not_lt, Int.not_le, Bool.or_eq_true, Bool.and_eq_true, Bool.or_eq_false_iff, Bool.and_eq_false_iff] at hb16
      refine C_skip (X_then (C_seq (C_region (RL_q rfl (Yd_move rfl) (RL_q rfl (Yd_move rfl) (RL_q rfl (Yd_sliceH Tryz.underlying22 (sz := 1) (by kernel_rfl) rfl rfl (by omega) (by omega)) (RL_l rfl (Ld_call Tryz.func53 rfl (by kernel_rfl) rfl (bCloneV (Vw.take (k := ((n_b : Int) - 4).toNat) h_b (by omega)) (by omega)) ?_))))))))
      rintro e W3 ⟨A20, n20, c20, rfl, hF20, he3⟩
      refine ⟨_, rfl, ?_⟩
      replace hE := Ext.trans hE he3
      replace h_b := h_b.ext he3
      replace hF13 := hF13.ext he3
      have hs3 := he3.size
      have hn20 := hF20.ln
      try simp only [List.length_append, List.length_cons, List.length_nil, List.length_set, List.length_take, List.length_drop, List.length_replicate, List.length_map, Nat.zero_add, Nat.add_zero, le_len, le8s_len, le8_len] at hn20
      have hc20 := hF20.cap
      refine RL_q rfl (Yd_assign rfl) (RL_q rfl (Yd_assign rfl) (RL_nil (X_then (C_ret (X_ret2 rfl rfl rfl ?_)))))
      refine ⟨_, _, _, _, rfl, (hF20.fit.more (by omega) (Nat.le_refl _)).cast ?_, ?_, hE⟩
      all_goals (first | rfl | exact (take_short (by omega)).1.symm | exact (take_short (by omega)).2.symm | exact (take_ok (k := ((n_b : Int) - 4).toNat) (by omega) (by assumption)).1.symm | exact (take_ok (k := ((n_b : Int) - 4).toNat) (by omega) (by assumption)).2.symm | exact (take_bad (k := ((n_b : Int) - 4).toNat) (by omega) (by assumption)).1.symm | exact (take_bad (k := ((n_b : Int) - 4).toNat) (by omega) (by assumption)).2.symm)

end Go.Proofs.AL
set_option linter.unusedVariables false
set_option linter.unusedSimpArgs false
set_option maxRecDepth 20000
namespace Go.Proofs.AL
open Go.RowKit

theorem at_getD {l : List Bool} {i : Nat} {x : Bool} (h : l[i]? = some x) : x = (l[i]?).getD false := by rw [h]; rfl
theorem StrNext {g : Nat} {A_l : Option Addr} {n_l c_l lo_l B_l at_ : Nat} {l : List Bool} {w : World}  (hb_g : Blk w g 210 [.slice A_l n_l c_l, .int .i64 (at_ : Int)]) (h_l : Vw tBool w lo_l B_l A_l n_l c_l l) (hd : g < lo_l ∨ B_l ≤ g) (hat : at_ ≤ n_l) :
    Calls Tryz.prog 73 #[.pointer (some ⟨g, 0, none⟩)] w fun e w' => ∃ (x : Bool) (a2 : Nat), e = .returned (.bool x) ∧ (x = (l[at_]?).getD false) ∧ (a2 = if at_ < n_l then at_ + 1 else at_) ∧ Blk w' g 210 [.slice A_l n_l c_l, .int .i64 (a2 : Int)] ∧ Kp (fun k => k = g) w w' := by
  have hE := Ext.refl w
  have hn_l := h_l.ln
  have hc_l := h_l.cap
  have hm_l := h_l.max
  simp only [maxLen] at hm_l
  have hl_g := hb_g.lt
  have hK : Kp (fun k => k = g) w w := Kp.refl _ _
  refine calls_of (l := [.pointer (some ⟨g, 0, none⟩)]) (N := 31) Tryz.func73 rfl rfl rfl ?_
  refine C_seq (C_region (RL_q rfl (Yd_assign rfl) (RL_nil (X_then (C_seq (C_seq (?_)))))))
  refine C_regionD (NoB) (l := [(0, true), (1, true), (2, true), (3, true), (4, true), (5, true), (6, true), (7, true), (8, true), (9, true)]) (by kernel_rfl) (by kernel_rfl) rfl (by kernel_rfl) (fun _ _ d _ _ h => by cases d <;> exact h) ?_
  intro W1 he1 hh1
  replace hb_g := hb_g.ext he1
  try replace h_l := h_l.ext he1
  replace hK := Kp.go hK (Kp.of_ext (G := NoB) he1) (fun _ h => h.elim)
  have hs1 := he1.size
  refine RO_q rfl rfl (Yd_move rfl) (RO_q rfl rfl (Yd_nil rfl) (RO_q rfl rfl (Yd_fld (off := 1) Tryz.underlying210 (by kernel_rfl) rfl) (RO_q rfl rfl (Yd_load Tryz.underlying3 rfl rfl (fun W hW => (ldB hb_g rfl) W hW.ext)) (RO_q rfl rfl (Yd_move rfl) (RO_q rfl rfl (Yd_nil rfl) (RO_q rfl rfl (Yd_fld (off := 0) Tryz.underlying210 (by kernel_rfl) rfl) (RO_q rfl rfl (Yd_load Tryz.underlying23 rfl rfl (fun W hW => (ldB hb_g rfl) W hW.ext)) (RO_q rfl rfl (Yd_len Tryz.underlying23 rfl) (RO_q rfl rfl (Yd_geq rfl rfl) (RO_nil (X_then (?_))))))))))))
  refine C_cond rfl (fun hb12 => ?_) (fun hb12 => ?_)
  · skip
    try simp only [decide_eq_true_eq, decide_eq_false_iff_not, Bool.not_eq_true', Bool.not_eq_false', Decidable.not_not, Int.not_lt, Int.not_le, Bool.or_eq_true, Bool.and_eq_true, Bool.or_eq_false_iff, Bool.and_eq_false_iff] at hb12
    refine C_seq (C_region (RL_q rfl (Yd_assign rfl) (RL_nil (X_then (C_ret (X_thenR (X_ret1 rfl rfl ?_)))))))
    refine ⟨_, _, rfl, ?_, ?_, hb_g, hK⟩
    all_goals (first | omega | (rw [List.getElem?_eq_none (by omega)]; rfl) | (rw [if_neg (by omega)]; done) | (rw [show at_ = (((at_ : Int) + 1) - 1).toNat by omega, hx1]; rfl) | (rw [if_pos (by omega)]; done))
  · skip
    try simp only [decide_eq_true_eq, decide_eq_false_iff_not, Bool.not_eq_true', Bool.not_eq_false', Decidable.not_not, Int.not_lt, Int.not_le, Bool.or_eq_true, Bool.and_eq_true, Bool.or_eq_false_iff, Bool.and_eq_false_iff] at hb12
    refine C_skip (X_then (C_seq (C_region (RL_q rfl (Yd_move rfl) (RL_q rfl (Yd_nil rfl) (RL_q rfl (Yd_fld (off := 1) Tryz.underlying210 (by kernel_rfl) rfl) (RL_q rfl (Yd_load Tryz.underlying3 rfl rfl (ldB hb_g rfl)) (RL_q rfl (Yd_add rfl rfl (i64w (by omega) (by omega))) (RL_q rfl (Yd_nil rfl) (RL_q rfl (Yd_fld (off := 1) Tryz.underlying210 (by kernel_rfl) rfl) (RL_l0 (Ld_store (by kernel_rfl) rfl rfl hb_g (Nat.le_of_ble_eq_true rfl) (by simp [cellsL, Value.cells, Value.oneCell']) ?_))))))))))))
    intro W2 hu2 hz2 hb_g
    have hk2 := Kp.ofb hu2
    have hs2 := hk2.size
    try replace h_l := h_l.kp hk2 (fun k hk => by first | omega | (have hk := hk; dsimp only at hk; omega))
    replace hK := hK.go hk2 (fun k hk => by first | omega | (have hk := hk; (try dsimp only at hk); (try dsimp only); omega))
    refine RL_nil (X_then (C_seq (?_)))
    refine C_regionD (NoB) (l := [(0, true), (1, true), (2, true), (3, true), (4, true), (5, true), (6, true), (7, true), (8, true), (9, true), (10, true), (11, true)]) (by kernel_rfl) (by kernel_rfl) rfl (by kernel_rfl) (fun _ _ d _ _ h => by cases d <;> exact h) ?_
    intro W3 he3 hh3
    replace hb_g := hb_g.ext he3
    try replace h_l := h_l.ext he3
    replace hK := Kp.go hK (Kp.of_ext (G := NoB) he3) (fun _ h => h.elim)
    have hs3 := he3.size
    refine RO_q rfl rfl (Yd_move rfl) (RO_q rfl rfl (Yd_nil rfl) (RO_q rfl rfl (Yd_fld (off := 0) Tryz.underlying210 (by kernel_rfl) rfl) (RO_q rfl rfl (Yd_load Tryz.underlying23 rfl rfl (fun W hW => (ldB hb_g rfl) W hW.ext)) (RO_q rfl rfl (Yd_move rfl) (RO_q rfl rfl (Yd_nil rfl) (RO_q rfl rfl (Yd_fld (off := 1) Tryz.underlying210 (by kernel_rfl) rfl) (RO_q rfl rfl (Yd_load Tryz.underlying3 rfl rfl (fun W hW => (ldB hb_g rfl) W hW.ext)) (RO_q rfl rfl (Yd_sub rfl rfl (i64w (by omega) (by omega))) (?_)))))))))
    obtain ⟨adA_l, rfl, hghA_l, hglA_l⟩ := Vw.at_ (i := (((at_ : Int) + 1) - 1).toNat) h_l (by omega)
    refine RO_q rfl rfl (Yd_idx Tryz.underlying23 (sz := 1) (by kernel_rfl) rfl rfl (by omega) (by omega)) (?_)
    obtain ⟨x1, hx1, gx1⟩ := Vw.elem (i := (((at_ : Int) + 1) - 1).toNat) h_l (by omega)
    refine RO_q rfl rfl (Yd_load Tryz.underlying4 rfl rfl (fun W hW => (Vw.lq1 h_l hx1 rfl rfl) W hW.ext)) (RO_q rfl rfl (Yd_assign rfl) (RO_nil (X_then (C_ret (X_ret1 rfl rfl ?_)))))
    refine ⟨_, _, rfl, ?_, ?_, hb_g, hK⟩
    all_goals (first | omega | (rw [List.getElem?_eq_none (by omega)]; rfl) | (rw [if_neg (by omega)]; done) | (rw [show at_ = (((at_ : Int) + 1) - 1).toNat by omega, hx1]; rfl) | (rw [if_pos (by omega)]; done))
theorem StrAddO {g : Nat}  {lo_b B_b : Nat} {A_b : Option Addr} {n_b c_b : Nat} {b : List Bool} {w : World}  (hb_g : Blk w g 210 [.slice none 0 0, .int .i64 0]) (h_b : Vw tBool w lo_b B_b A_b n_b c_b b) (h6 : n_b ≤ 60000) :
    Calls Tryz.prog 100 #[.pointer (some ⟨g, 0, none⟩), .slice A_b n_b c_b] w fun e w' => ∃ (q : Nat) (n : Nat), e = .returned (.tuple #[]) ∧ (Ow tBool 4 w' w.heap.size w'.heap.size (some ⟨q, 0, none⟩) n n b) ∧ Blk w' g 210 [.slice (some ⟨q, 0, none⟩) n n, .int .i64 0] ∧ Kp (fun k => k = g) w w' := by
  have hE := Ext.refl w
  have hl_g := hb_g.lt
  replace h_b := h_b.fit
  have hn_b := h_b.ln
  have hc_b := h_b.cap
  have hm_b := h_b.max
  simp only [maxLen] at hm_b
  have hK : Kp (fun k => k = g) w w := Kp.refl _ _
  refine calls_of (l := [.pointer (some ⟨g, 0, none⟩), .slice A_b n_b c_b]) (N := 33) Tryz.func100 rfl rfl rfl ?_
  refine C_seq (C_region (RL_q rfl (Yd_move rfl) (RL_q rfl (Yd_nil rfl) (RL_q rfl (Yd_fld (off := 0) Tryz.underlying210 (by kernel_rfl) rfl) (RL_q rfl (Yd_load Tryz.underlying23 rfl rfl (ldB hb_g rfl)) (RL_q rfl (Yd_len Tryz.underlying23 rfl) (RL_q rfl (Yd_move rfl) (RL_q rfl (Yd_len Tryz.underlying23 rfl) (RL_q rfl (Yd_add rfl rfl (i64w (by omega) (by omega))) (RL_l rfl (Ld_mk Tryz.underlying23 Tryz.elt4 rfl rfl rfl (n := (0 + (n_b : Int)).toNat) (by omega) (by omega) (T := tBool) (a := false) rfl (by omega) (by simp only [maxLen]; omega) trivial ?_)))))))))))
  intro W1 hO13 he1
  replace hb_g := hb_g.ext he1
  try replace h_b := h_b.ext he1
  replace hK := Kp.go hK (Kp.of_ext (G := NoB) he1) (fun _ h => h.elim)
  have hs1 := he1.size
  have hn13 := hO13.ln
  have hlt13 : w.heap.size < W1.heap.size := (hO13.own.lt' _ rfl).2
  refine RL_q rfl (Yd_assign rfl) (RL_nil (X_then (C_seq (C_region (RL_q rfl (Yd_move rfl) (RL_q rfl (Yd_move rfl) (RL_q rfl (Yd_nil rfl) (RL_q rfl (Yd_fld (off := 0) Tryz.underlying210 (by kernel_rfl) rfl) (RL_q rfl (Yd_load Tryz.underlying23 rfl rfl (ldB hb_g rfl)) (RL_l rfl (Ld_cpO (T := tBool) rfl Tryz.underlying23 (by kernel_rfl) rfl rfl hO13 (Vw.none_ (lo := 0) (B := 0)) (fun _ _ _ e => e) (by omega) (by omega) ?_)))))))))))
  intro W2 hO13' hk2
  have hs2 := hk2.size
  replace hb_g := hb_g.kp hk2 (fun hk => by first | omega | (have hk := hk; dsimp only at hk; omega))
  try replace h_b := h_b.kp hk2 (fun k hk => by first | omega | (have hk := hk; dsimp only at hk; omega))
  replace hK := hK.go hk2 (fun k hk => by first | omega | (have hk := hk; (try dsimp only at hk); (try dsimp only); omega))
  replace hO13 := hO13'
  have hnhO13 := hO13.ln
  try simp only [List.length_append, List.length_cons, List.length_nil, List.length_set, List.length_take, List.length_drop, List.length_replicate, List.length_map, Nat.zero_add, Nat.add_zero, oneP_len, le_len, le8s_len, le8_len, ptB_len, ptI_len, text_len] at hnhO13
  have hchO13 := hO13.cap
  refine RL_nil (X_then (C_seq (C_region (RL_q rfl (Yd_move rfl) (RL_q rfl (Yd_move rfl) (RL_q rfl (Yd_nil rfl) (RL_q rfl (Yd_fld (off := 0) Tryz.underlying210 (by kernel_rfl) rfl) (RL_q rfl (Yd_load Tryz.underlying23 rfl rfl (ldB hb_g rfl)) (RL_q rfl (Yd_len Tryz.underlying23 rfl) (RL_q rfl (Yd_sliceL Tryz.underlying23 (sz := 1) (by kernel_rfl) rfl rfl (by omega) (by omega)) (RL_q rfl (Yd_move rfl) (RL_l rfl (Ld_cpO (T := tBool) rfl Tryz.underlying23 (by kernel_rfl) rfl rfl hO13 h_b (cp_cut (by omega) (by omega)) (by omega) (by omega) ?_)))))))))))))
  intro W3 hO13' hk3
  have hs3 := hk3.size
  replace hb_g := hb_g.kp hk3 (fun hk => by first | omega | (have hk := hk; dsimp only at hk; omega))
  try replace h_b := h_b.kp hk3 (fun k hk => by first | omega | (have hk := hk; dsimp only at hk; omega))
  replace hK := hK.go hk3 (fun k hk => by first | omega | (have hk := hk; (try dsimp only at hk); (try dsimp only); omega))
  replace hO13 := hO13'
  have hnhO13 := hO13.ln
  try simp only [List.length_append, List.length_cons, List.length_nil, List.length_set, List.length_take, List.length_drop, List.length_replicate, List.length_map, Nat.zero_add, Nat.add_zero, oneP_len, le_len, le8s_len, le8_len, ptB_len, ptI_len, text_len] at hnhO13
  have hchO13 := hO13.cap
  refine RL_nil (X_then (C_region (RL_q rfl (Yd_move rfl) (RL_q rfl (Yd_move rfl) (RL_q rfl (Yd_nil rfl) (RL_q rfl (Yd_fld (off := 0) Tryz.underlying210 (by kernel_rfl) rfl) (RL_l0 (Ld_store (by kernel_rfl) rfl rfl hb_g (Nat.le_of_ble_eq_true rfl) (by simp [cellsL, Value.cells, Value.oneCell']) ?_))))))))
  intro W4 hu4 hz4 hb_g
  have hk4 := Kp.ofb hu4
  have hs4 := hk4.size
  try replace h_b := h_b.kp hk4 (fun k hk => by first | omega | (have hk := hk; dsimp only at hk; omega))
  replace hK := hK.go hk4 (fun k hk => by first | omega | (have hk := hk; (try dsimp only at hk); (try dsimp only); omega))
  try replace hO13 := hO13.kp hk4 (fun k hk => by first | omega | (have hk := hk; dsimp only at hk; omega))
  refine RL_nil (X_end0 rfl ?_)
  exact ⟨_, _, rfl, (hO13.fit.more (by omega) (Nat.le_refl _)).cast (by simp), hb_g, hK⟩
theorem StrNewO {lo_b B_b : Nat} {A_b : Option Addr} {n_b c_b : Nat} {b : List Bool} {w : World}  (h_b : Vw tBool w lo_b B_b A_b n_b c_b b) (h6 : n_b ≤ 60000) :
    Calls Tryz.prog 59 #[.slice A_b n_b c_b] w fun e w' => ∃ (g : Nat) (q : Nat) (n : Nat), e = .returned (.pointer (some ⟨g, 0, none⟩)) ∧ (w.heap.size ≤ g) ∧ (Ow tBool 4 w' (g + 1) w'.heap.size (some ⟨q, 0, none⟩) n n b) ∧ (Blk w' g 210 [.slice (some ⟨q, 0, none⟩) n n, .int .i64 0]) ∧ Ext w w' := by
  have hE := Ext.refl w
  replace h_b := h_b.fit
  have hn_b := h_b.ln
  have hc_b := h_b.cap
  have hm_b := h_b.max
  simp only [maxLen] at hm_b
  refine calls_of (l := [.slice A_b n_b c_b]) (N := 10) Tryz.func59 rfl rfl rfl ?_
  refine C_seq (C_region (RL_q rfl (Yd_assign rfl) (RL_nil (X_then (C_seq (C_region (RL_q rfl (Yd_build Tryz.bld210 rfl rfl) (RL_l rfl (Ld_box rfl ?_)))))))))
  have hg_5 := hE.size
  intro W1 he1 hz1 hB5
  replace hE := Ext.trans hE he1
  try replace h_b := h_b.ext he1
  refine RL_q rfl (Yd_assign rfl) (RL_nil (X_then (C_seq (C_region (RL_q rfl (Yd_move rfl) (RL_q rfl (Yd_move rfl) (RL_l rfl (Ld_call Tryz.func100 rfl (by kernel_rfl) rfl (StrAddO hB5 h_b (by omega)) ?_))))))))
  rintro e W2 ⟨q_8, n_8, rfl, hS_8, hB5n, hk2⟩
  refine ⟨_, rfl, ?_⟩
  have hs2 := hk2.size
  replace hE := Ext.kp hE hk2 (fun k hk => by first | omega | (have hk := hk; dsimp only at hk; omega))
  try replace h_b := h_b.kp hk2 (fun k hk => by first | omega | (have hk := hk; dsimp only at hk; omega))
  replace hB5 := hB5n
  have hnhS_8 := hS_8.ln
  have hchS_8 := hS_8.cap
  refine RL_nil (X_then (C_seq (C_region (RL_q rfl (Yd_move rfl) (RL_q rfl (Yd_assign rfl) (RL_nil (X_then (C_ret (X_ret1 rfl rfl ?_)))))))))
  exact ⟨_, _, _, rfl, by omega, hS_8.fit.more (by omega) (Nat.le_refl _), hB5, hE⟩

def fill (b : List Int) (n : Nat) : List Int := (List.range n).map fun i => b.getD (i % b.length) 0
theorem fill_succ (b : List Int) (n : Nat) : fill b (n + 1) = fill b n ++ [b.getD (n % b.length) 0] := by simp [fill, List.range_succ]
@[simp] theorem fill_len (b : List Int) (n : Nat) : (fill b n).length = n := by simp [fill]
theorem getD_byt {b : List Int} (h : Byt b) (i : Nat) : 0 ≤ b.getD i 0 ∧ b.getD i 0 ≤ 255 := by
  rw [List.getD_eq_getElem?_getD]
  by_cases hi : i < b.length
  · rw [List.getElem?_eq_getElem hi]; exact h.get i hi
  · rw [List.getElem?_eq_none (by omega)]; simp
theorem fill_byt {b : List Int} (h : Byt b) (n : Nat) : Byt (fill b n) := fun x hx => by
  simp only [fill, List.mem_map] at hx
  obtain ⟨i, _, rfl⟩ := hx
  exact getD_byt h _
theorem Fill_c {B : Nat} (A : Option Addr) (m c n : Nat) (b : List Int) (w : World) (hr : Rd w B 1 A m (ints .u8 b)) (hm : b.length = m) (hm2 : m ≤ 9223372036854775807) (hn : n ≤ 65536) :
    Calls Tryz.prog 6 #[.slice A m c, .int .i64 n] w fun e w' => ∃ A' c', e = .returned (.slice A' n c') ∧ Own w' w.heap.size 5 1 A' n c' (ints .u8 (fill b n)) ∧ Ext w w' := by
  refine calls_of (l := [.slice A m c, .int .i64 n]) (N := 29) Tryz.func6 rfl rfl rfl ?_
  refine C_seq (C_region (RL_q rfl (Yd_assign rfl) (RL_nil (X_then (C_seq (C_region (RL_q rfl (Yd_assign rfl) (RL_nil (X_then (C_seq (C_seq (C_region (RL_q rfl (Yd_assign rfl) (RL_nil (X_then (C_block (?_)))))))))))))))))
  refine C_loop (T := Nat × Option Addr × Nat) (fun ⟨k, A', c'⟩ => [(0, .slice A m c), (1, .int .i64 n), (5, .slice A' k c'), (6, .int .i64 k)]) (fun ⟨k, A', c'⟩ w1 => k ≤ n ∧ Own w1 w.heap.size 5 1 A' k c' (ints .u8 (fill b k)) ∧ Ext w w1) (fun ⟨k, A', c'⟩ => n - k) (⟨0, none, 0⟩) ⟨rfl, rfl, rfl, rfl, trivial⟩ ?_ ?_
  · exact ⟨by omega, Own.nil _ _ _ _, Ext.refl _⟩
  · rintro ⟨k, A', c'⟩ w1 ⟨hk, hO, hE⟩
    refine C_seq (C_seq (C_region (RL_q rfl (Yd_move rfl) (RL_q rfl (Yd_move rfl) (RL_q rfl (Yd_lss rfl rfl) (RL_nil (X_then (?_))))))))
    refine C_cond rfl (fun hb => ?_) (fun hb => ?_)
    · skip
      have hb : (k : Int) < n := of_decide_eq_true hb
      have hsz := hE.size
      refine C_skip (X_then (C_seq (C_block (C_seq (C_region (RL_q rfl (Yd_move rfl) (RL_q rfl (Yd_len Tryz.underlying22 rfl) (RL_q rfl (Yd_gtr rfl rfl) (RL_nil (X_then (?_)))))))))))
      refine C_cond rfl (fun hb2 => ?_) (fun hb2 => ?_)
      · skip
        have hb2 : (0 : Int) < m := of_decide_eq_true hb2
        have hlt : k % m < m := Nat.mod_lt _ (by omega)
        obtain ⟨ad, rfl, _, _⟩ := hr.cells (by omega)
        have hget := ints_get .u8 b (k % m) (by omega)
        have hv : b.getD (k % b.length) 0 = b[k % m]'(by omega) := by simp only [List.getD_eq_getElem?_getD, hm, List.getElem?_eq_getElem (show k % m < b.length by omega), Option.getD_some]
        have hrem : ((k : Int) % (m : Int)).toNat = k % m := by omega
        refine C_region (RL_q rfl (Yd_move rfl) (RL_q rfl (Yd_move rfl) (RL_q rfl (Yd_move rfl) (RL_q rfl (Yd_move rfl) (RL_q rfl (Yd_len Tryz.underlying22 rfl) (RL_q rfl (Yd_rem rfl rfl (by omega) (tmodw (by omega))) (RL_q rfl (Yd_idx Tryz.underlying22 (sz := 1) (by kernel_rfl) rfl rfl (by omega) (by omega)) (RL_q rfl (Yd_load Tryz.underlying5 rfl rfl (ldK (hr.ext hE) (by omega) hget (by omega))) (RL_l rfl (Ld_lit Tryz.underlying22 rfl (lit_flat Tryz.underlying22 Tryz.elt5 rfl rfl ⟨rfl, by decide⟩) ?_))))))))))
        intro W1 he1 hz1 hB
        replace hO := hO.ext he1
        replace hE := Ext.trans hE he1
        refine RL_l rfl (Ld_app Tryz.underlying22 Tryz.elt5 rfl (by decide) rfl rfl hO (Blk.one hB) (by simp [Value.oneCell']) (by simp only [maxLen]; omega) (by omega) hE.size (by intro h; cases h) rfl ?_)
        intro A2 c2 W2 hO2 hg2 hat2
        have hE2 := ext_app hO hE hE.size hg2
        refine RL_q rfl (Yd_assign rfl) (RL_nil (X_block (X_then (C_region (RL_q rfl (Yd_move rfl) (RL_q rfl (Yd_add rfl rfl (i64w (by omega) (by omega))) (RL_q rfl (Yd_assign rfl) (RL_nil (?_)))))))))
        refine X_again (⟨k + 1, A2, c2⟩) ⟨rfl, rfl, rfl, rfl, trivial⟩ ?_ (by first | omega | (dsimp only; omega))
        refine ⟨by omega, ?_, hE2⟩
        rw [fill_succ, ints_append, hv]
        exact hO2
      · skip
        have hb2 : ¬ (0 : Int) < m := of_decide_eq_false hb2
        have hv : b.getD (k % b.length) 0 = 0 := by rw [show b = [] from List.eq_nil_of_length_eq_zero (by omega)]; rfl
        refine C_region (RL_q rfl (Yd_move rfl) (RL_l rfl (Ld_lit Tryz.underlying22 rfl (lit_flat Tryz.underlying22 Tryz.elt5 rfl rfl ⟨rfl, by decide⟩) ?_)))
        intro W1 he1 hz1 hB
        replace hO := hO.ext he1
        replace hE := Ext.trans hE he1
        refine RL_l rfl (Ld_app Tryz.underlying22 Tryz.elt5 rfl (by decide) rfl rfl hO (Blk.one hB) (by simp [Value.oneCell']) (by simp only [maxLen]; omega) (by omega) hE.size (by intro h; cases h) rfl ?_)
        intro A2 c2 W2 hO2 hg2 hat2
        have hE2 := ext_app hO hE hE.size hg2
        refine RL_q rfl (Yd_assign rfl) (RL_nil (X_block (X_then (C_region (RL_q rfl (Yd_move rfl) (RL_q rfl (Yd_add rfl rfl (i64w (by omega) (by omega))) (RL_q rfl (Yd_assign rfl) (RL_nil (?_)))))))))
        refine X_again (⟨k + 1, A2, c2⟩) ⟨rfl, rfl, rfl, rfl, trivial⟩ ?_ (by first | omega | (dsimp only; omega))
        refine ⟨by omega, ?_, hE2⟩
        rw [fill_succ, ints_append, hv]
        exact hO2
    · skip
      have hb : ¬ (k : Int) < n := of_decide_eq_false hb
      obtain rfl : k = n := by omega
      refine C_exit (X_thenE (X_thenE (X_blockE (X_then (C_seq (C_region (RL_q rfl (Yd_move rfl) (RL_q rfl (Yd_assign rfl) (RL_nil (X_then (C_ret (X_ret1 rfl rfl ?_))))))))))))
      exact ⟨A', c', rfl, hO, hE⟩
end Go.Proofs.AL
