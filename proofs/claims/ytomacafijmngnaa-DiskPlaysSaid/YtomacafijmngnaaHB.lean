/- Proved here: closed facts of this seat's program: its types' sizes, kinds and zero values. No condition. -/
import Derived.Test.YtomacafijmngnaaProg
import Derived.Test.YtomacafijmngnaaVX
namespace Go.Proofs.Ytomacafijmngnaa
set_option linter.unusedVariables false
set_option linter.unusedSimpArgs false
open Go
open V (Bytes Meets Env Sl Own Gr Fr Cells S)
theorem mixed : Try.prog.follows .mixedOrders = true := by kernel_rfl
def T : V.Tab := [(1, .fn), (2, .int .i64), (3, .int .i64), (4, .bool), (5, .int .u8), (9, .str), (22, .sl 5), (23, .sl 22), (25, .struct 5 [(3, 0, 1, false), (3, 1, 1, false), (22, 2, 1, false), (4, 3, 1, false), (4, 4, 1, false)]), (27, .ptr 48), (29, .int .i64), (36, .sl 25), (37, .ptr 39), (39, .struct 4 [(22, 0, 1, false), (22, 1, 1, false), (22, 2, 1, false), (22, 3, 1, false)]), (46, .struct 2 [(22, 0, 1, false), (22, 1, 1, false)]), (48, .struct 4 [(46, 0, 2, true), (46, 2, 2, true)])]
theorem T_ok : V.tabB Try.prog T = true := by kernel_rfl
theorem sz3 : V.sizeT Try.prog 3 = some 1 := by kernel_rfl
theorem sz4 : V.sizeT Try.prog 4 = some 1 := by kernel_rfl
theorem sz5 : V.sizeT Try.prog 5 = some 1 := by kernel_rfl
theorem sz22 : V.sizeT Try.prog 22 = some 1 := by kernel_rfl
theorem sz25 : V.sizeT Try.prog 25 = some 5 := by kernel_rfl
theorem sz46 : V.sizeT Try.prog 46 = some 2 := by kernel_rfl
theorem zero5 : V.zeroT Try.prog 5 = some (.int .u8 0) := by kernel_rfl
theorem zero25 : V.zeroT Try.prog 25 = some (.agg #[(.int .i64 0), (.int .i64 0), (.slice none 0 0), (.bool false), (.bool false)]) := by kernel_rfl
theorem zero39 : V.zeroT Try.prog 39 = some (.agg #[(.slice none 0 0), (.slice none 0 0), (.slice none 0 0), (.slice none 0 0)]) := by kernel_rfl
theorem zero46 : V.zeroT Try.prog 46 = some (.agg #[(.slice none 0 0), (.slice none 0 0)]) := by kernel_rfl
theorem zero48 : V.zeroT Try.prog 48 = some (.agg #[(.slice none 0 0), (.slice none 0 0), (.slice none 0 0), (.slice none 0 0)]) := by kernel_rfl
theorem elT22_22 : V.ElemT Try.prog 22 22 1 1 (.int .u8 0) 5 := by
  have h : (Try.prog.info? 5).map (fun i => (i.zero, i.size, i.bytes)) = some (some (.int .u8 0), 1, 1) := by kernel_rfl
  obtain ⟨i, h1, h2, h3, h4⟩ := info_parts h
  exact ⟨Try.underlying22, ⟨i, h1, h2, h3, h4⟩, rfl⟩
-- the closed facts of this translation
end Go.Proofs.Ytomacafijmngnaa
