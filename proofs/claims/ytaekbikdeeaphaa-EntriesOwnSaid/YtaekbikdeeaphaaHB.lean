/- Proved here: closed facts of this seat's program: its types' sizes, kinds and zero values. No condition. -/
import Derived.Test.YtaekbikdeeaphaaProg
import Derived.Test.YtaekbikdeeaphaaVX
namespace Go.Proofs.Ytaekbikdeeaphaa
set_option linter.unusedVariables false
set_option linter.unusedSimpArgs false
open Go
open V (Bytes Meets Env Sl Own Gr Fr Cells S)
theorem mixed : Try.prog.follows .mixedOrders = true := by kernel_rfl
def T : V.Tab := [(1, .fn), (2, .int .i64), (3, .int .i64), (4, .bool), (5, .int .u8), (9, .str), (22, .sl 29), (23, .ptr 55), (24, .int .i64), (27, .sl 5), (29, .struct 2 [(3, 0, 1, false), (27, 1, 1, false)]), (47, .arr 2 3 1 false), (51, .struct 4 [(3, 0, 1, false), (3, 1, 1, false), (3, 2, 1, false), (22, 3, 1, false)]), (55, .struct 3 [(3, 0, 1, false), (3, 1, 1, false), (22, 2, 1, false)])]
theorem T_ok : V.tabB Try.prog T = true := by kernel_rfl
theorem sz3 : V.sizeT Try.prog 3 = some 1 := by kernel_rfl
theorem sz5 : V.sizeT Try.prog 5 = some 1 := by kernel_rfl
theorem sz22 : V.sizeT Try.prog 22 = some 1 := by kernel_rfl
theorem sz27 : V.sizeT Try.prog 27 = some 1 := by kernel_rfl
theorem sz29 : V.sizeT Try.prog 29 = some 2 := by kernel_rfl
theorem sz51 : V.sizeT Try.prog 51 = some 4 := by kernel_rfl
theorem sz55 : V.sizeT Try.prog 55 = some 3 := by kernel_rfl
theorem zero5 : V.zeroT Try.prog 5 = some (.int .u8 0) := by kernel_rfl
theorem zero22 : V.zeroT Try.prog 22 = some (.slice none 0 0) := by kernel_rfl
theorem zero29 : V.zeroT Try.prog 29 = some (.agg #[(.int .i64 0), (.slice none 0 0)]) := by kernel_rfl
theorem zero55 : V.zeroT Try.prog 55 = some (.agg #[(.int .i64 0), (.int .i64 0), (.slice none 0 0)]) := by kernel_rfl
theorem elT22_22 : V.ElemT Try.prog 22 22 2 32 (.agg #[(.int .i64 0), (.slice none 0 0)]) 29 := by
  have h : (Try.prog.info? 29).map (fun i => (i.zero, i.size, i.bytes)) = some (some (.agg #[(.int .i64 0), (.slice none 0 0)]), 2, 32) := by kernel_rfl
  obtain ⟨i, h1, h2, h3, h4⟩ := info_parts h
  exact ⟨Try.underlying22, ⟨i, h1, h2, h3, h4⟩, rfl⟩
theorem elT27_27 : V.ElemT Try.prog 27 27 1 1 (.int .u8 0) 5 := by
  have h : (Try.prog.info? 5).map (fun i => (i.zero, i.size, i.bytes)) = some (some (.int .u8 0), 1, 1) := by kernel_rfl
  obtain ⟨i, h1, h2, h3, h4⟩ := info_parts h
  exact ⟨Try.underlying27, ⟨i, h1, h2, h3, h4⟩, rfl⟩
-- the closed facts of this translation
end Go.Proofs.Ytaekbikdeeaphaa
