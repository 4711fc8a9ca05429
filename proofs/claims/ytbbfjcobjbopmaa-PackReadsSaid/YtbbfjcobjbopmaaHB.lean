/- Proved here: closed facts of this seat's program: its types' sizes, kinds and zero values. No condition. -/
import Derived.Test.YtbbfjcobjbopmaaProg
import Derived.Test.YtbbfjcobjbopmaaVX
namespace Go.Proofs.Ytbbfjcobjbopmaa
set_option linter.unusedVariables false
set_option linter.unusedSimpArgs false
open Go
open V (Bytes Meets Env Sl Own Gr Fr Cells S)
theorem mixed : Try.prog.follows .mixedOrders = true := by kernel_rfl
def T : V.Tab := [(1, .fn), (2, .int .i64), (3, .int .i64), (4, .bool), (5, .int .u8), (9, .str), (22, .sl 23), (23, .sl 5), (24, .sl 3), (25, .int .i64), (29, .int .u64), (34, .arr 2 9 1 false), (38, .int .u32), (42, .arr 2 3 1 false), (45, .sl 47), (47, .struct 4 [(3, 0, 1, false), (3, 1, 1, false), (4, 2, 1, false), (9, 3, 1, false)]), (53, .ptr 79), (55, .ptr 65), (65, .struct 3 [(23, 0, 1, false), (3, 1, 1, false), (4, 2, 1, false)]), (79, .struct 1 [(23, 0, 1, false)])]
theorem T_ok : V.tabB Try.prog T = true := by kernel_rfl
theorem sz3 : V.sizeT Try.prog 3 = some 1 := by kernel_rfl
theorem sz4 : V.sizeT Try.prog 4 = some 1 := by kernel_rfl
theorem sz5 : V.sizeT Try.prog 5 = some 1 := by kernel_rfl
theorem sz9 : V.sizeT Try.prog 9 = some 1 := by kernel_rfl
theorem sz22 : V.sizeT Try.prog 22 = some 1 := by kernel_rfl
theorem sz23 : V.sizeT Try.prog 23 = some 1 := by kernel_rfl
theorem sz25 : V.sizeT Try.prog 25 = some 1 := by kernel_rfl
theorem sz47 : V.sizeT Try.prog 47 = some 4 := by kernel_rfl
theorem zero3 : V.zeroT Try.prog 3 = some (.int .i64 0) := by kernel_rfl
theorem zero5 : V.zeroT Try.prog 5 = some (.int .u8 0) := by kernel_rfl
theorem zero22 : V.zeroT Try.prog 22 = some (.slice none 0 0) := by kernel_rfl
theorem zero23 : V.zeroT Try.prog 23 = some (.slice none 0 0) := by kernel_rfl
theorem zero25 : V.zeroT Try.prog 25 = some (.int .i64 0) := by kernel_rfl
theorem zero47 : V.zeroT Try.prog 47 = some (.agg #[(.int .i64 0), (.int .i64 0), (.bool false), (.string ByteArray.empty)]) := by kernel_rfl
theorem zero65 : V.zeroT Try.prog 65 = some (.agg #[(.slice none 0 0), (.int .i64 0), (.bool false)]) := by kernel_rfl
theorem zero79 : V.zeroT Try.prog 79 = some (.agg #[(.slice none 0 0)]) := by kernel_rfl
theorem elT22_22 : V.ElemT Try.prog 22 22 1 24 (.slice none 0 0) 23 := by
  have h : (Try.prog.info? 23).map (fun i => (i.zero, i.size, i.bytes)) = some (some (.slice none 0 0), 1, 24) := by kernel_rfl
  obtain ⟨i, h1, h2, h3, h4⟩ := info_parts h
  exact ⟨Try.underlying22, ⟨i, h1, h2, h3, h4⟩, rfl⟩
theorem elT23_9 : V.ElemT Try.prog 23 9 1 1 (.int .u8 0) 5 := by
  have h : (Try.prog.info? 5).map (fun i => (i.zero, i.size, i.bytes)) = some (some (.int .u8 0), 1, 1) := by kernel_rfl
  obtain ⟨i, h1, h2, h3, h4⟩ := info_parts h
  exact ⟨Try.underlying23, ⟨i, h1, h2, h3, h4⟩, rfl⟩
theorem elT23_23 : V.ElemT Try.prog 23 23 1 1 (.int .u8 0) 5 := by
  have h : (Try.prog.info? 5).map (fun i => (i.zero, i.size, i.bytes)) = some (some (.int .u8 0), 1, 1) := by kernel_rfl
  obtain ⟨i, h1, h2, h3, h4⟩ := info_parts h
  exact ⟨Try.underlying23, ⟨i, h1, h2, h3, h4⟩, rfl⟩
theorem elT24_24 : V.ElemT Try.prog 24 24 1 8 (.int .i64 0) 3 := by
  have h : (Try.prog.info? 3).map (fun i => (i.zero, i.size, i.bytes)) = some (some (.int .i64 0), 1, 8) := by kernel_rfl
  obtain ⟨i, h1, h2, h3, h4⟩ := info_parts h
  exact ⟨Try.underlying24, ⟨i, h1, h2, h3, h4⟩, rfl⟩
theorem elT45_45 : V.ElemT Try.prog 45 45 4 40 (.agg #[(.int .i64 0), (.int .i64 0), (.bool false), (.string ByteArray.empty)]) 47 := by
  have h : (Try.prog.info? 47).map (fun i => (i.zero, i.size, i.bytes)) = some (some (.agg #[(.int .i64 0), (.int .i64 0), (.bool false), (.string ByteArray.empty)]), 4, 40) := by kernel_rfl
  obtain ⟨i, h1, h2, h3, h4⟩ := info_parts h
  exact ⟨Try.underlying45, ⟨i, h1, h2, h3, h4⟩, rfl⟩
-- the closed facts of this translation
end Go.Proofs.Ytbbfjcobjbopmaa
