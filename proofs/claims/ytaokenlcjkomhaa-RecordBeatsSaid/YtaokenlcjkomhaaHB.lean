/- Proved here: closed facts of this seat's program: its types' sizes, kinds and zero values. No condition. -/
import Derived.Test.YtaokenlcjkomhaaProg
import Derived.Test.YtaokenlcjkomhaaVX
namespace Go.Proofs.Ytaokenlcjkomhaa
set_option linter.unusedVariables false
set_option linter.unusedSimpArgs false
open Go
open V (Bytes Meets Env Sl Own Gr Fr Cells S)
theorem mixed : Try.prog.follows .mixedOrders = true := by kernel_rfl
def T : V.Tab := [(1, .fn), (2, .int .i64), (3, .int .i64), (4, .bool), (5, .int .u8), (6, .int .u8), (7, .struct 4 [(2, 0, 1, false), (3, 1, 1, false), (4, 2, 1, false), (6, 3, 1, false)]), (8, .struct 4 [(2, 0, 1, false), (3, 1, 1, false), (4, 2, 1, false), (6, 3, 1, false)]), (9, .str), (22, .int .i64), (24, .struct 2 [(3, 0, 1, false), (3, 1, 1, false)]), (25, .sl 49), (27, .struct 8 [(3, 0, 1, false), (3, 1, 1, false), (22, 2, 1, false), (24, 3, 2, true), (24, 5, 2, true), (25, 7, 1, false)]), (29, .struct 5 [(3, 0, 1, false), (3, 1, 1, false), (9, 2, 1, false), (24, 3, 2, true)]), (31, .struct 15 [(3, 0, 1, false), (3, 1, 1, false), (24, 2, 2, true), (24, 4, 2, true), (25, 6, 1, false), (4, 7, 1, false), (4, 8, 1, false), (29, 9, 5, true), (3, 14, 1, false)]), (35, .int .i64), (40, .sl 31), (43, .arr 2 24 2 true), (47, .sl 5), (49, .struct 2 [(9, 0, 1, false), (3, 1, 1, false)]), (53, .ptr 80), (55, .ptr 60), (60, .struct 3 [(47, 0, 1, false), (3, 1, 1, false), (4, 2, 1, false)]), (80, .struct 1 [(47, 0, 1, false)]), (83, .fn), (86, .sl 83), (96, .map 9 3), (98, .int .u64), (107, .sl 3)]
theorem T_ok : V.tabB Try.prog T = true := by kernel_rfl
theorem sz3 : V.sizeT Try.prog 3 = some 1 := by kernel_rfl
theorem sz4 : V.sizeT Try.prog 4 = some 1 := by kernel_rfl
theorem sz5 : V.sizeT Try.prog 5 = some 1 := by kernel_rfl
theorem sz9 : V.sizeT Try.prog 9 = some 1 := by kernel_rfl
theorem sz22 : V.sizeT Try.prog 22 = some 1 := by kernel_rfl
theorem sz24 : V.sizeT Try.prog 24 = some 2 := by kernel_rfl
theorem sz25 : V.sizeT Try.prog 25 = some 1 := by kernel_rfl
theorem sz27 : V.sizeT Try.prog 27 = some 8 := by kernel_rfl
theorem sz29 : V.sizeT Try.prog 29 = some 5 := by kernel_rfl
theorem sz31 : V.sizeT Try.prog 31 = some 15 := by kernel_rfl
theorem sz47 : V.sizeT Try.prog 47 = some 1 := by kernel_rfl
theorem sz49 : V.sizeT Try.prog 49 = some 2 := by kernel_rfl
theorem sz53 : V.sizeT Try.prog 53 = some 1 := by kernel_rfl
theorem sz80 : V.sizeT Try.prog 80 = some 1 := by kernel_rfl
theorem sz83 : V.sizeT Try.prog 83 = some 1 := by kernel_rfl
theorem zero3 : V.zeroT Try.prog 3 = some (.int .i64 0) := by kernel_rfl
theorem zero5 : V.zeroT Try.prog 5 = some (.int .u8 0) := by kernel_rfl
theorem zero24 : V.zeroT Try.prog 24 = some (.agg #[(.int .i64 0), (.int .i64 0)]) := by kernel_rfl
theorem zero27 : V.zeroT Try.prog 27 = some (.agg #[(.int .i64 0), (.int .i64 0), (.int .i64 0), (.int .i64 0), (.int .i64 0), (.int .i64 0), (.int .i64 0), (.slice none 0 0)]) := by kernel_rfl
theorem zero29 : V.zeroT Try.prog 29 = some (.agg #[(.int .i64 0), (.int .i64 0), (.string ByteArray.empty), (.int .i64 0), (.int .i64 0)]) := by kernel_rfl
theorem zero31 : V.zeroT Try.prog 31 = some (.agg #[(.int .i64 0), (.int .i64 0), (.int .i64 0), (.int .i64 0), (.int .i64 0), (.int .i64 0), (.slice none 0 0), (.bool false), (.bool false), (.int .i64 0), (.int .i64 0), (.string ByteArray.empty), (.int .i64 0), (.int .i64 0), (.int .i64 0)]) := by kernel_rfl
theorem zero49 : V.zeroT Try.prog 49 = some (.agg #[(.string ByteArray.empty), (.int .i64 0)]) := by kernel_rfl
theorem zero60 : V.zeroT Try.prog 60 = some (.agg #[(.slice none 0 0), (.int .i64 0), (.bool false)]) := by kernel_rfl
theorem zero80 : V.zeroT Try.prog 80 = some (.agg #[(.slice none 0 0)]) := by kernel_rfl
theorem zero83 : V.zeroT Try.prog 83 = some (.nilFunc) := by kernel_rfl
theorem elT25_25 : V.ElemT Try.prog 25 25 2 24 (.agg #[(.string ByteArray.empty), (.int .i64 0)]) 49 := by
  have h : (Try.prog.info? 49).map (fun i => (i.zero, i.size, i.bytes)) = some (some (.agg #[(.string ByteArray.empty), (.int .i64 0)]), 2, 24) := by kernel_rfl
  obtain ⟨i, h1, h2, h3, h4⟩ := info_parts h
  exact ⟨Try.underlying25, ⟨i, h1, h2, h3, h4⟩, rfl⟩
theorem elT47_9 : V.ElemT Try.prog 47 9 1 1 (.int .u8 0) 5 := by
  have h : (Try.prog.info? 5).map (fun i => (i.zero, i.size, i.bytes)) = some (some (.int .u8 0), 1, 1) := by kernel_rfl
  obtain ⟨i, h1, h2, h3, h4⟩ := info_parts h
  exact ⟨Try.underlying47, ⟨i, h1, h2, h3, h4⟩, rfl⟩
theorem elT47_47 : V.ElemT Try.prog 47 47 1 1 (.int .u8 0) 5 := by
  have h : (Try.prog.info? 5).map (fun i => (i.zero, i.size, i.bytes)) = some (some (.int .u8 0), 1, 1) := by kernel_rfl
  obtain ⟨i, h1, h2, h3, h4⟩ := info_parts h
  exact ⟨Try.underlying47, ⟨i, h1, h2, h3, h4⟩, rfl⟩
-- the closed facts of this translation
end Go.Proofs.Ytaokenlcjkomhaa
