/- Proved here: closed facts of this seat's program: its types' sizes, kinds and zero values. No condition. -/
import Derived.Test.YtphohfpbdkgnaaaProg
import Derived.Test.YtphohfpbdkgnaaaVX
namespace Go.Proofs.Ytphohfpbdkgnaaa
set_option linter.unusedVariables false
set_option linter.unusedSimpArgs false
open Go
open V (Bytes Meets Env Sl Own Gr Fr Cells S)
theorem mixed : Try.prog.follows .mixedOrders = true := by kernel_rfl
def T : V.Tab := [(1, .fn), (2, .int .i64), (3, .int .i64), (4, .bool), (5, .int .u8), (6, .int .u8), (7, .struct 4 [(2, 0, 1, false), (3, 1, 1, false), (4, 2, 1, false), (6, 3, 1, false)]), (8, .struct 4 [(2, 0, 1, false), (3, 1, 1, false), (4, 2, 1, false), (6, 3, 1, false)]), (9, .str), (10, .str), (11, .str), (12, .int .u64), (13, .struct 2 [(9, 0, 1, false), (12, 1, 1, false)]), (22, .sl 30), (23, .sl 59), (24, .ptr 93), (25, .int .i64), (28, .sl 5), (30, .struct 2 [(3, 0, 1, false), (28, 1, 1, false)]), (33, .ptr 101), (36, .ptr 38), (38, .struct 2 [(3, 0, 1, false), (3, 1, 1, false)]), (39, .int .i64), (57, .struct 53 [(39, 0, 1, false), (3, 1, 1, false), (3, 2, 1, false), (3, 3, 1, false), (3, 4, 1, false), (3, 5, 1, false), (3, 6, 1, false), (3, 7, 1, false), (4, 8, 1, false), (22, 9, 1, false), (28, 10, 1, false), (41, 11, 2, true), (49, 13, 22, true), (55, 35, 18, true)]), (59, .struct 57 [(3, 0, 1, false), (3, 1, 1, false), (3, 2, 1, false), (57, 3, 53, true), (28, 56, 1, false)]), (68, .sl 57), (72, .ptr 79), (76, .sl 33), (77, .sl 3), (79, .struct 5 [(76, 0, 1, false), (68, 1, 1, false), (22, 2, 1, false), (77, 3, 1, false), (4, 4, 1, false)]), (89, .sl 113), (93, .struct 3 [(3, 0, 1, false), (3, 1, 1, false), (22, 2, 1, false)]), (98, .arr 3 4 1 false), (99, .arr 3 3 1 false), (101, .struct 20 [(3, 0, 1, false), (3, 1, 1, false), (3, 2, 1, false), (3, 3, 1, false), (3, 4, 1, false), (3, 5, 1, false), (24, 6, 1, false), (3, 7, 1, false), (28, 8, 1, false), (98, 9, 3, true), (99, 12, 3, true), (99, 15, 3, true), (68, 18, 1, false), (89, 19, 1, false)]), (104, .map 39 103), (108, .fn), (113, .struct 6 [(3, 0, 1, false), (3, 1, 1, false), (3, 2, 1, false), (30, 3, 2, true), (28, 5, 1, false)])]
theorem T_ok : V.tabB Try.prog T = true := by kernel_rfl
theorem sz3 : V.sizeT Try.prog 3 = some 1 := by kernel_rfl
theorem sz4 : V.sizeT Try.prog 4 = some 1 := by kernel_rfl
theorem sz5 : V.sizeT Try.prog 5 = some 1 := by kernel_rfl
theorem sz22 : V.sizeT Try.prog 22 = some 1 := by kernel_rfl
theorem sz28 : V.sizeT Try.prog 28 = some 1 := by kernel_rfl
theorem sz30 : V.sizeT Try.prog 30 = some 2 := by kernel_rfl
theorem sz57 : V.sizeT Try.prog 57 = some 53 := by kernel_rfl
theorem sz59 : V.sizeT Try.prog 59 = some 57 := by kernel_rfl
theorem sz68 : V.sizeT Try.prog 68 = some 1 := by kernel_rfl
theorem sz89 : V.sizeT Try.prog 89 = some 1 := by kernel_rfl
theorem sz93 : V.sizeT Try.prog 93 = some 3 := by kernel_rfl
theorem sz98 : V.sizeT Try.prog 98 = some 3 := by kernel_rfl
theorem sz113 : V.sizeT Try.prog 113 = some 6 := by kernel_rfl
theorem zero3 : V.zeroT Try.prog 3 = some (.int .i64 0) := by kernel_rfl
theorem zero4 : V.zeroT Try.prog 4 = some (.bool false) := by kernel_rfl
theorem zero5 : V.zeroT Try.prog 5 = some (.int .u8 0) := by kernel_rfl
theorem zero22 : V.zeroT Try.prog 22 = some (.slice none 0 0) := by kernel_rfl
theorem zero30 : V.zeroT Try.prog 30 = some (.agg #[(.int .i64 0), (.slice none 0 0)]) := by kernel_rfl
theorem zero38 : V.zeroT Try.prog 38 = some (.agg #[(.int .i64 0), (.int .i64 0)]) := by kernel_rfl
theorem zero57 : V.zeroT Try.prog 57 = some (.agg #[(.int .i64 0), (.int .i64 0), (.int .i64 0), (.int .i64 0), (.int .i64 0), (.int .i64 0), (.int .i64 0), (.int .i64 0), (.bool false), (.slice none 0 0), (.slice none 0 0), (.int .i64 0), (.int .i64 0), (.int .i64 0), (.int .i64 0), (.int .i64 0), (.int .i64 0), (.int .i64 0), (.int .i64 0), (.string ByteArray.empty), (.int .i64 0), (.int .i64 0), (.int .i64 0), (.string ByteArray.empty), (.string ByteArray.empty), (.string ByteArray.empty), (.bool false), (.int .i64 0), (.int .i64 0), (.int .i64 0), (.int .i64 0), (.bool false), (.bool false), (.slice none 0 0), (.int .i64 0), (.int .i64 0), (.int .i64 0), (.int .i64 0), (.slice none 0 0), (.bool false), (.int .i64 0), (.int .i64 0), (.string ByteArray.empty), (.int .i64 0), (.int .i64 0), (.int .i64 0), (.int .i64 0), (.int .i64 0), (.int .i64 0), (.int .i64 0), (.int .i64 0), (.int .i64 0), (.slice none 0 0)]) := by kernel_rfl
theorem zero59 : V.zeroT Try.prog 59 = some (.agg #[(.int .i64 0), (.int .i64 0), (.int .i64 0), (.int .i64 0), (.int .i64 0), (.int .i64 0), (.int .i64 0), (.int .i64 0), (.int .i64 0), (.int .i64 0), (.int .i64 0), (.bool false), (.slice none 0 0), (.slice none 0 0), (.int .i64 0), (.int .i64 0), (.int .i64 0), (.int .i64 0), (.int .i64 0), (.int .i64 0), (.int .i64 0), (.int .i64 0), (.string ByteArray.empty), (.int .i64 0), (.int .i64 0), (.int .i64 0), (.string ByteArray.empty), (.string ByteArray.empty), (.string ByteArray.empty), (.bool false), (.int .i64 0), (.int .i64 0), (.int .i64 0), (.int .i64 0), (.bool false), (.bool false), (.slice none 0 0), (.int .i64 0), (.int .i64 0), (.int .i64 0), (.int .i64 0), (.slice none 0 0), (.bool false), (.int .i64 0), (.int .i64 0), (.string ByteArray.empty), (.int .i64 0), (.int .i64 0), (.int .i64 0), (.int .i64 0), (.int .i64 0), (.int .i64 0), (.int .i64 0), (.int .i64 0), (.int .i64 0), (.slice none 0 0), (.slice none 0 0)]) := by kernel_rfl
theorem zero93 : V.zeroT Try.prog 93 = some (.agg #[(.int .i64 0), (.int .i64 0), (.slice none 0 0)]) := by kernel_rfl
theorem zero98 : V.zeroT Try.prog 98 = some (.agg #[(.bool false), (.bool false), (.bool false)]) := by kernel_rfl
theorem zero101 : V.zeroT Try.prog 101 = some (.agg #[(.int .i64 0), (.int .i64 0), (.int .i64 0), (.int .i64 0), (.int .i64 0), (.int .i64 0), (.pointer none), (.int .i64 0), (.slice none 0 0), (.bool false), (.bool false), (.bool false), (.int .i64 0), (.int .i64 0), (.int .i64 0), (.int .i64 0), (.int .i64 0), (.int .i64 0), (.slice none 0 0), (.slice none 0 0)]) := by kernel_rfl
theorem zero103 : V.zeroT Try.prog 103 = some (.nilFunc) := by kernel_rfl
theorem zero113 : V.zeroT Try.prog 113 = some (.agg #[(.int .i64 0), (.int .i64 0), (.int .i64 0), (.int .i64 0), (.slice none 0 0), (.slice none 0 0)]) := by kernel_rfl
theorem elT22_22 : V.ElemT Try.prog 22 22 2 32 (.agg #[(.int .i64 0), (.slice none 0 0)]) 30 := by
  have h : (Try.prog.info? 30).map (fun i => (i.zero, i.size, i.bytes)) = some (some (.agg #[(.int .i64 0), (.slice none 0 0)]), 2, 32) := by kernel_rfl
  obtain ⟨i, h1, h2, h3, h4⟩ := info_parts h
  exact ⟨Try.underlying22, ⟨i, h1, h2, h3, h4⟩, rfl⟩
theorem elT28_28 : V.ElemT Try.prog 28 28 1 1 (.int .u8 0) 5 := by
  have h : (Try.prog.info? 5).map (fun i => (i.zero, i.size, i.bytes)) = some (some (.int .u8 0), 1, 1) := by kernel_rfl
  obtain ⟨i, h1, h2, h3, h4⟩ := info_parts h
  exact ⟨Try.underlying28, ⟨i, h1, h2, h3, h4⟩, rfl⟩
theorem elT68_68 : V.ElemT Try.prog 68 68 53 536 (.agg #[(.int .i64 0), (.int .i64 0), (.int .i64 0), (.int .i64 0), (.int .i64 0), (.int .i64 0), (.int .i64 0), (.int .i64 0), (.bool false), (.slice none 0 0), (.slice none 0 0), (.int .i64 0), (.int .i64 0), (.int .i64 0), (.int .i64 0), (.int .i64 0), (.int .i64 0), (.int .i64 0), (.int .i64 0), (.string ByteArray.empty), (.int .i64 0), (.int .i64 0), (.int .i64 0), (.string ByteArray.empty), (.string ByteArray.empty), (.string ByteArray.empty), (.bool false), (.int .i64 0), (.int .i64 0), (.int .i64 0), (.int .i64 0), (.bool false), (.bool false), (.slice none 0 0), (.int .i64 0), (.int .i64 0), (.int .i64 0), (.int .i64 0), (.slice none 0 0), (.bool false), (.int .i64 0), (.int .i64 0), (.string ByteArray.empty), (.int .i64 0), (.int .i64 0), (.int .i64 0), (.int .i64 0), (.int .i64 0), (.int .i64 0), (.int .i64 0), (.int .i64 0), (.int .i64 0), (.slice none 0 0)]) 57 := by
  have h : (Try.prog.info? 57).map (fun i => (i.zero, i.size, i.bytes)) = some (some (.agg #[(.int .i64 0), (.int .i64 0), (.int .i64 0), (.int .i64 0), (.int .i64 0), (.int .i64 0), (.int .i64 0), (.int .i64 0), (.bool false), (.slice none 0 0), (.slice none 0 0), (.int .i64 0), (.int .i64 0), (.int .i64 0), (.int .i64 0), (.int .i64 0), (.int .i64 0), (.int .i64 0), (.int .i64 0), (.string ByteArray.empty), (.int .i64 0), (.int .i64 0), (.int .i64 0), (.string ByteArray.empty), (.string ByteArray.empty), (.string ByteArray.empty), (.bool false), (.int .i64 0), (.int .i64 0), (.int .i64 0), (.int .i64 0), (.bool false), (.bool false), (.slice none 0 0), (.int .i64 0), (.int .i64 0), (.int .i64 0), (.int .i64 0), (.slice none 0 0), (.bool false), (.int .i64 0), (.int .i64 0), (.string ByteArray.empty), (.int .i64 0), (.int .i64 0), (.int .i64 0), (.int .i64 0), (.int .i64 0), (.int .i64 0), (.int .i64 0), (.int .i64 0), (.int .i64 0), (.slice none 0 0)]), 53, 536) := by kernel_rfl
  obtain ⟨i, h1, h2, h3, h4⟩ := info_parts h
  exact ⟨Try.underlying68, ⟨i, h1, h2, h3, h4⟩, rfl⟩
theorem elT89_89 : V.ElemT Try.prog 89 89 6 80 (.agg #[(.int .i64 0), (.int .i64 0), (.int .i64 0), (.int .i64 0), (.slice none 0 0), (.slice none 0 0)]) 113 := by
  have h : (Try.prog.info? 113).map (fun i => (i.zero, i.size, i.bytes)) = some (some (.agg #[(.int .i64 0), (.int .i64 0), (.int .i64 0), (.int .i64 0), (.slice none 0 0), (.slice none 0 0)]), 6, 80) := by kernel_rfl
  obtain ⟨i, h1, h2, h3, h4⟩ := info_parts h
  exact ⟨Try.underlying89, ⟨i, h1, h2, h3, h4⟩, rfl⟩
-- the closed facts of this translation
end Go.Proofs.Ytphohfpbdkgnaaa
