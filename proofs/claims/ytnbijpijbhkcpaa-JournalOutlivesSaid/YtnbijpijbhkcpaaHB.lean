/- Proved here: closed facts of this seat's program: its types' sizes, kinds and zero values. No condition. -/
import Derived.Test.YtnbijpijbhkcpaaProg
import Derived.Test.YtnbijpijbhkcpaaVX
namespace Go.Proofs.Ytnbijpijbhkcpaa
set_option linter.unusedVariables false
set_option linter.unusedSimpArgs false
open Go
open V (Bytes Meets Env Sl Own Gr Fr Cells S)
theorem mixed : Try.prog.follows .mixedOrders = true := by kernel_rfl
def T : V.Tab := [(1, .fn), (2, .int .i64), (3, .int .i64), (4, .bool), (5, .int .u8), (6, .int .u8), (9, .str), (22, .sl 5), (24, .ptr 72), (26, .int .i64), (28, .ptr 30), (30, .struct 4 [(22, 0, 1, false), (22, 1, 1, false), (22, 2, 1, false), (22, 3, 1, false)]), (31, .ptr 77), (34, .ptr 82), (40, .sl 42), (42, .struct 6 [(3, 0, 1, false), (3, 1, 1, false), (3, 2, 1, false), (22, 3, 1, false), (4, 4, 1, false), (4, 5, 1, false)]), (47, .struct 3 [(3, 0, 1, false), (3, 1, 1, false), (3, 2, 1, false)]), (53, .arr 2 4 1 false), (54, .sl 22), (56, .struct 3 [(3, 0, 1, false), (9, 1, 1, false), (54, 2, 1, false)]), (58, .sl 56), (70, .struct 2 [(22, 0, 1, false), (22, 1, 1, false)]), (72, .struct 4 [(70, 0, 2, true), (70, 2, 2, true)]), (77, .struct 7 [(24, 0, 1, false), (3, 1, 1, false), (22, 2, 1, false), (54, 3, 1, false), (47, 4, 3, true)]), (82, .struct 7 [(28, 0, 1, false), (3, 1, 1, false), (22, 2, 1, false), (54, 3, 1, false), (3, 4, 1, false), (3, 5, 1, false), (3, 6, 1, false)]), (85, .ptr 111), (92, .sl 3), (96, .ptr 119), (98, .ptr 3), (99, .sl 98), (105, .fn), (106, .map 3 105), (111, .struct 3 [(22, 0, 1, false), (3, 1, 1, false), (4, 2, 1, false)]), (113, .int .u64), (115, .int .u32), (119, .struct 1 [(22, 0, 1, false)])]
theorem T_ok : V.tabB Try.prog T = true := by kernel_rfl
theorem sz3 : V.sizeT Try.prog 3 = some 1 := by kernel_rfl
theorem sz4 : V.sizeT Try.prog 4 = some 1 := by kernel_rfl
theorem sz5 : V.sizeT Try.prog 5 = some 1 := by kernel_rfl
theorem sz9 : V.sizeT Try.prog 9 = some 1 := by kernel_rfl
theorem sz22 : V.sizeT Try.prog 22 = some 1 := by kernel_rfl
theorem sz24 : V.sizeT Try.prog 24 = some 1 := by kernel_rfl
theorem sz26 : V.sizeT Try.prog 26 = some 1 := by kernel_rfl
theorem sz28 : V.sizeT Try.prog 28 = some 1 := by kernel_rfl
theorem sz42 : V.sizeT Try.prog 42 = some 6 := by kernel_rfl
theorem sz47 : V.sizeT Try.prog 47 = some 3 := by kernel_rfl
theorem sz54 : V.sizeT Try.prog 54 = some 1 := by kernel_rfl
theorem sz56 : V.sizeT Try.prog 56 = some 3 := by kernel_rfl
theorem sz70 : V.sizeT Try.prog 70 = some 2 := by kernel_rfl
theorem sz98 : V.sizeT Try.prog 98 = some 1 := by kernel_rfl
theorem zero3 : V.zeroT Try.prog 3 = some (.int .i64 0) := by kernel_rfl
theorem zero5 : V.zeroT Try.prog 5 = some (.int .u8 0) := by kernel_rfl
theorem zero22 : V.zeroT Try.prog 22 = some (.slice none 0 0) := by kernel_rfl
theorem zero26 : V.zeroT Try.prog 26 = some (.int .i64 0) := by kernel_rfl
theorem zero30 : V.zeroT Try.prog 30 = some (.agg #[(.slice none 0 0), (.slice none 0 0), (.slice none 0 0), (.slice none 0 0)]) := by kernel_rfl
theorem zero42 : V.zeroT Try.prog 42 = some (.agg #[(.int .i64 0), (.int .i64 0), (.int .i64 0), (.slice none 0 0), (.bool false), (.bool false)]) := by kernel_rfl
theorem zero47 : V.zeroT Try.prog 47 = some (.agg #[(.int .i64 0), (.int .i64 0), (.int .i64 0)]) := by kernel_rfl
theorem zero54 : V.zeroT Try.prog 54 = some (.slice none 0 0) := by kernel_rfl
theorem zero56 : V.zeroT Try.prog 56 = some (.agg #[(.int .i64 0), (.string ByteArray.empty), (.slice none 0 0)]) := by kernel_rfl
theorem zero70 : V.zeroT Try.prog 70 = some (.agg #[(.slice none 0 0), (.slice none 0 0)]) := by kernel_rfl
theorem zero72 : V.zeroT Try.prog 72 = some (.agg #[(.slice none 0 0), (.slice none 0 0), (.slice none 0 0), (.slice none 0 0)]) := by kernel_rfl
theorem zero77 : V.zeroT Try.prog 77 = some (.agg #[(.pointer none), (.int .i64 0), (.slice none 0 0), (.slice none 0 0), (.int .i64 0), (.int .i64 0), (.int .i64 0)]) := by kernel_rfl
theorem zero82 : V.zeroT Try.prog 82 = some (.agg #[(.pointer none), (.int .i64 0), (.slice none 0 0), (.slice none 0 0), (.int .i64 0), (.int .i64 0), (.int .i64 0)]) := by kernel_rfl
theorem zero98 : V.zeroT Try.prog 98 = some (.pointer none) := by kernel_rfl
theorem zero105 : V.zeroT Try.prog 105 = some (.nilFunc) := by kernel_rfl
theorem zero111 : V.zeroT Try.prog 111 = some (.agg #[(.slice none 0 0), (.int .i64 0), (.bool false)]) := by kernel_rfl
theorem zero119 : V.zeroT Try.prog 119 = some (.agg #[(.slice none 0 0)]) := by kernel_rfl
theorem elT22_9 : V.ElemT Try.prog 22 9 1 1 (.int .u8 0) 5 := by
  have h : (Try.prog.info? 5).map (fun i => (i.zero, i.size, i.bytes)) = some (some (.int .u8 0), 1, 1) := by kernel_rfl
  obtain ⟨i, h1, h2, h3, h4⟩ := info_parts h
  exact ⟨Try.underlying22, ⟨i, h1, h2, h3, h4⟩, rfl⟩
theorem elT22_22 : V.ElemT Try.prog 22 22 1 1 (.int .u8 0) 5 := by
  have h : (Try.prog.info? 5).map (fun i => (i.zero, i.size, i.bytes)) = some (some (.int .u8 0), 1, 1) := by kernel_rfl
  obtain ⟨i, h1, h2, h3, h4⟩ := info_parts h
  exact ⟨Try.underlying22, ⟨i, h1, h2, h3, h4⟩, rfl⟩
theorem elT54_54 : V.ElemT Try.prog 54 54 1 24 (.slice none 0 0) 22 := by
  have h : (Try.prog.info? 22).map (fun i => (i.zero, i.size, i.bytes)) = some (some (.slice none 0 0), 1, 24) := by kernel_rfl
  obtain ⟨i, h1, h2, h3, h4⟩ := info_parts h
  exact ⟨Try.underlying54, ⟨i, h1, h2, h3, h4⟩, rfl⟩
theorem elT58_58 : V.ElemT Try.prog 58 58 3 48 (.agg #[(.int .i64 0), (.string ByteArray.empty), (.slice none 0 0)]) 56 := by
  have h : (Try.prog.info? 56).map (fun i => (i.zero, i.size, i.bytes)) = some (some (.agg #[(.int .i64 0), (.string ByteArray.empty), (.slice none 0 0)]), 3, 48) := by kernel_rfl
  obtain ⟨i, h1, h2, h3, h4⟩ := info_parts h
  exact ⟨Try.underlying58, ⟨i, h1, h2, h3, h4⟩, rfl⟩
-- the closed facts of this translation
end Go.Proofs.Ytnbijpijbhkcpaa
