/- Proved here: closed facts of this seat's program: its types' sizes, kinds and zero values. No condition. -/
import Derived.Test.YtkklebdlbmoogaaProg
import Derived.Test.YtkklebdlbmoogaaVX
namespace Go.Proofs.Ytkklebdlbmoogaa
set_option linter.unusedVariables false
set_option linter.unusedSimpArgs false
open Go
open V (Bytes Meets Env Sl Own Gr Fr Cells S)
theorem mixed : Try.prog.follows .mixedOrders = true := by kernel_rfl
def T : V.Tab := [(1, .fn), (2, .int .i64), (3, .int .i64), (4, .bool), (5, .int .u8), (6, .int .u8), (7, .struct 4 [(2, 0, 1, false), (3, 1, 1, false), (4, 2, 1, false), (6, 3, 1, false)]), (8, .struct 4 [(2, 0, 1, false), (3, 1, 1, false), (4, 2, 1, false), (6, 3, 1, false)]), (9, .str), (10, .str), (11, .str), (12, .int .u64), (13, .struct 2 [(9, 0, 1, false), (12, 1, 1, false)]), (14, .struct 2 [(9, 0, 1, false), (12, 1, 1, false)]), (21, .int .i32), (22, .sl 5), (24, .int .i64), (26, .struct 2 [(3, 0, 1, false), (3, 1, 1, false)]), (28, .struct 5 [(3, 0, 1, false), (3, 1, 1, false), (9, 2, 1, false), (26, 3, 2, true)]), (30, .struct 2 [(9, 0, 1, false), (9, 1, 1, false)]), (31, .sl 65), (33, .struct 22 [(24, 0, 1, false), (3, 1, 1, false), (3, 2, 1, false), (3, 3, 1, false), (28, 4, 5, true), (3, 9, 1, false), (30, 10, 2, true), (9, 12, 1, false), (4, 13, 1, false), (26, 14, 2, true), (26, 16, 2, true), (4, 18, 1, false), (4, 19, 1, false), (31, 20, 1, false), (3, 21, 1, false)]), (34, .int .i64), (43, .sl 30), (49, .ptr 53), (50, .ptr 92), (53, .struct 2 [(50, 0, 1, false), (4, 1, 1, false)]), (54, .ptr 3), (55, .sl 54), (58, .ptr 9), (60, .ptr 26), (61, .sl 58), (63, .ptr 4), (65, .struct 2 [(9, 0, 1, false), (3, 1, 1, false)]), (67, .ptr 75), (75, .struct 3 [(22, 0, 1, false), (3, 1, 1, false), (4, 2, 1, false)]), (76, .sl 3), (80, .sl 9), (83, .struct 4 [(4, 0, 1, false), (4, 1, 1, false), (4, 2, 1, false), (4, 3, 1, false)]), (85, .map 24 83), (92, .struct 1 [(22, 0, 1, false)]), (96, .fn), (100, .fn), (104, .fn), (106, .fn), (115, .int .u64), (117, .sl 26), (120, .map 9 121), (121, .struct 0 []), (126, .fn)]
theorem T_ok : V.tabB Try.prog T = true := by kernel_rfl
theorem sz3 : V.sizeT Try.prog 3 = some 1 := by kernel_rfl
theorem sz4 : V.sizeT Try.prog 4 = some 1 := by kernel_rfl
theorem sz5 : V.sizeT Try.prog 5 = some 1 := by kernel_rfl
theorem sz9 : V.sizeT Try.prog 9 = some 1 := by kernel_rfl
theorem sz22 : V.sizeT Try.prog 22 = some 1 := by kernel_rfl
theorem sz24 : V.sizeT Try.prog 24 = some 1 := by kernel_rfl
theorem sz26 : V.sizeT Try.prog 26 = some 2 := by kernel_rfl
theorem sz28 : V.sizeT Try.prog 28 = some 5 := by kernel_rfl
theorem sz30 : V.sizeT Try.prog 30 = some 2 := by kernel_rfl
theorem sz31 : V.sizeT Try.prog 31 = some 1 := by kernel_rfl
theorem sz33 : V.sizeT Try.prog 33 = some 22 := by kernel_rfl
theorem sz49 : V.sizeT Try.prog 49 = some 1 := by kernel_rfl
theorem sz50 : V.sizeT Try.prog 50 = some 1 := by kernel_rfl
theorem sz54 : V.sizeT Try.prog 54 = some 1 := by kernel_rfl
theorem sz58 : V.sizeT Try.prog 58 = some 1 := by kernel_rfl
theorem sz65 : V.sizeT Try.prog 65 = some 2 := by kernel_rfl
theorem sz83 : V.sizeT Try.prog 83 = some 4 := by kernel_rfl
theorem sz92 : V.sizeT Try.prog 92 = some 1 := by kernel_rfl
theorem zero3 : V.zeroT Try.prog 3 = some (.int .i64 0) := by kernel_rfl
theorem zero5 : V.zeroT Try.prog 5 = some (.int .u8 0) := by kernel_rfl
theorem zero9 : V.zeroT Try.prog 9 = some (.string ByteArray.empty) := by kernel_rfl
theorem zero26 : V.zeroT Try.prog 26 = some (.agg #[(.int .i64 0), (.int .i64 0)]) := by kernel_rfl
theorem zero28 : V.zeroT Try.prog 28 = some (.agg #[(.int .i64 0), (.int .i64 0), (.string ByteArray.empty), (.int .i64 0), (.int .i64 0)]) := by kernel_rfl
theorem zero30 : V.zeroT Try.prog 30 = some (.agg #[(.string ByteArray.empty), (.string ByteArray.empty)]) := by kernel_rfl
theorem zero33 : V.zeroT Try.prog 33 = some (.agg #[(.int .i64 0), (.int .i64 0), (.int .i64 0), (.int .i64 0), (.int .i64 0), (.int .i64 0), (.string ByteArray.empty), (.int .i64 0), (.int .i64 0), (.int .i64 0), (.string ByteArray.empty), (.string ByteArray.empty), (.string ByteArray.empty), (.bool false), (.int .i64 0), (.int .i64 0), (.int .i64 0), (.int .i64 0), (.bool false), (.bool false), (.slice none 0 0), (.int .i64 0)]) := by kernel_rfl
theorem zero53 : V.zeroT Try.prog 53 = some (.agg #[(.pointer none), (.bool false)]) := by kernel_rfl
theorem zero54 : V.zeroT Try.prog 54 = some (.pointer none) := by kernel_rfl
theorem zero58 : V.zeroT Try.prog 58 = some (.pointer none) := by kernel_rfl
theorem zero65 : V.zeroT Try.prog 65 = some (.agg #[(.string ByteArray.empty), (.int .i64 0)]) := by kernel_rfl
theorem zero75 : V.zeroT Try.prog 75 = some (.agg #[(.slice none 0 0), (.int .i64 0), (.bool false)]) := by kernel_rfl
theorem zero83 : V.zeroT Try.prog 83 = some (.agg #[(.bool false), (.bool false), (.bool false), (.bool false)]) := by kernel_rfl
theorem zero92 : V.zeroT Try.prog 92 = some (.agg #[(.slice none 0 0)]) := by kernel_rfl
theorem zero121 : V.zeroT Try.prog 121 = some (.agg #[]) := by kernel_rfl
theorem elT22_9 : V.ElemT Try.prog 22 9 1 1 (.int .u8 0) 5 := by
  have h : (Try.prog.info? 5).map (fun i => (i.zero, i.size, i.bytes)) = some (some (.int .u8 0), 1, 1) := by kernel_rfl
  obtain ⟨i, h1, h2, h3, h4⟩ := info_parts h
  exact ⟨Try.underlying22, ⟨i, h1, h2, h3, h4⟩, rfl⟩
theorem elT22_22 : V.ElemT Try.prog 22 22 1 1 (.int .u8 0) 5 := by
  have h : (Try.prog.info? 5).map (fun i => (i.zero, i.size, i.bytes)) = some (some (.int .u8 0), 1, 1) := by kernel_rfl
  obtain ⟨i, h1, h2, h3, h4⟩ := info_parts h
  exact ⟨Try.underlying22, ⟨i, h1, h2, h3, h4⟩, rfl⟩
theorem elT31_31 : V.ElemT Try.prog 31 31 2 24 (.agg #[(.string ByteArray.empty), (.int .i64 0)]) 65 := by
  have h : (Try.prog.info? 65).map (fun i => (i.zero, i.size, i.bytes)) = some (some (.agg #[(.string ByteArray.empty), (.int .i64 0)]), 2, 24) := by kernel_rfl
  obtain ⟨i, h1, h2, h3, h4⟩ := info_parts h
  exact ⟨Try.underlying31, ⟨i, h1, h2, h3, h4⟩, rfl⟩
-- the closed facts of this translation
end Go.Proofs.Ytkklebdlbmoogaa
