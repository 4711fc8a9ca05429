/- Proved here: closed facts of this seat's program: its types' sizes, kinds and zero values. No condition. -/
import Derived.Test.YtooiimhcfgjbgaaProg
import Derived.Test.YtooiimhcfgjbgaaVX
namespace Go.Proofs.Ytooiimhcfgjbgaa
set_option linter.unusedVariables false
set_option linter.unusedSimpArgs false
open Go
open V (Bytes Meets Env Sl Own Gr Fr Cells S)
theorem mixed : Try.prog.follows .mixedOrders = true := by kernel_rfl
def T : V.Tab := [(1, .fn), (2, .int .i64), (3, .int .i64), (4, .bool), (5, .int .u8), (6, .int .u8), (7, .struct 4 [(2, 0, 1, false), (3, 1, 1, false), (4, 2, 1, false), (6, 3, 1, false)]), (8, .struct 4 [(2, 0, 1, false), (3, 1, 1, false), (4, 2, 1, false), (6, 3, 1, false)]), (9, .str), (10, .str), (11, .str), (12, .int .u64), (13, .struct 2 [(9, 0, 1, false), (12, 1, 1, false)]), (14, .struct 2 [(9, 0, 1, false), (12, 1, 1, false)]), (21, .int .i32), (22, .int .i64), (23, .sl 56), (24, .sl 5), (26, .struct 2 [(3, 0, 1, false), (3, 1, 1, false)]), (27, .int .i64), (29, .struct 5 [(3, 0, 1, false), (3, 1, 1, false), (9, 2, 1, false), (26, 3, 2, true)]), (31, .struct 2 [(9, 0, 1, false), (9, 1, 1, false)]), (32, .sl 60), (34, .struct 22 [(27, 0, 1, false), (3, 1, 1, false), (3, 2, 1, false), (3, 3, 1, false), (29, 4, 5, true), (3, 9, 1, false), (31, 10, 2, true), (9, 12, 1, false), (4, 13, 1, false), (26, 14, 2, true), (26, 16, 2, true), (4, 18, 1, false), (4, 19, 1, false), (32, 20, 1, false), (3, 21, 1, false)]), (35, .int .i64), (36, .sl 58), (37, .int .i64), (39, .struct 8 [(3, 0, 1, false), (3, 1, 1, false), (37, 2, 1, false), (26, 3, 2, true), (26, 5, 2, true), (32, 7, 1, false)]), (41, .struct 18 [(35, 0, 1, false), (26, 1, 2, true), (36, 3, 1, false), (4, 4, 1, false), (29, 5, 5, true), (39, 10, 8, true)]), (43, .struct 53 [(22, 0, 1, false), (3, 1, 1, false), (3, 2, 1, false), (3, 3, 1, false), (3, 4, 1, false), (3, 5, 1, false), (3, 6, 1, false), (3, 7, 1, false), (4, 8, 1, false), (23, 9, 1, false), (24, 10, 1, false), (26, 11, 2, true), (34, 13, 22, true), (41, 35, 18, true)]), (50, .int .u64), (56, .struct 2 [(3, 0, 1, false), (24, 1, 1, false)]), (58, .struct 2 [(9, 0, 1, false), (9, 1, 1, false)]), (60, .struct 2 [(9, 0, 1, false), (3, 1, 1, false)]), (62, .ptr 66), (63, .ptr 104), (66, .struct 2 [(63, 0, 1, false), (4, 1, 1, false)]), (67, .ptr 3), (68, .sl 67), (71, .ptr 4), (72, .fn), (75, .ptr 9), (77, .ptr 26), (79, .ptr 34), (82, .fn), (84, .fn), (85, .sl 3), (96, .fn), (104, .struct 1 [(24, 0, 1, false)]), (108, .fn), (113, .fn), (117, .fn), (118, .ptr 120), (120, .struct 2 [(63, 0, 1, false), (4, 1, 1, false)]), (121, .sl 75), (124, .ptr 39), (127, .fn), (128, .sl 9), (131, .int .u32), (146, .struct 4 [(4, 0, 1, false), (4, 1, 1, false), (4, 2, 1, false), (4, 3, 1, false)]), (148, .map 27 146), (151, .sl 84), (155, .fn), (156, .sl 26), (159, .map 9 160), (160, .struct 0 []), (163, .fn), (164, .map 9 3)]
theorem T_ok : V.tabB Try.prog T = true := by kernel_rfl
theorem sz3 : V.sizeT Try.prog 3 = some 1 := by kernel_rfl
theorem sz4 : V.sizeT Try.prog 4 = some 1 := by kernel_rfl
theorem sz5 : V.sizeT Try.prog 5 = some 1 := by kernel_rfl
theorem sz9 : V.sizeT Try.prog 9 = some 1 := by kernel_rfl
theorem sz22 : V.sizeT Try.prog 22 = some 1 := by kernel_rfl
theorem sz23 : V.sizeT Try.prog 23 = some 1 := by kernel_rfl
theorem sz24 : V.sizeT Try.prog 24 = some 1 := by kernel_rfl
theorem sz26 : V.sizeT Try.prog 26 = some 2 := by kernel_rfl
theorem sz27 : V.sizeT Try.prog 27 = some 1 := by kernel_rfl
theorem sz32 : V.sizeT Try.prog 32 = some 1 := by kernel_rfl
theorem sz34 : V.sizeT Try.prog 34 = some 22 := by kernel_rfl
theorem sz35 : V.sizeT Try.prog 35 = some 1 := by kernel_rfl
theorem sz36 : V.sizeT Try.prog 36 = some 1 := by kernel_rfl
theorem sz37 : V.sizeT Try.prog 37 = some 1 := by kernel_rfl
theorem sz39 : V.sizeT Try.prog 39 = some 8 := by kernel_rfl
theorem sz41 : V.sizeT Try.prog 41 = some 18 := by kernel_rfl
theorem sz43 : V.sizeT Try.prog 43 = some 53 := by kernel_rfl
theorem sz56 : V.sizeT Try.prog 56 = some 2 := by kernel_rfl
theorem sz58 : V.sizeT Try.prog 58 = some 2 := by kernel_rfl
theorem sz60 : V.sizeT Try.prog 60 = some 2 := by kernel_rfl
theorem sz67 : V.sizeT Try.prog 67 = some 1 := by kernel_rfl
theorem sz75 : V.sizeT Try.prog 75 = some 1 := by kernel_rfl
theorem sz84 : V.sizeT Try.prog 84 = some 1 := by kernel_rfl
theorem sz104 : V.sizeT Try.prog 104 = some 1 := by kernel_rfl
theorem sz146 : V.sizeT Try.prog 146 = some 4 := by kernel_rfl
theorem zero3 : V.zeroT Try.prog 3 = some (.int .i64 0) := by kernel_rfl
theorem zero5 : V.zeroT Try.prog 5 = some (.int .u8 0) := by kernel_rfl
theorem zero9 : V.zeroT Try.prog 9 = some (.string ByteArray.empty) := by kernel_rfl
theorem zero24 : V.zeroT Try.prog 24 = some (.slice none 0 0) := by kernel_rfl
theorem zero26 : V.zeroT Try.prog 26 = some (.agg #[(.int .i64 0), (.int .i64 0)]) := by kernel_rfl
theorem zero31 : V.zeroT Try.prog 31 = some (.agg #[(.string ByteArray.empty), (.string ByteArray.empty)]) := by kernel_rfl
theorem zero34 : V.zeroT Try.prog 34 = some (.agg #[(.int .i64 0), (.int .i64 0), (.int .i64 0), (.int .i64 0), (.int .i64 0), (.int .i64 0), (.string ByteArray.empty), (.int .i64 0), (.int .i64 0), (.int .i64 0), (.string ByteArray.empty), (.string ByteArray.empty), (.string ByteArray.empty), (.bool false), (.int .i64 0), (.int .i64 0), (.int .i64 0), (.int .i64 0), (.bool false), (.bool false), (.slice none 0 0), (.int .i64 0)]) := by kernel_rfl
theorem zero35 : V.zeroT Try.prog 35 = some (.int .i64 0) := by kernel_rfl
theorem zero39 : V.zeroT Try.prog 39 = some (.agg #[(.int .i64 0), (.int .i64 0), (.int .i64 0), (.int .i64 0), (.int .i64 0), (.int .i64 0), (.int .i64 0), (.slice none 0 0)]) := by kernel_rfl
theorem zero41 : V.zeroT Try.prog 41 = some (.agg #[(.int .i64 0), (.int .i64 0), (.int .i64 0), (.slice none 0 0), (.bool false), (.int .i64 0), (.int .i64 0), (.string ByteArray.empty), (.int .i64 0), (.int .i64 0), (.int .i64 0), (.int .i64 0), (.int .i64 0), (.int .i64 0), (.int .i64 0), (.int .i64 0), (.int .i64 0), (.slice none 0 0)]) := by kernel_rfl
theorem zero43 : V.zeroT Try.prog 43 = some (.agg #[(.int .i64 0), (.int .i64 0), (.int .i64 0), (.int .i64 0), (.int .i64 0), (.int .i64 0), (.int .i64 0), (.int .i64 0), (.bool false), (.slice none 0 0), (.slice none 0 0), (.int .i64 0), (.int .i64 0), (.int .i64 0), (.int .i64 0), (.int .i64 0), (.int .i64 0), (.int .i64 0), (.int .i64 0), (.string ByteArray.empty), (.int .i64 0), (.int .i64 0), (.int .i64 0), (.string ByteArray.empty), (.string ByteArray.empty), (.string ByteArray.empty), (.bool false), (.int .i64 0), (.int .i64 0), (.int .i64 0), (.int .i64 0), (.bool false), (.bool false), (.slice none 0 0), (.int .i64 0), (.int .i64 0), (.int .i64 0), (.int .i64 0), (.slice none 0 0), (.bool false), (.int .i64 0), (.int .i64 0), (.string ByteArray.empty), (.int .i64 0), (.int .i64 0), (.int .i64 0), (.int .i64 0), (.int .i64 0), (.int .i64 0), (.int .i64 0), (.int .i64 0), (.int .i64 0), (.slice none 0 0)]) := by kernel_rfl
theorem zero56 : V.zeroT Try.prog 56 = some (.agg #[(.int .i64 0), (.slice none 0 0)]) := by kernel_rfl
theorem zero58 : V.zeroT Try.prog 58 = some (.agg #[(.string ByteArray.empty), (.string ByteArray.empty)]) := by kernel_rfl
theorem zero60 : V.zeroT Try.prog 60 = some (.agg #[(.string ByteArray.empty), (.int .i64 0)]) := by kernel_rfl
theorem zero66 : V.zeroT Try.prog 66 = some (.agg #[(.pointer none), (.bool false)]) := by kernel_rfl
theorem zero67 : V.zeroT Try.prog 67 = some (.pointer none) := by kernel_rfl
theorem zero75 : V.zeroT Try.prog 75 = some (.pointer none) := by kernel_rfl
theorem zero84 : V.zeroT Try.prog 84 = some (.nilFunc) := by kernel_rfl
theorem zero104 : V.zeroT Try.prog 104 = some (.agg #[(.slice none 0 0)]) := by kernel_rfl
theorem zero120 : V.zeroT Try.prog 120 = some (.agg #[(.pointer none), (.bool false)]) := by kernel_rfl
theorem zero146 : V.zeroT Try.prog 146 = some (.agg #[(.bool false), (.bool false), (.bool false), (.bool false)]) := by kernel_rfl
theorem zero160 : V.zeroT Try.prog 160 = some (.agg #[]) := by kernel_rfl
theorem elT23_23 : V.ElemT Try.prog 23 23 2 32 (.agg #[(.int .i64 0), (.slice none 0 0)]) 56 := by
  have h : (Try.prog.info? 56).map (fun i => (i.zero, i.size, i.bytes)) = some (some (.agg #[(.int .i64 0), (.slice none 0 0)]), 2, 32) := by kernel_rfl
  obtain ⟨i, h1, h2, h3, h4⟩ := info_parts h
  exact ⟨Try.underlying23, ⟨i, h1, h2, h3, h4⟩, rfl⟩
theorem elT24_9 : V.ElemT Try.prog 24 9 1 1 (.int .u8 0) 5 := by
  have h : (Try.prog.info? 5).map (fun i => (i.zero, i.size, i.bytes)) = some (some (.int .u8 0), 1, 1) := by kernel_rfl
  obtain ⟨i, h1, h2, h3, h4⟩ := info_parts h
  exact ⟨Try.underlying24, ⟨i, h1, h2, h3, h4⟩, rfl⟩
theorem elT24_24 : V.ElemT Try.prog 24 24 1 1 (.int .u8 0) 5 := by
  have h : (Try.prog.info? 5).map (fun i => (i.zero, i.size, i.bytes)) = some (some (.int .u8 0), 1, 1) := by kernel_rfl
  obtain ⟨i, h1, h2, h3, h4⟩ := info_parts h
  exact ⟨Try.underlying24, ⟨i, h1, h2, h3, h4⟩, rfl⟩
theorem elT32_32 : V.ElemT Try.prog 32 32 2 24 (.agg #[(.string ByteArray.empty), (.int .i64 0)]) 60 := by
  have h : (Try.prog.info? 60).map (fun i => (i.zero, i.size, i.bytes)) = some (some (.agg #[(.string ByteArray.empty), (.int .i64 0)]), 2, 24) := by kernel_rfl
  obtain ⟨i, h1, h2, h3, h4⟩ := info_parts h
  exact ⟨Try.underlying32, ⟨i, h1, h2, h3, h4⟩, rfl⟩
theorem elT36_36 : V.ElemT Try.prog 36 36 2 32 (.agg #[(.string ByteArray.empty), (.string ByteArray.empty)]) 58 := by
  have h : (Try.prog.info? 58).map (fun i => (i.zero, i.size, i.bytes)) = some (some (.agg #[(.string ByteArray.empty), (.string ByteArray.empty)]), 2, 32) := by kernel_rfl
  obtain ⟨i, h1, h2, h3, h4⟩ := info_parts h
  exact ⟨Try.underlying36, ⟨i, h1, h2, h3, h4⟩, rfl⟩
-- the closed facts of this translation
end Go.Proofs.Ytooiimhcfgjbgaa
