/- Proved here: closed facts of this seat's program: its types' sizes, kinds and zero values. No condition. -/
import Derived.Test.YtmmgmkklakkooaaGreatProg
import Derived.Test.YtmmgmkklakkooaaGreatVX
namespace Go.Proofs.YtmmgmkklakkooaaGreat
set_option linter.unusedVariables false
set_option linter.unusedSimpArgs false
open Go
open V (Bytes Meets Env Sl Own Gr Fr Cells S)
theorem mixed : Tryz.prog.follows .mixedOrders = true := by kernel_rfl
def T : V.Tab := [(1, .fn), (2, .int .i64), (3, .int .i64), (4, .bool), (5, .int .u8), (6, .int .u8), (7, .struct 4 [(2, 0, 1, false), (3, 1, 1, false), (4, 2, 1, false), (6, 3, 1, false)]), (8, .struct 4 [(2, 0, 1, false), (3, 1, 1, false), (4, 2, 1, false), (6, 3, 1, false)]), (9, .str), (10, .str), (11, .str), (12, .int .u64), (13, .struct 2 [(9, 0, 1, false), (12, 1, 1, false)]), (14, .struct 2 [(9, 0, 1, false), (12, 1, 1, false)]), (21, .int .i32), (22, .sl 52), (23, .ptr 72), (25, .ptr 28), (26, .sl 31), (28, .struct 1 [(26, 0, 1, false)]), (29, .int .i64), (30, .sl 74), (31, .sl 5), (33, .struct 2 [(3, 0, 1, false), (3, 1, 1, false)]), (34, .int .i64), (36, .struct 5 [(3, 0, 1, false), (3, 1, 1, false), (9, 2, 1, false), (33, 3, 2, true)]), (38, .struct 2 [(9, 0, 1, false), (9, 1, 1, false)]), (39, .sl 78), (41, .struct 22 [(34, 0, 1, false), (3, 1, 1, false), (3, 2, 1, false), (3, 3, 1, false), (36, 4, 5, true), (3, 9, 1, false), (38, 10, 2, true), (9, 12, 1, false), (4, 13, 1, false), (33, 14, 2, true), (33, 16, 2, true), (4, 18, 1, false), (4, 19, 1, false), (39, 20, 1, false), (3, 21, 1, false)]), (42, .int .i64), (43, .sl 76), (44, .int .i64), (46, .struct 8 [(3, 0, 1, false), (3, 1, 1, false), (44, 2, 1, false), (33, 3, 2, true), (33, 5, 2, true), (39, 7, 1, false)]), (48, .struct 18 [(42, 0, 1, false), (33, 1, 2, true), (43, 3, 1, false), (4, 4, 1, false), (36, 5, 5, true), (46, 10, 8, true)]), (50, .struct 53 [(29, 0, 1, false), (3, 1, 1, false), (3, 2, 1, false), (3, 3, 1, false), (3, 4, 1, false), (3, 5, 1, false), (3, 6, 1, false), (3, 7, 1, false), (4, 8, 1, false), (30, 9, 1, false), (31, 10, 1, false), (33, 11, 2, true), (41, 13, 22, true), (48, 35, 18, true)]), (52, .struct 56 [(3, 0, 1, false), (3, 1, 1, false), (3, 2, 1, false), (50, 3, 53, true)]), (67, .sl 50), (68, .sl 3), (72, .struct 1 [(26, 0, 1, false)]), (74, .struct 2 [(3, 0, 1, false), (31, 1, 1, false)]), (76, .struct 2 [(9, 0, 1, false), (9, 1, 1, false)]), (78, .struct 2 [(9, 0, 1, false), (3, 1, 1, false)]), (88, .int .u64), (92, .fn), (101, .ptr 105), (102, .ptr 152), (105, .struct 2 [(102, 0, 1, false), (4, 1, 1, false)]), (106, .ptr 3), (107, .sl 106), (110, .ptr 4), (111, .fn), (114, .ptr 9), (116, .ptr 33), (118, .ptr 41), (121, .fn), (123, .fn), (124, .ptr 128), (128, .struct 3 [(31, 0, 1, false), (3, 1, 1, false), (4, 2, 1, false)]), (137, .sl 9), (140, .int .u32), (152, .struct 1 [(31, 0, 1, false)]), (156, .fn), (161, .fn), (165, .fn), (166, .ptr 168), (168, .struct 2 [(102, 0, 1, false), (4, 1, 1, false)]), (169, .sl 114), (172, .ptr 46), (175, .fn), (183, .struct 4 [(4, 0, 1, false), (4, 1, 1, false), (4, 2, 1, false), (4, 3, 1, false)]), (185, .map 34 183), (191, .fn), (203, .sl 123), (204, .sl 33), (206, .map 9 207), (207, .struct 0 []), (210, .fn), (211, .map 9 3)]
theorem T_ok : V.tabB Tryz.prog T = true := by kernel_rfl
theorem sz3 : V.sizeT Tryz.prog 3 = some 1 := by kernel_rfl
theorem sz4 : V.sizeT Tryz.prog 4 = some 1 := by kernel_rfl
theorem sz5 : V.sizeT Tryz.prog 5 = some 1 := by kernel_rfl
theorem sz9 : V.sizeT Tryz.prog 9 = some 1 := by kernel_rfl
theorem sz26 : V.sizeT Tryz.prog 26 = some 1 := by kernel_rfl
theorem sz29 : V.sizeT Tryz.prog 29 = some 1 := by kernel_rfl
theorem sz30 : V.sizeT Tryz.prog 30 = some 1 := by kernel_rfl
theorem sz31 : V.sizeT Tryz.prog 31 = some 1 := by kernel_rfl
theorem sz33 : V.sizeT Tryz.prog 33 = some 2 := by kernel_rfl
theorem sz34 : V.sizeT Tryz.prog 34 = some 1 := by kernel_rfl
theorem sz39 : V.sizeT Tryz.prog 39 = some 1 := by kernel_rfl
theorem sz41 : V.sizeT Tryz.prog 41 = some 22 := by kernel_rfl
theorem sz42 : V.sizeT Tryz.prog 42 = some 1 := by kernel_rfl
theorem sz43 : V.sizeT Tryz.prog 43 = some 1 := by kernel_rfl
theorem sz44 : V.sizeT Tryz.prog 44 = some 1 := by kernel_rfl
theorem sz46 : V.sizeT Tryz.prog 46 = some 8 := by kernel_rfl
theorem sz48 : V.sizeT Tryz.prog 48 = some 18 := by kernel_rfl
theorem sz50 : V.sizeT Tryz.prog 50 = some 53 := by kernel_rfl
theorem sz74 : V.sizeT Tryz.prog 74 = some 2 := by kernel_rfl
theorem sz76 : V.sizeT Tryz.prog 76 = some 2 := by kernel_rfl
theorem sz78 : V.sizeT Tryz.prog 78 = some 2 := by kernel_rfl
theorem sz106 : V.sizeT Tryz.prog 106 = some 1 := by kernel_rfl
theorem sz114 : V.sizeT Tryz.prog 114 = some 1 := by kernel_rfl
theorem sz123 : V.sizeT Tryz.prog 123 = some 1 := by kernel_rfl
theorem sz152 : V.sizeT Tryz.prog 152 = some 1 := by kernel_rfl
theorem sz183 : V.sizeT Tryz.prog 183 = some 4 := by kernel_rfl
theorem zero3 : V.zeroT Tryz.prog 3 = some (.int .i64 0) := by kernel_rfl
theorem zero5 : V.zeroT Tryz.prog 5 = some (.int .u8 0) := by kernel_rfl
theorem zero9 : V.zeroT Tryz.prog 9 = some (.string ByteArray.empty) := by kernel_rfl
theorem zero31 : V.zeroT Tryz.prog 31 = some (.slice none 0 0) := by kernel_rfl
theorem zero33 : V.zeroT Tryz.prog 33 = some (.agg #[(.int .i64 0), (.int .i64 0)]) := by kernel_rfl
theorem zero38 : V.zeroT Tryz.prog 38 = some (.agg #[(.string ByteArray.empty), (.string ByteArray.empty)]) := by kernel_rfl
theorem zero41 : V.zeroT Tryz.prog 41 = some (.agg #[(.int .i64 0), (.int .i64 0), (.int .i64 0), (.int .i64 0), (.int .i64 0), (.int .i64 0), (.string ByteArray.empty), (.int .i64 0), (.int .i64 0), (.int .i64 0), (.string ByteArray.empty), (.string ByteArray.empty), (.string ByteArray.empty), (.bool false), (.int .i64 0), (.int .i64 0), (.int .i64 0), (.int .i64 0), (.bool false), (.bool false), (.slice none 0 0), (.int .i64 0)]) := by kernel_rfl
theorem zero42 : V.zeroT Tryz.prog 42 = some (.int .i64 0) := by kernel_rfl
theorem zero46 : V.zeroT Tryz.prog 46 = some (.agg #[(.int .i64 0), (.int .i64 0), (.int .i64 0), (.int .i64 0), (.int .i64 0), (.int .i64 0), (.int .i64 0), (.slice none 0 0)]) := by kernel_rfl
theorem zero48 : V.zeroT Tryz.prog 48 = some (.agg #[(.int .i64 0), (.int .i64 0), (.int .i64 0), (.slice none 0 0), (.bool false), (.int .i64 0), (.int .i64 0), (.string ByteArray.empty), (.int .i64 0), (.int .i64 0), (.int .i64 0), (.int .i64 0), (.int .i64 0), (.int .i64 0), (.int .i64 0), (.int .i64 0), (.int .i64 0), (.slice none 0 0)]) := by kernel_rfl
theorem zero50 : V.zeroT Tryz.prog 50 = some (.agg #[(.int .i64 0), (.int .i64 0), (.int .i64 0), (.int .i64 0), (.int .i64 0), (.int .i64 0), (.int .i64 0), (.int .i64 0), (.bool false), (.slice none 0 0), (.slice none 0 0), (.int .i64 0), (.int .i64 0), (.int .i64 0), (.int .i64 0), (.int .i64 0), (.int .i64 0), (.int .i64 0), (.int .i64 0), (.string ByteArray.empty), (.int .i64 0), (.int .i64 0), (.int .i64 0), (.string ByteArray.empty), (.string ByteArray.empty), (.string ByteArray.empty), (.bool false), (.int .i64 0), (.int .i64 0), (.int .i64 0), (.int .i64 0), (.bool false), (.bool false), (.slice none 0 0), (.int .i64 0), (.int .i64 0), (.int .i64 0), (.int .i64 0), (.slice none 0 0), (.bool false), (.int .i64 0), (.int .i64 0), (.string ByteArray.empty), (.int .i64 0), (.int .i64 0), (.int .i64 0), (.int .i64 0), (.int .i64 0), (.int .i64 0), (.int .i64 0), (.int .i64 0), (.int .i64 0), (.slice none 0 0)]) := by kernel_rfl
theorem zero72 : V.zeroT Tryz.prog 72 = some (.agg #[(.slice none 0 0)]) := by kernel_rfl
theorem zero74 : V.zeroT Tryz.prog 74 = some (.agg #[(.int .i64 0), (.slice none 0 0)]) := by kernel_rfl
theorem zero76 : V.zeroT Tryz.prog 76 = some (.agg #[(.string ByteArray.empty), (.string ByteArray.empty)]) := by kernel_rfl
theorem zero78 : V.zeroT Tryz.prog 78 = some (.agg #[(.string ByteArray.empty), (.int .i64 0)]) := by kernel_rfl
theorem zero105 : V.zeroT Tryz.prog 105 = some (.agg #[(.pointer none), (.bool false)]) := by kernel_rfl
theorem zero106 : V.zeroT Tryz.prog 106 = some (.pointer none) := by kernel_rfl
theorem zero114 : V.zeroT Tryz.prog 114 = some (.pointer none) := by kernel_rfl
theorem zero123 : V.zeroT Tryz.prog 123 = some (.nilFunc) := by kernel_rfl
theorem zero152 : V.zeroT Tryz.prog 152 = some (.agg #[(.slice none 0 0)]) := by kernel_rfl
theorem zero168 : V.zeroT Tryz.prog 168 = some (.agg #[(.pointer none), (.bool false)]) := by kernel_rfl
theorem zero183 : V.zeroT Tryz.prog 183 = some (.agg #[(.bool false), (.bool false), (.bool false), (.bool false)]) := by kernel_rfl
theorem zero207 : V.zeroT Tryz.prog 207 = some (.agg #[]) := by kernel_rfl
theorem elT26_26 : V.ElemT Tryz.prog 26 26 1 24 (.slice none 0 0) 31 := by
  have h : (Tryz.prog.info? 31).map (fun i => (i.zero, i.size, i.bytes)) = some (some (.slice none 0 0), 1, 24) := by kernel_rfl
  obtain ⟨i, h1, h2, h3, h4⟩ := info_parts h
  exact ⟨Tryz.underlying26, ⟨i, h1, h2, h3, h4⟩, rfl⟩
theorem elT30_30 : V.ElemT Tryz.prog 30 30 2 32 (.agg #[(.int .i64 0), (.slice none 0 0)]) 74 := by
  have h : (Tryz.prog.info? 74).map (fun i => (i.zero, i.size, i.bytes)) = some (some (.agg #[(.int .i64 0), (.slice none 0 0)]), 2, 32) := by kernel_rfl
  obtain ⟨i, h1, h2, h3, h4⟩ := info_parts h
  exact ⟨Tryz.underlying30, ⟨i, h1, h2, h3, h4⟩, rfl⟩
theorem elT31_9 : V.ElemT Tryz.prog 31 9 1 1 (.int .u8 0) 5 := by
  have h : (Tryz.prog.info? 5).map (fun i => (i.zero, i.size, i.bytes)) = some (some (.int .u8 0), 1, 1) := by kernel_rfl
  obtain ⟨i, h1, h2, h3, h4⟩ := info_parts h
  exact ⟨Tryz.underlying31, ⟨i, h1, h2, h3, h4⟩, rfl⟩
theorem elT31_31 : V.ElemT Tryz.prog 31 31 1 1 (.int .u8 0) 5 := by
  have h : (Tryz.prog.info? 5).map (fun i => (i.zero, i.size, i.bytes)) = some (some (.int .u8 0), 1, 1) := by kernel_rfl
  obtain ⟨i, h1, h2, h3, h4⟩ := info_parts h
  exact ⟨Tryz.underlying31, ⟨i, h1, h2, h3, h4⟩, rfl⟩
theorem elT39_39 : V.ElemT Tryz.prog 39 39 2 24 (.agg #[(.string ByteArray.empty), (.int .i64 0)]) 78 := by
  have h : (Tryz.prog.info? 78).map (fun i => (i.zero, i.size, i.bytes)) = some (some (.agg #[(.string ByteArray.empty), (.int .i64 0)]), 2, 24) := by kernel_rfl
  obtain ⟨i, h1, h2, h3, h4⟩ := info_parts h
  exact ⟨Tryz.underlying39, ⟨i, h1, h2, h3, h4⟩, rfl⟩
theorem elT43_43 : V.ElemT Tryz.prog 43 43 2 32 (.agg #[(.string ByteArray.empty), (.string ByteArray.empty)]) 76 := by
  have h : (Tryz.prog.info? 76).map (fun i => (i.zero, i.size, i.bytes)) = some (some (.agg #[(.string ByteArray.empty), (.string ByteArray.empty)]), 2, 32) := by kernel_rfl
  obtain ⟨i, h1, h2, h3, h4⟩ := info_parts h
  exact ⟨Tryz.underlying43, ⟨i, h1, h2, h3, h4⟩, rfl⟩
theorem elT67_67 : V.ElemT Tryz.prog 67 67 53 536 (.agg #[(.int .i64 0), (.int .i64 0), (.int .i64 0), (.int .i64 0), (.int .i64 0), (.int .i64 0), (.int .i64 0), (.int .i64 0), (.bool false), (.slice none 0 0), (.slice none 0 0), (.int .i64 0), (.int .i64 0), (.int .i64 0), (.int .i64 0), (.int .i64 0), (.int .i64 0), (.int .i64 0), (.int .i64 0), (.string ByteArray.empty), (.int .i64 0), (.int .i64 0), (.int .i64 0), (.string ByteArray.empty), (.string ByteArray.empty), (.string ByteArray.empty), (.bool false), (.int .i64 0), (.int .i64 0), (.int .i64 0), (.int .i64 0), (.bool false), (.bool false), (.slice none 0 0), (.int .i64 0), (.int .i64 0), (.int .i64 0), (.int .i64 0), (.slice none 0 0), (.bool false), (.int .i64 0), (.int .i64 0), (.string ByteArray.empty), (.int .i64 0), (.int .i64 0), (.int .i64 0), (.int .i64 0), (.int .i64 0), (.int .i64 0), (.int .i64 0), (.int .i64 0), (.int .i64 0), (.slice none 0 0)]) 50 := by
  have h : (Tryz.prog.info? 50).map (fun i => (i.zero, i.size, i.bytes)) = some (some (.agg #[(.int .i64 0), (.int .i64 0), (.int .i64 0), (.int .i64 0), (.int .i64 0), (.int .i64 0), (.int .i64 0), (.int .i64 0), (.bool false), (.slice none 0 0), (.slice none 0 0), (.int .i64 0), (.int .i64 0), (.int .i64 0), (.int .i64 0), (.int .i64 0), (.int .i64 0), (.int .i64 0), (.int .i64 0), (.string ByteArray.empty), (.int .i64 0), (.int .i64 0), (.int .i64 0), (.string ByteArray.empty), (.string ByteArray.empty), (.string ByteArray.empty), (.bool false), (.int .i64 0), (.int .i64 0), (.int .i64 0), (.int .i64 0), (.bool false), (.bool false), (.slice none 0 0), (.int .i64 0), (.int .i64 0), (.int .i64 0), (.int .i64 0), (.slice none 0 0), (.bool false), (.int .i64 0), (.int .i64 0), (.string ByteArray.empty), (.int .i64 0), (.int .i64 0), (.int .i64 0), (.int .i64 0), (.int .i64 0), (.int .i64 0), (.int .i64 0), (.int .i64 0), (.int .i64 0), (.slice none 0 0)]), 53, 536) := by kernel_rfl
  obtain ⟨i, h1, h2, h3, h4⟩ := info_parts h
  exact ⟨Tryz.underlying67, ⟨i, h1, h2, h3, h4⟩, rfl⟩
-- the closed facts of this translation
end Go.Proofs.YtmmgmkklakkooaaGreat
