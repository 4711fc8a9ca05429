/- Proved here: closed facts of this seat's program: its types' sizes, kinds and zero values. No condition. -/
import Derived.Test.YtbpfojlnndkaoaaDoorProg
import Derived.Test.YtbpfojlnndkaoaaDoorVX
namespace Go.Proofs.YtbpfojlnndkaoaaDoor
set_option linter.unusedVariables false
set_option linter.unusedSimpArgs false
open Go
open V (Bytes Meets Env Sl Own Gr Fr Cells S)
theorem mixed : Tryd.prog.follows .mixedOrders = true := by kernel_rfl
def T : V.Tab := [(1, .fn), (2, .int .i64), (3, .int .i64), (4, .bool), (5, .int .u8), (9, .str), (23, .struct 2 [(3, 0, 1, false), (3, 1, 1, false)]), (32, .int .i64), (37, .sl 5), (38, .ptr 57), (40, .ptr 46), (46, .struct 3 [(37, 0, 1, false), (3, 1, 1, false), (4, 2, 1, false)]), (57, .struct 1 [(37, 0, 1, false)]), (62, .sl 3), (65, .int .u64), (68, .int .u64), (70, .arr 24 5 1 false), (77, .arr 20 65 1 false), (78, .int .u32), (79, .arr 65 5 1 false), (82, .arr 32 5 1 false), (83, .arr 64 5 1 false)]
theorem T_ok : V.tabB Tryd.prog T = true := by kernel_rfl
theorem sz3 : V.sizeT Tryd.prog 3 = some 1 := by kernel_rfl
theorem sz4 : V.sizeT Tryd.prog 4 = some 1 := by kernel_rfl
theorem sz5 : V.sizeT Tryd.prog 5 = some 1 := by kernel_rfl
theorem sz23 : V.sizeT Tryd.prog 23 = some 2 := by kernel_rfl
theorem sz37 : V.sizeT Tryd.prog 37 = some 1 := by kernel_rfl
theorem sz57 : V.sizeT Tryd.prog 57 = some 1 := by kernel_rfl
theorem sz65 : V.sizeT Tryd.prog 65 = some 1 := by kernel_rfl
theorem sz77 : V.sizeT Tryd.prog 77 = some 20 := by kernel_rfl
theorem sz82 : V.sizeT Tryd.prog 82 = some 32 := by kernel_rfl
theorem sz83 : V.sizeT Tryd.prog 83 = some 64 := by kernel_rfl
theorem zero3 : V.zeroT Tryd.prog 3 = some (.int .i64 0) := by kernel_rfl
theorem zero5 : V.zeroT Tryd.prog 5 = some (.int .u8 0) := by kernel_rfl
theorem zero23 : V.zeroT Tryd.prog 23 = some (.agg #[(.int .i64 0), (.int .i64 0)]) := by kernel_rfl
theorem zero46 : V.zeroT Tryd.prog 46 = some (.agg #[(.slice none 0 0), (.int .i64 0), (.bool false)]) := by kernel_rfl
theorem zero57 : V.zeroT Tryd.prog 57 = some (.agg #[(.slice none 0 0)]) := by kernel_rfl
theorem zero70 : V.zeroT Tryd.prog 70 = some (.agg #[(.int .u8 0), (.int .u8 0), (.int .u8 0), (.int .u8 0), (.int .u8 0), (.int .u8 0), (.int .u8 0), (.int .u8 0), (.int .u8 0), (.int .u8 0), (.int .u8 0), (.int .u8 0), (.int .u8 0), (.int .u8 0), (.int .u8 0), (.int .u8 0), (.int .u8 0), (.int .u8 0), (.int .u8 0), (.int .u8 0), (.int .u8 0), (.int .u8 0), (.int .u8 0), (.int .u8 0)]) := by kernel_rfl
theorem zero77 : V.zeroT Tryd.prog 77 = some (.agg #[(.int .u64 0), (.int .u64 0), (.int .u64 0), (.int .u64 0), (.int .u64 0), (.int .u64 0), (.int .u64 0), (.int .u64 0), (.int .u64 0), (.int .u64 0), (.int .u64 0), (.int .u64 0), (.int .u64 0), (.int .u64 0), (.int .u64 0), (.int .u64 0), (.int .u64 0), (.int .u64 0), (.int .u64 0), (.int .u64 0)]) := by kernel_rfl
theorem zero79 : V.zeroT Tryd.prog 79 = some (.agg #[(.int .u8 0), (.int .u8 0), (.int .u8 0), (.int .u8 0), (.int .u8 0), (.int .u8 0), (.int .u8 0), (.int .u8 0), (.int .u8 0), (.int .u8 0), (.int .u8 0), (.int .u8 0), (.int .u8 0), (.int .u8 0), (.int .u8 0), (.int .u8 0), (.int .u8 0), (.int .u8 0), (.int .u8 0), (.int .u8 0), (.int .u8 0), (.int .u8 0), (.int .u8 0), (.int .u8 0), (.int .u8 0), (.int .u8 0), (.int .u8 0), (.int .u8 0), (.int .u8 0), (.int .u8 0), (.int .u8 0), (.int .u8 0), (.int .u8 0), (.int .u8 0), (.int .u8 0), (.int .u8 0), (.int .u8 0), (.int .u8 0), (.int .u8 0), (.int .u8 0), (.int .u8 0), (.int .u8 0), (.int .u8 0), (.int .u8 0), (.int .u8 0), (.int .u8 0), (.int .u8 0), (.int .u8 0), (.int .u8 0), (.int .u8 0), (.int .u8 0), (.int .u8 0), (.int .u8 0), (.int .u8 0), (.int .u8 0), (.int .u8 0), (.int .u8 0), (.int .u8 0), (.int .u8 0), (.int .u8 0), (.int .u8 0), (.int .u8 0), (.int .u8 0), (.int .u8 0), (.int .u8 0)]) := by kernel_rfl
theorem zero82 : V.zeroT Tryd.prog 82 = some (.agg #[(.int .u8 0), (.int .u8 0), (.int .u8 0), (.int .u8 0), (.int .u8 0), (.int .u8 0), (.int .u8 0), (.int .u8 0), (.int .u8 0), (.int .u8 0), (.int .u8 0), (.int .u8 0), (.int .u8 0), (.int .u8 0), (.int .u8 0), (.int .u8 0), (.int .u8 0), (.int .u8 0), (.int .u8 0), (.int .u8 0), (.int .u8 0), (.int .u8 0), (.int .u8 0), (.int .u8 0), (.int .u8 0), (.int .u8 0), (.int .u8 0), (.int .u8 0), (.int .u8 0), (.int .u8 0), (.int .u8 0), (.int .u8 0)]) := by kernel_rfl
theorem zero83 : V.zeroT Tryd.prog 83 = some (.agg #[(.int .u8 0), (.int .u8 0), (.int .u8 0), (.int .u8 0), (.int .u8 0), (.int .u8 0), (.int .u8 0), (.int .u8 0), (.int .u8 0), (.int .u8 0), (.int .u8 0), (.int .u8 0), (.int .u8 0), (.int .u8 0), (.int .u8 0), (.int .u8 0), (.int .u8 0), (.int .u8 0), (.int .u8 0), (.int .u8 0), (.int .u8 0), (.int .u8 0), (.int .u8 0), (.int .u8 0), (.int .u8 0), (.int .u8 0), (.int .u8 0), (.int .u8 0), (.int .u8 0), (.int .u8 0), (.int .u8 0), (.int .u8 0), (.int .u8 0), (.int .u8 0), (.int .u8 0), (.int .u8 0), (.int .u8 0), (.int .u8 0), (.int .u8 0), (.int .u8 0), (.int .u8 0), (.int .u8 0), (.int .u8 0), (.int .u8 0), (.int .u8 0), (.int .u8 0), (.int .u8 0), (.int .u8 0), (.int .u8 0), (.int .u8 0), (.int .u8 0), (.int .u8 0), (.int .u8 0), (.int .u8 0), (.int .u8 0), (.int .u8 0), (.int .u8 0), (.int .u8 0), (.int .u8 0), (.int .u8 0), (.int .u8 0), (.int .u8 0), (.int .u8 0), (.int .u8 0)]) := by kernel_rfl
theorem elT37_37 : V.ElemT Tryd.prog 37 37 1 1 (.int .u8 0) 5 := by
  have h : (Tryd.prog.info? 5).map (fun i => (i.zero, i.size, i.bytes)) = some (some (.int .u8 0), 1, 1) := by kernel_rfl
  obtain ⟨i, h1, h2, h3, h4⟩ := info_parts h
  exact ⟨Tryd.underlying37, ⟨i, h1, h2, h3, h4⟩, rfl⟩
-- the closed facts of this translation
end Go.Proofs.YtbpfojlnndkaoaaDoor
