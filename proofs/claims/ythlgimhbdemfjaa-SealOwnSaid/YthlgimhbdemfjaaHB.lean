/- Proved here: closed facts of this seat's program: its types' sizes, kinds and zero values. No condition. -/
import Derived.Test.YthlgimhbdemfjaaProg
import Derived.Test.YthlgimhbdemfjaaVX
namespace Go.Proofs.Ythlgimhbdemfjaa
set_option linter.unusedVariables false
set_option linter.unusedSimpArgs false
open Go
open V (Bytes Meets Env Sl Own Gr Fr Cells S)
theorem mixed : Try.prog.follows .mixedOrders = true := by kernel_rfl
def T : V.Tab := [(1, .fn), (3, .int .i64), (4, .bool), (5, .int .u8), (9, .str), (22, .sl 23), (23, .sl 5), (24, .sl 3), (25, .int .i64), (29, .int .u64), (34, .int .u32), (38, .arr 2 3 1 false)]
theorem T_ok : V.tabB Try.prog T = true := by kernel_rfl
theorem sz3 : V.sizeT Try.prog 3 = some 1 := by kernel_rfl
theorem sz5 : V.sizeT Try.prog 5 = some 1 := by kernel_rfl
theorem sz22 : V.sizeT Try.prog 22 = some 1 := by kernel_rfl
theorem sz23 : V.sizeT Try.prog 23 = some 1 := by kernel_rfl
theorem sz25 : V.sizeT Try.prog 25 = some 1 := by kernel_rfl
theorem zero3 : V.zeroT Try.prog 3 = some (.int .i64 0) := by kernel_rfl
theorem zero5 : V.zeroT Try.prog 5 = some (.int .u8 0) := by kernel_rfl
theorem zero22 : V.zeroT Try.prog 22 = some (.slice none 0 0) := by kernel_rfl
theorem zero23 : V.zeroT Try.prog 23 = some (.slice none 0 0) := by kernel_rfl
theorem zero25 : V.zeroT Try.prog 25 = some (.int .i64 0) := by kernel_rfl
theorem elT22_22 : V.ElemT Try.prog 22 22 1 24 (.slice none 0 0) 23 := by
  have h : (Try.prog.info? 23).map (fun i => (i.zero, i.size, i.bytes)) = some (some (.slice none 0 0), 1, 24) := by kernel_rfl
  obtain ⟨i, h1, h2, h3, h4⟩ := info_parts h
  exact ⟨Try.underlying22, ⟨i, h1, h2, h3, h4⟩, rfl⟩
theorem elT23_23 : V.ElemT Try.prog 23 23 1 1 (.int .u8 0) 5 := by
  have h : (Try.prog.info? 5).map (fun i => (i.zero, i.size, i.bytes)) = some (some (.int .u8 0), 1, 1) := by kernel_rfl
  obtain ⟨i, h1, h2, h3, h4⟩ := info_parts h
  exact ⟨Try.underlying23, ⟨i, h1, h2, h3, h4⟩, rfl⟩
theorem elT24_24 : V.ElemT Try.prog 24 24 1 8 (.int .i64 0) 3 := by
  have h : (Try.prog.info? 3).map (fun i => (i.zero, i.size, i.bytes)) = some (some (.int .i64 0), 1, 8) := by kernel_rfl
  obtain ⟨i, h1, h2, h3, h4⟩ := info_parts h
  exact ⟨Try.underlying24, ⟨i, h1, h2, h3, h4⟩, rfl⟩
-- the closed facts of this translation
end Go.Proofs.Ythlgimhbdemfjaa
