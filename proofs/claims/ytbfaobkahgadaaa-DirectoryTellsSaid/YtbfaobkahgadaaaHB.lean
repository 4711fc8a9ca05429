/- Proved here: closed facts of this seat's program: its types' sizes, kinds and zero values. No condition. -/
import Derived.Test.YtbfaobkahgadaaaProg
import Derived.Test.YtbfaobkahgadaaaVX
namespace Go.Proofs.Ytbfaobkahgadaaa
set_option linter.unusedVariables false
set_option linter.unusedSimpArgs false
open Go
open V (Bytes Meets Env Sl Own Gr Fr Cells S)
theorem mixed : Try.prog.follows .mixedOrders = true := by kernel_rfl
def T : V.Tab := [(1, .fn), (2, .int .i64), (3, .int .i64), (4, .bool), (5, .int .u8), (9, .str), (22, .sl 9), (24, .struct 2 [(9, 0, 1, false), (9, 1, 1, false)]), (28, .ptr 58), (29, .int .i64), (32, .ptr 38), (36, .sl 24), (38, .struct 1 [(36, 0, 1, false)]), (43, .sl 48), (45, .sl 49), (48, .struct 3 [(3, 0, 1, false), (24, 1, 2, true)]), (49, .struct 3 [(3, 0, 1, false), (24, 1, 2, true)]), (51, .fn), (58, .struct 1 [(22, 0, 1, false)]), (61, .sl 22)]
theorem T_ok : V.tabB Try.prog T = true := by kernel_rfl
theorem sz3 : V.sizeT Try.prog 3 = some 1 := by kernel_rfl
theorem sz9 : V.sizeT Try.prog 9 = some 1 := by kernel_rfl
theorem sz22 : V.sizeT Try.prog 22 = some 1 := by kernel_rfl
theorem sz24 : V.sizeT Try.prog 24 = some 2 := by kernel_rfl
theorem sz36 : V.sizeT Try.prog 36 = some 1 := by kernel_rfl
theorem sz48 : V.sizeT Try.prog 48 = some 3 := by kernel_rfl
theorem sz49 : V.sizeT Try.prog 49 = some 3 := by kernel_rfl
theorem zero9 : V.zeroT Try.prog 9 = some (.string ByteArray.empty) := by kernel_rfl
theorem zero22 : V.zeroT Try.prog 22 = some (.slice none 0 0) := by kernel_rfl
theorem zero24 : V.zeroT Try.prog 24 = some (.agg #[(.string ByteArray.empty), (.string ByteArray.empty)]) := by kernel_rfl
theorem zero38 : V.zeroT Try.prog 38 = some (.agg #[(.slice none 0 0)]) := by kernel_rfl
theorem zero48 : V.zeroT Try.prog 48 = some (.agg #[(.int .i64 0), (.string ByteArray.empty), (.string ByteArray.empty)]) := by kernel_rfl
theorem zero49 : V.zeroT Try.prog 49 = some (.agg #[(.int .i64 0), (.string ByteArray.empty), (.string ByteArray.empty)]) := by kernel_rfl
theorem zero58 : V.zeroT Try.prog 58 = some (.agg #[(.slice none 0 0)]) := by kernel_rfl
theorem elT22_3 : V.ElemT Try.prog 22 3 1 16 (.string ByteArray.empty) 9 := by
  have h : (Try.prog.info? 9).map (fun i => (i.zero, i.size, i.bytes)) = some (some (.string ByteArray.empty), 1, 16) := by kernel_rfl
  obtain ⟨i, h1, h2, h3, h4⟩ := info_parts h
  exact ⟨Try.underlying22, ⟨i, h1, h2, h3, h4⟩, rfl⟩
theorem elT22_22 : V.ElemT Try.prog 22 22 1 16 (.string ByteArray.empty) 9 := by
  have h : (Try.prog.info? 9).map (fun i => (i.zero, i.size, i.bytes)) = some (some (.string ByteArray.empty), 1, 16) := by kernel_rfl
  obtain ⟨i, h1, h2, h3, h4⟩ := info_parts h
  exact ⟨Try.underlying22, ⟨i, h1, h2, h3, h4⟩, rfl⟩
theorem elT36_36 : V.ElemT Try.prog 36 36 2 32 (.agg #[(.string ByteArray.empty), (.string ByteArray.empty)]) 24 := by
  have h : (Try.prog.info? 24).map (fun i => (i.zero, i.size, i.bytes)) = some (some (.agg #[(.string ByteArray.empty), (.string ByteArray.empty)]), 2, 32) := by kernel_rfl
  obtain ⟨i, h1, h2, h3, h4⟩ := info_parts h
  exact ⟨Try.underlying36, ⟨i, h1, h2, h3, h4⟩, rfl⟩
theorem elT43_43 : V.ElemT Try.prog 43 43 3 40 (.agg #[(.int .i64 0), (.string ByteArray.empty), (.string ByteArray.empty)]) 48 := by
  have h : (Try.prog.info? 48).map (fun i => (i.zero, i.size, i.bytes)) = some (some (.agg #[(.int .i64 0), (.string ByteArray.empty), (.string ByteArray.empty)]), 3, 40) := by kernel_rfl
  obtain ⟨i, h1, h2, h3, h4⟩ := info_parts h
  exact ⟨Try.underlying43, ⟨i, h1, h2, h3, h4⟩, rfl⟩
theorem elT45_45 : V.ElemT Try.prog 45 45 3 40 (.agg #[(.int .i64 0), (.string ByteArray.empty), (.string ByteArray.empty)]) 49 := by
  have h : (Try.prog.info? 49).map (fun i => (i.zero, i.size, i.bytes)) = some (some (.agg #[(.int .i64 0), (.string ByteArray.empty), (.string ByteArray.empty)]), 3, 40) := by kernel_rfl
  obtain ⟨i, h1, h2, h3, h4⟩ := info_parts h
  exact ⟨Try.underlying45, ⟨i, h1, h2, h3, h4⟩, rfl⟩
-- the closed facts of this translation
end Go.Proofs.Ytbfaobkahgadaaa
