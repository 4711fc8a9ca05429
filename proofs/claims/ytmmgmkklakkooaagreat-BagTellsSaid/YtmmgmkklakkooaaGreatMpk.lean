/- Proved here: walks: what functions of this seat's program return and what they leave of memory, each as a contract. Conditions: stated at each theorem. -/
import Derived.Test.YtmmgmkklakkooaaGreatMp1
namespace Go.Proofs.YtmmgmkklakkooaaGreat
set_option linter.unusedVariables false
set_option linter.unusedSimpArgs false
open Go
open V (Bytes Meets Env Sl Own Gr Fr Cells S)

structure Rd (w : World) (k : Nat) (D : Nat → Prop) (d : List UInt8) : Prop where
  nk : ¬ D k
  ex : ∃ a c, Cells w k [.slice a d.length c] 152 ∧ Bytes w D a c d

section
variable {w w' : World} {k : Nat} {D : Nat → Prop} {d : List UInt8}
theorem Rd.gr (h : Rd w k D d) (f : Gr w w') : Rd w' k D d := let ⟨a, c, h1, h2⟩ := h.ex; ⟨h.nk, a, c, h1.gr f, h2.gr f⟩
theorem Rd.mv1 {i : Nat} (h : Rd w k D d) (f : Fr [i] w w') (hn : i ≠ k ∧ ¬ D i) : Rd w' k D d := let ⟨a, c, h1, h2⟩ := h.ex; ⟨h.nk, a, c, h1.mv1 f hn.1, h2.mv1 f hn.2⟩
theorem Rd.mS {S : List Nat} (h : Rd w k D d) (f : Fr S w w') (hn : V.AllL (fun i => i ≠ k ∧ ¬ D i) S := by first | exact ⟨(by first | exact ⟨by omega, by assumption⟩ | exact ⟨by omega, fun h => absurd h.1 (by assumption)⟩ | exact ⟨by omega, fun h => absurd h.1.1 (by assumption)⟩ | exact ⟨by omega, fun h => by first | (have h2 := h.1; have h3 := h.2; omega) | (have h2 := h; dsimp only at h2; omega)⟩), (by first | exact ⟨by omega, by assumption⟩ | exact ⟨by omega, fun h => absurd h.1 (by assumption)⟩ | exact ⟨by omega, fun h => absurd h.1.1 (by assumption)⟩ | exact ⟨by omega, fun h => by first | (have h2 := h.1; have h3 := h.2; omega) | (have h2 := h; dsimp only at h2; omega)⟩), (by first | exact ⟨by omega, by assumption⟩ | exact ⟨by omega, fun h => absurd h.1 (by assumption)⟩ | exact ⟨by omega, fun h => absurd h.1.1 (by assumption)⟩ | exact ⟨by omega, fun h => by first | (have h2 := h.1; have h3 := h.2; omega) | (have h2 := h; dsimp only at h2; omega)⟩), trivial⟩ | exact ⟨(by first | exact ⟨by omega, by assumption⟩ | exact ⟨by omega, fun h => absurd h.1 (by assumption)⟩ | exact ⟨by omega, fun h => absurd h.1.1 (by assumption)⟩ | exact ⟨by omega, fun h => by first | (have h2 := h.1; have h3 := h.2; omega) | (have h2 := h; dsimp only at h2; omega)⟩), (by first | exact ⟨by omega, by assumption⟩ | exact ⟨by omega, fun h => absurd h.1 (by assumption)⟩ | exact ⟨by omega, fun h => absurd h.1.1 (by assumption)⟩ | exact ⟨by omega, fun h => by first | (have h2 := h.1; have h3 := h.2; omega) | (have h2 := h; dsimp only at h2; omega)⟩), trivial⟩) : Rd w' k D d := let ⟨a, c, h1, h2⟩ := h.ex; ⟨h.nk, a, c, h1.mv f (fun i hi => (hn.mem i hi).1), h2.mv f (fun i hi => (hn.mem i hi).2)⟩
theorem Rd.ma {i : Nat} (h : Rd w k D d) (f : Fr [i] w w') (hn : i ≠ k ∧ ¬ D i := by first | exact ⟨by omega, by assumption⟩ | exact ⟨by omega, fun h => absurd h.1 (by assumption)⟩ | exact ⟨by omega, fun h => absurd h.1.1 (by assumption)⟩ | exact ⟨by omega, fun h => by first | (have h2 := h.1; have h3 := h.2; omega) | (have h2 := h; dsimp only at h2; omega)⟩) : Rd w' k D d := h.mv1 f hn
theorem Rd.mb {i b : Nat} (h : Rd w k D d) (f : Fr [i] w w') (hb : ∀ j, D j → j < b) (hn : i ≠ k ∧ b ≤ i := by omega) : Rd w' k D d := h.mv1 f ⟨hn.1, fun hd => by have := hb _ hd; omega⟩
theorem Rd.bl {b : Nat} (h : Rd w k D d) (f : V.Bl b w w') (hn : k < b ∧ ∀ j, D j → j < b) : Rd w' k D d := let ⟨a, c, h1, h2⟩ := h.ex; ⟨h.nk, a, c, h1.bl f hn.1, h2.bl f hn.2⟩
theorem Rd.lt (h : Rd w k D d) : k < w.heap.size := let ⟨_, _, h1, _⟩ := h.ex; h1.lt
theorem Rd.rdr (h : Rd w k D d) : Rdr w k D d := ⟨h.ex⟩
theorem Rd.of (h : Rdr w k D d) (hn : ¬ D k) : Rd w k D d := ⟨hn, h.ex⟩
theorem Rd.len63 (h : Rd w k D d) : d.length ≤ 9223372036854775807 := let ⟨_, _, _, h2⟩ := h.ex; h2.len63
theorem Rd.mono {D' : Nat → Prop} (h : Rd w k D d) (h1 : ∀ j, D j → D' j) (hn : ¬ D' k) : Rd w k D' d := let ⟨a, c, h2, h3⟩ := h.ex; ⟨hn, a, c, h2, h3.mono h1⟩
theorem Rd.flb (h : Rd w k D d) : Rd w k (fun j => D j ∧ j < w.heap.size) d := let ⟨a, c, h2, h3⟩ := h.ex; ⟨fun h2 => h.nk h2.1, a, c, h2, h3.flb⟩
end

theorem p_number {w : World}  {D_b : Nat → Prop} {c_b : Nat} {a_b : Option Addr} {b : List UInt8} (F_b : Sl V.Cod.byte w D_b a_b c_b b) (hD_b : ∀ k, D_b k → k < w.heap.size) {v : Int} (hl : b.length ≤ 70368744177664) (hv : v ≤ 9223372036854775807) :
    Meets Tryz.prog 45 [.slice a_b b.length c_b, .int .i64 v] w fun r w' => ∃ (ra2 : Option Addr) (rc2 : Nat), r = .slice ra2 (b ++ numB v.toNat).length rc2 ∧ V.Row V.Cod.byte 5 w' V.None' w.heap.size w'.heap.size ra2 rc2 (b ++ numB v.toNat) ∧ Gr w w' := by
  exact (number_spec F_b hD_b hl hv).mono (by rintro _ w2 ⟨a, c, rfl, h, g⟩; exact ⟨a, c, rfl, V.Row.ofNew h, g⟩)

theorem p_text {w : World}  {D_b : Nat → Prop} {c_b : Nat} {a_b : Option Addr} {b : List UInt8} (F_b : Sl V.Cod.byte w D_b a_b c_b b) (hD_b : ∀ k, D_b k → k < w.heap.size) {s : ByteArray} (hl : b.length ≤ 35184372088832) (hs : s.size ≤ 70368744177664) :
    Meets Tryz.prog 47 [.slice a_b b.length c_b, .string s] w fun r w' => ∃ (ra3 : Option Addr) (rc3 : Nat), r = .slice ra3 (b ++ textB s.data.toList).length rc3 ∧ V.Row V.Cod.byte 5 w' V.None' w.heap.size w'.heap.size ra3 rc3 (b ++ textB s.data.toList) ∧ Gr w w' := by
  exact (text_spec F_b hD_b hl hs).mono (by rintro _ w2 ⟨a, c, rfl, h, g⟩; exact ⟨a, c, rfl, V.Row.ofNew h, g⟩)

theorem p_flag {w : World}  {D_b : Nat → Prop} {c_b : Nat} {a_b : Option Addr} {b : List UInt8} (F_b : Sl V.Cod.byte w D_b a_b c_b b) (hD_b : ∀ k, D_b k → k < w.heap.size) {v : Bool} (hl : b.length ≤ 70368744177664) :
    Meets Tryz.prog 46 [.slice a_b b.length c_b, .bool v] w fun r w' => ∃ (ra4 : Option Addr) (rc4 : Nat), r = .slice ra4 (b ++ flagB v).length rc4 ∧ V.Row V.Cod.byte 5 w' V.None' w.heap.size w'.heap.size ra4 rc4 (b ++ flagB v) ∧ Gr w w' := by
  exact (flag_spec F_b hD_b hl).mono (by rintro _ w2 ⟨a, c, rfl, h, g⟩; exact ⟨a, c, rfl, V.Row.ofNew h, g⟩)

theorem p_open {w : World}  {D_b : Nat → Prop} {c_b : Nat} {a_b : Option Addr} {b : List UInt8} (F_b : Sl V.Cod.byte w D_b a_b c_b b) (hD_b : ∀ k, D_b k → k < w.heap.size) (hl : b.length ≤ 140737488355328) :
    Meets Tryz.prog 56 [.slice a_b b.length c_b] w fun r w' => ∃ (rk5 : Nat), r = .pointer (some ⟨rk5, 0, none⟩) ∧ (w.heap.size ≤ rk5 ∧ rk5 < w'.heap.size) ∧ Rd w' rk5 (fun j => w.heap.size ≤ j ∧ j < rk5) (b) ∧ Gr w w' := by
  exact (open_spec F_b hD_b hl).mono (by rintro _ w2 ⟨k, rfl, h1, h2, g⟩; exact ⟨k, rfl, ⟨h1, h2.lt⟩, Rd.of h2 (by omega), g⟩)

theorem rd_number {w : World} {k : Nat} {D : Nat → Prop} {d : List UInt8} (FX : Rd w k D d) {most : Int}  :
    Meets Tryz.prog 103 [.pointer (some ⟨k, 0, none⟩), .int .i64 most] w fun r w' => r = .tuple #[.int .i64 ((rdN d most).1.1), .int .i64 ((rdN d most).1.2)] ∧ Rd w' k D ((rdN d most).2) ∧ Fr [k] w w' := by
  exact (rnumber_spec FX.rdr FX.nk).mono (by rintro _ w2 ⟨rfl, h, g, -⟩; exact ⟨rfl, Rd.of h FX.nk, g⟩)

theorem rd_flag {w : World} {k : Nat} {D : Nat → Prop} {d : List UInt8} (FX : Rd w k D d)   :
    Meets Tryz.prog 59 [.pointer (some ⟨k, 0, none⟩)] w fun r w' => r = .tuple #[.bool ((rdF d).1.1), .int .i64 ((rdF d).1.2)] ∧ Rd w' k D ((rdF d).2) ∧ Fr [k] w w' := by
  exact (rflag_spec FX.rdr FX.nk).mono (by rintro _ w2 ⟨rfl, h, g, -⟩; exact ⟨rfl, Rd.of h FX.nk, g⟩)

theorem rd_text {w : World} {k : Nat} {D : Nat → Prop} {d : List UInt8} (FX : Rd w k D d) {most : Int}  :
    Meets Tryz.prog 106 [.pointer (some ⟨k, 0, none⟩), .int .i64 most] w fun r w' => r = .tuple #[.string (S (rdT d most).1.1), .int .i64 ((rdT d most).1.2)] ∧ Rd w' k D ((rdT d most).2) ∧ Fr [k] w w' := by
  exact (rtext_spec FX.rdr FX.nk).mono (by rintro _ w2 ⟨rfl, h, g, -⟩; exact ⟨rfl, Rd.of h FX.nk, g⟩)

theorem rd_end {w : World} {k : Nat} {D : Nat → Prop} {d : List UInt8} (FX : Rd w k D d)   :
    Meets Tryz.prog 67 [.pointer (some ⟨k, 0, none⟩)] w fun r w' => r = .int .i64 (if d = [] then 0 else 11) ∧ w = w' := by
  exact rend_spec FX.rdr


/-- the reference's reader: bytes, where it is, whether something was bad -/
structure RfV where
  bs : List UInt8
  i : Nat
  bad : Bool

structure Rf (w : World) (k : Nat) (D : Nat → Prop) (d : RfV) : Prop where
  nk : ¬ D k
  ex : ∃ a c, Cells w k [.slice a d.bs.length c, .int .i64 d.i, .bool d.bad] 128 ∧ Bytes w D a c d.bs
  le : d.i ≤ d.bs.length
section
variable {w w' : World} {k : Nat} {D : Nat → Prop} {d : RfV}
theorem Rf.gr (h : Rf w k D d) (f : Gr w w') : Rf w' k D d := let ⟨a, c, h1, h2⟩ := h.ex; ⟨h.nk, ⟨a, c, h1.gr f, h2.gr f⟩, h.le⟩
theorem Rf.mv1 {i : Nat} (h : Rf w k D d) (f : Fr [i] w w') (hn : i ≠ k ∧ ¬ D i) : Rf w' k D d := let ⟨a, c, h1, h2⟩ := h.ex; ⟨h.nk, ⟨a, c, h1.mv1 f hn.1, h2.mv1 f hn.2⟩, h.le⟩
theorem Rf.ma {i : Nat} (h : Rf w k D d) (f : Fr [i] w w') (hn : i ≠ k ∧ ¬ D i := by first | exact ⟨by omega, by assumption⟩ | exact ⟨by omega, fun h => absurd h.1 (by assumption)⟩ | exact ⟨by omega, fun h => absurd h.1.1 (by assumption)⟩ | exact ⟨by omega, fun h => by first | (have h2 := h.1; have h3 := h.2; omega) | (have h2 := h; dsimp only at h2; omega)⟩) : Rf w' k D d := h.mv1 f hn
theorem Rf.mb {i b : Nat} (h : Rf w k D d) (f : Fr [i] w w') (hb : ∀ j, D j → j < b) (hn : i ≠ k ∧ b ≤ i := by omega) : Rf w' k D d := h.mv1 f ⟨hn.1, fun hd => by have := hb _ hd; omega⟩
theorem Rf.bl {b : Nat} (h : Rf w k D d) (f : V.Bl b w w') (hn : k < b ∧ ∀ j, D j → j < b) : Rf w' k D d := let ⟨a, c, h1, h2⟩ := h.ex; ⟨h.nk, ⟨a, c, h1.bl f hn.1, h2.bl f hn.2⟩, h.le⟩
theorem Rf.lt (h : Rf w k D d) : k < w.heap.size := let ⟨_, _, h1, _⟩ := h.ex; h1.lt
theorem Rf.mono {D' : Nat → Prop} (h : Rf w k D d) (h1 : ∀ j, D j → D' j) (hn : ¬ D' k) : Rf w k D' d := let ⟨a, c, h2, h3⟩ := h.ex; ⟨hn, ⟨a, c, h2, h3.mono h1⟩, h.le⟩
theorem Rf.flb (h : Rf w k D d) : Rf w k (fun j => D j ∧ j < w.heap.size) d := let ⟨a, c, h2, h3⟩ := h.ex; ⟨fun h2 => h.nk h2.1, ⟨a, c, h2, h3.flb⟩, h.le⟩
theorem Rf.of {bs : List UInt8} {i : Nat} {bad : Bool} (h : Ref w k D bs i bad) (hn : ¬ D k) : Rf w k D ⟨bs, i, bad⟩ := ⟨hn, h.ex, h.le⟩
end
end Go.Proofs.YtmmgmkklakkooaaGreat
