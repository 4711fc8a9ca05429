/- Proved here: walks: what functions of this seat's program return and what they leave of memory, each as a contract. Conditions: stated at each theorem. -/
import Derived.Test.YtnbijpijbhkcpaaMp1
namespace Go.Proofs.Ytnbijpijbhkcpaa
set_option linter.unusedVariables false
set_option linter.unusedSimpArgs false
open Go
open V (Bytes Meets Env Sl Own Gr Fr Cells S)

structure Rd (w : World) (k : Nat) (D : Nat → Prop) (d : List UInt8) : Prop where
  nk : ¬ D k
  ex : ∃ a c, Cells w k [.slice a d.length c] 119 ∧ Bytes w D a c d

section
variable {w w' : World} {k : Nat} {D : Nat → Prop} {d : List UInt8}
theorem Rd.gr (h : Rd w k D d) (f : Gr w w') : Rd w' k D d := let ⟨a, c, h1, h2⟩ := h.ex; ⟨h.nk, a, c, h1.gr f, h2.gr f⟩
theorem Rd.mv1 {i : Nat} (h : Rd w k D d) (f : Fr [i] w w') (hn : i ≠ k ∧ ¬ D i) : Rd w' k D d := let ⟨a, c, h1, h2⟩ := h.ex; ⟨h.nk, a, c, h1.mv1 f hn.1, h2.mv1 f hn.2⟩
theorem Rd.mS {S : List Nat} (h : Rd w k D d) (f : Fr S w w') (hn : V.AllL (fun i => i ≠ k ∧ ¬ D i) S := by first | exact ⟨(by first | exact ⟨by omega, by assumption⟩ | exact ⟨by omega, fun h => absurd h.1 (by assumption)⟩ | exact ⟨by omega, fun h => absurd h.1.1 (by assumption)⟩ | exact ⟨by omega, fun h => by first | (have h2 := h.1; have h3 := h.2; omega) | (have h2 := h; dsimp only at h2; omega)⟩), (by first | exact ⟨by omega, by assumption⟩ | exact ⟨by omega, fun h => absurd h.1 (by assumption)⟩ | exact ⟨by omega, fun h => absurd h.1.1 (by assumption)⟩ | exact ⟨by omega, fun h => by first | (have h2 := h.1; have h3 := h.2; omega) | (have h2 := h; dsimp only at h2; omega)⟩), (by first | exact ⟨by omega, by assumption⟩ | exact ⟨by omega, fun h => absurd h.1 (by assumption)⟩ | exact ⟨by omega, fun h => absurd h.1.1 (by assumption)⟩ | exact ⟨by omega, fun h => by first | (have h2 := h.1; have h3 := h.2; omega) | (have h2 := h; dsimp only at h2; omega)⟩), trivial⟩ | exact ⟨(by first | exact ⟨by omega, by assumption⟩ | exact ⟨by omega, fun h => absurd h.1 (by assumption)⟩ | exact ⟨by omega, fun h => absurd h.1.1 (by assumption)⟩ | exact ⟨by omega, fun h => by first | (have h2 := h.1; have h3 := h.2; omega) | (have h2 := h; dsimp only at h2; omega)⟩), (by first | exact ⟨by omega, by assumption⟩ | exact ⟨by omega, fun h => absurd h.1 (by assumption)⟩ | exact ⟨by omega, fun h => absurd h.1.1 (by assumption)⟩ | exact ⟨by omega, fun h => by first | (have h2 := h.1; have h3 := h.2; omega) | (have h2 := h; dsimp only at h2; omega)⟩), trivial⟩) : Rd w' k D d := let ⟨a, c, h1, h2⟩ := h.ex; ⟨h.nk, a, c, h1.mv f (fun i hi => (hn.mem i hi).1), h2.mv f (fun i hi => (hn.mem i hi).2)⟩
theorem Rd.ma {i : Nat} (h : Rd w k D d) (f : Fr [i] w w') (hn : i ≠ k ∧ ¬ D i := by first | exact ⟨by omega, by assumption⟩ | exact ⟨by omega, fun h => absurd h.1 (by assumption)⟩ | exact ⟨by omega, fun h => absurd h.1.1 (by assumption)⟩ | exact ⟨by omega, fun h => by first | (have h2 := h.1; have h3 := h.2; omega) | (have h2 := h; dsimp only at h2; omega)⟩) : Rd w' k D d := h.mv1 f hn
theorem Rd.mb {i b : Nat} (h : Rd w k D d) (f : Fr [i] w w') (hb : ∀ j, D j → j < b) (hn : i ≠ k ∧ b ≤ i := by omega) : Rd w' k D d := h.mv1 f ⟨hn.1, fun hd => by have := hb _ hd; omega⟩
theorem Rd.bl {b : Nat} (h : Rd w k D d) (f : V.Bl b w w') (hn : k < b ∧ ∀ j, D j → j < b) : Rd w' k D d := let ⟨a, c, h1, h2⟩ := h.ex; ⟨h.nk, a, c, h1.bl f hn.1, h2.bl f hn.2⟩
theorem Rd.lt (h : Rd w k D d) : k < w.heap.size := let ⟨_, _, h1, _⟩ := h.ex; h1.lt
theorem Rd.rdr (h : Rd w k D d) : Rdr w k D d := ⟨h.ex⟩
theorem Rd.of (h : Rdr w k D d) (hn : ¬ D k) : Rd w k D d := ⟨hn, h.ex⟩
theorem Rd.len63 (h : Rd w k D d) : d.length ≤ 9223372036854775807 := let ⟨_, _, _, h2⟩ := h.ex; h2.len63
theorem Rd.mono {D' : Nat → Prop} (h : Rd w k D d) (h1 : ∀ j, D j → D' j) (hn : ¬ D' k) : Rd w k D' d := let ⟨a, c, h2, h3⟩ := h.ex; ⟨hn, a, c, h2, h3.mono h1⟩
theorem Rd.flb (h : Rd w k D d) : Rd w k (fun j => D j ∧ j < w.heap.size) d := let ⟨a, c, h2, h3⟩ := h.ex; ⟨fun h2 => h.nk h2.1, a, c, h2, h3.flb⟩
end

theorem p_number {w : World}  {D_b : Nat → Prop} {c_b : Nat} {a_b : Option Addr} {b : List UInt8} (F_b : Sl V.Cod.byte w D_b a_b c_b b) (hD_b : ∀ k, D_b k → k < w.heap.size) {v : Int} (hl : b.length ≤ 70368744177664) (hv : v ≤ 9223372036854775807) :
    Meets Try.prog 54 [.slice a_b b.length c_b, .int .i64 v] w fun r w' => ∃ (ra2 : Option Addr) (rc2 : Nat), r = .slice ra2 (b ++ numB v.toNat).length rc2 ∧ V.Row V.Cod.byte 5 w' V.None' w.heap.size w'.heap.size ra2 rc2 (b ++ numB v.toNat) ∧ Gr w w' := by
  exact (number_spec F_b hD_b hl hv).mono (by rintro _ w2 ⟨a, c, rfl, h, g⟩; exact ⟨a, c, rfl, V.Row.ofNew h, g⟩)

theorem p_text {w : World}  {D_b : Nat → Prop} {c_b : Nat} {a_b : Option Addr} {b : List UInt8} (F_b : Sl V.Cod.byte w D_b a_b c_b b) (hD_b : ∀ k, D_b k → k < w.heap.size) {s : ByteArray} (hl : b.length ≤ 35184372088832) (hs : s.size ≤ 70368744177664) :
    Meets Try.prog 53 [.slice a_b b.length c_b, .string s] w fun r w' => ∃ (ra3 : Option Addr) (rc3 : Nat), r = .slice ra3 (b ++ textB s.data.toList).length rc3 ∧ V.Row V.Cod.byte 5 w' V.None' w.heap.size w'.heap.size ra3 rc3 (b ++ textB s.data.toList) ∧ Gr w w' := by
  exact (text_spec F_b hD_b hl hs).mono (by rintro _ w2 ⟨a, c, rfl, h, g⟩; exact ⟨a, c, rfl, V.Row.ofNew h, g⟩)

theorem p_open {w : World}  {D_b : Nat → Prop} {c_b : Nat} {a_b : Option Addr} {b : List UInt8} (F_b : Sl V.Cod.byte w D_b a_b c_b b) (hD_b : ∀ k, D_b k → k < w.heap.size) (hl : b.length ≤ 140737488355328) :
    Meets Try.prog 65 [.slice a_b b.length c_b] w fun r w' => ∃ (rk4 : Nat), r = .pointer (some ⟨rk4, 0, none⟩) ∧ (w.heap.size ≤ rk4 ∧ rk4 < w'.heap.size) ∧ Rd w' rk4 (fun j => w.heap.size ≤ j ∧ j < rk4) (b) ∧ Gr w w' := by
  exact (open_spec F_b hD_b hl).mono (by rintro _ w2 ⟨k, rfl, h1, h2, g⟩; exact ⟨k, rfl, ⟨h1, h2.lt⟩, Rd.of h2 (by omega), g⟩)

theorem rd_number {w : World} {k : Nat} {D : Nat → Prop} {d : List UInt8} (FX : Rd w k D d) {most : Int}  :
    Meets Try.prog 66 [.pointer (some ⟨k, 0, none⟩), .int .i64 most] w fun r w' => r = .tuple #[.int .i64 ((rdN d most).1.1), .int .i64 ((rdN d most).1.2)] ∧ Rd w' k D ((rdN d most).2) ∧ Fr [k] w w' := by
  exact (rnumber_spec FX.rdr FX.nk).mono (by rintro _ w2 ⟨rfl, h, g, -⟩; exact ⟨rfl, Rd.of h FX.nk, g⟩)

theorem rd_number_nil {w : World}  {most : Int}  :
    Meets Try.prog 66 [.pointer none, .int .i64 most] w fun r w' => r = .tuple #[.int .i64 0, .int .i64 1] ∧ w = w' := by
  exact rnumber_nil

theorem rd_text {w : World} {k : Nat} {D : Nat → Prop} {d : List UInt8} (FX : Rd w k D d) {most : Int}  :
    Meets Try.prog 87 [.pointer (some ⟨k, 0, none⟩), .int .i64 most] w fun r w' => r = .tuple #[.string (S (rdT d most).1.1), .int .i64 ((rdT d most).1.2)] ∧ Rd w' k D ((rdT d most).2) ∧ Fr [k] w w' := by
  exact (rtext_spec FX.rdr FX.nk).mono (by rintro _ w2 ⟨rfl, h, g, -⟩; exact ⟨rfl, Rd.of h FX.nk, g⟩)

theorem rd_end {w : World} {k : Nat} {D : Nat → Prop} {d : List UInt8} (FX : Rd w k D d)   :
    Meets Try.prog 67 [.pointer (some ⟨k, 0, none⟩)] w fun r w' => r = .int .i64 (if d = [] then 0 else 11) ∧ w = w' := by
  exact rend_spec FX.rdr


/-- the reference's reader: bytes, where it is, whether something was bad -/
structure RfV where
  bs : List UInt8
  i : Nat
  bad : Bool

structure Rf (w : World) (k : Nat) (D : Nat → Prop) (d : RfV) : Prop where
  nk : ¬ D k
  ex : ∃ a c, Cells w k [.slice a d.bs.length c, .int .i64 d.i, .bool d.bad] 111 ∧ Bytes w D a c d.bs
  le : d.i ≤ d.bs.length
section
variable {w w' : World} {k : Nat} {D : Nat → Prop} {d : RfV}
theorem Rf.gr (h : Rf w k D d) (f : Gr w w') : Rf w' k D d := let ⟨a, c, h1, h2⟩ := h.ex; ⟨h.nk, ⟨a, c, h1.gr f, h2.gr f⟩, h.le⟩
theorem Rf.mv1 {i : Nat} (h : Rf w k D d) (f : Fr [i] w w') (hn : i ≠ k ∧ ¬ D i) : Rf w' k D d := let ⟨a, c, h1, h2⟩ := h.ex; ⟨h.nk, ⟨a, c, h1.mv1 f hn.1, h2.mv1 f hn.2⟩, h.le⟩
theorem Rf.ma {i : Nat} (h : Rf w k D d) (f : Fr [i] w w') (hn : i ≠ k ∧ ¬ D i := by first | exact ⟨by omega, by assumption⟩ | exact ⟨by omega, fun h => absurd h.1 (by assumption)⟩ | exact ⟨by omega, fun h => absurd h.1.1 (by assumption)⟩ | exact ⟨by omega, fun h => by first | (have h2 := h.1; have h3 := h.2; omega) | (have h2 := h; dsimp only at h2; omega)⟩) : Rf w' k D d := h.mv1 f hn
theorem Rf.mb {i b : Nat} (h : Rf w k D d) (f : Fr [i] w w') (hb : ∀ j, D j → j < b) (hn : i ≠ k ∧ b ≤ i := by omega) : Rf w' k D d := h.mv1 f ⟨hn.1, fun hd => by have := hb _ hd; omega⟩
theorem Rf.bl {b : Nat} (h : Rf w k D d) (f : V.Bl b w w') (hn : k < b ∧ ∀ j, D j → j < b) : Rf w' k D d := let ⟨a, c, h1, h2⟩ := h.ex; ⟨h.nk, ⟨a, c, h1.bl f hn.1, h2.bl f hn.2⟩, h.le⟩
theorem Rf.lt (h : Rf w k D d) : k < w.heap.size := let ⟨_, _, h1, _⟩ := h.ex; h1.lt
theorem Rf.mono {D' : Nat → Prop} (h : Rf w k D d) (h1 : ∀ j, D j → D' j) (hn : ¬ D' k) : Rf w k D' d := let ⟨a, c, h2, h3⟩ := h.ex; ⟨hn, ⟨a, c, h2, h3.mono h1⟩, h.le⟩
theorem Rf.flb (h : Rf w k D d) : Rf w k (fun j => D j ∧ j < w.heap.size) d := let ⟨a, c, h2, h3⟩ := h.ex; ⟨fun h2 => h.nk h2.1, ⟨a, c, h2, h3.flb⟩, h.le⟩
theorem Rf.ref (h : Rf w k D d) : Ref w k D d.bs d.i d.bad := ⟨h.ex, h.le⟩
theorem Rf.of {bs : List UInt8} {i : Nat} {bad : Bool} (h : Ref w k D bs i bad) (hn : ¬ D k) : Rf w k D ⟨bs, i, bad⟩ := ⟨hn, h.ex, h.le⟩
end
def rfN (d : RfV) (most : Int) : RfV := ⟨d.bs, d.i + rdC (d.bs.drop d.i) most, d.bad || decide ((rdN (d.bs.drop d.i) most).1.2 ≠ 0)⟩

theorem rp_number {w : World}  {v : Int} (hv : v ≤ 9223372036854775807) :
    Meets Try.prog 56 [.int .i64 v] w fun r w' => ∃ (ra7 : Option Addr) (rc7 : Nat), r = .slice ra7 (numB v.toNat).length rc7 ∧ V.Row V.Cod.byte 5 w' V.None' w.heap.size w'.heap.size ra7 rc7 (numB v.toNat) ∧ Gr w w' := by
  exact (ref_number_spec hv).mono (by rintro _ w2 ⟨a, c, rfl, h, g⟩; exact ⟨a, c, rfl, V.Row.ofNew h, g⟩)

theorem rp_text {w : World}  {s : ByteArray} (hs : s.size ≤ 70368744177664) :
    Meets Try.prog 57 [.string s] w fun r w' => ∃ (ra8 : Option Addr) (rc8 : Nat), r = .slice ra8 (textB s.data.toList).length rc8 ∧ V.Row V.Cod.byte 5 w' V.None' w.heap.size w'.heap.size ra8 rc8 (textB s.data.toList) ∧ Gr w w' := by
  exact (ref_text_spec hs).mono (by rintro _ w2 ⟨a, c, rfl, h, g⟩; exact ⟨a, c, rfl, V.Row.ofNew h, g⟩)

theorem rp_open {w : World}  {D_b : Nat → Prop} {c_b : Nat} {a_b : Option Addr} {b : List UInt8} (F_b : Sl V.Cod.byte w D_b a_b c_b b) (hD_b : ∀ k, D_b k → k < w.heap.size)  :
    Meets Try.prog 46 [.slice a_b b.length c_b] w fun r w' => ∃ (rk9 : Nat), r = .pointer (some ⟨rk9, 0, none⟩) ∧ (w.heap.size ≤ rk9 ∧ rk9 < w'.heap.size) ∧ Rf w' rk9 D_b (⟨b, 0, false⟩ : RfV) ∧ Gr w w' := by
  exact (ref_open_spec F_b).mono (by rintro _ w2 ⟨k, rfl, h1, h2, g⟩; exact ⟨k, rfl, ⟨h1, h2.lt⟩, Rf.of h2 (fun h => by have := hD_b _ h; omega), g⟩)

theorem rf_number {w : World} {k : Nat} {D : Nat → Prop} {d : RfV} (FX : Rf w k D d) {most : Int}  :
    Meets Try.prog 71 [.pointer (some ⟨k, 0, none⟩), .int .i64 most] w fun r w' => r = .tuple #[.int .i64 ((rdN (d.bs.drop d.i) most).1.1), .int .i64 ((rdN (d.bs.drop d.i) most).1.2)] ∧ Rf w' k D (rfN d most) ∧ Fr [k] w w' := by
  exact (ref_rnumber_spec FX.ref FX.nk).mono (by rintro _ w2 ⟨rfl, h, g⟩; exact ⟨rfl, Rf.of h FX.nk, g⟩)

def rfT (d : RfV) (most : Int) : RfV := ⟨d.bs, d.i + rdTC (d.bs.drop d.i) most, d.bad || decide ((rdT (d.bs.drop d.i) most).1.2 ≠ 0)⟩
theorem rf_text {w : World} {k : Nat} {D : Nat → Prop} {d : RfV} (FX : Rf w k D d) {most : Int}  :
    Meets Try.prog 86 [.pointer (some ⟨k, 0, none⟩), .int .i64 most] w fun r w' => r = .tuple #[.string (S (rdT (d.bs.drop d.i) most).1.1), .int .i64 ((rdT (d.bs.drop d.i) most).1.2)] ∧ Rf w' k D (rfT d most) ∧ Fr [k] w w' := by
  exact (ref_rtext_spec FX.ref FX.nk).mono (by rintro _ w2 ⟨rfl, h, g⟩; exact ⟨rfl, Rf.of h FX.nk, g⟩)

set_option maxHeartbeats 900000 in
set_option maxRecDepth 10000 in
theorem rf_n {w : World} {k : Nat} {D : Nat → Prop} {d : RfV} (FX : Rf w k D d) {most : Int}  :
    Meets Try.prog 47 [.pointer (some ⟨k, 0, none⟩), .int .i64 most] w fun r w' => r = .int .i64 ((rdN (d.bs.drop d.i) most).1.1) ∧ Rf w' k D (rfN d most) ∧ Fr [k] w w' := by
 have hkl := FX.lt
 have hnk := FX.nk
 replace FX := FX.flb
 have HG := V.Fr.refl [k] w
 refine V.enter (n := 14) Try.func47 rfl rfl (by decide) rfl ?_
 refine V.seq ?_
 refine V.region ?_
 refine V.run T_ok 1 rfl ?_
 refine V.nil ?_
 refine V.tN ?_
 refine V.seq ?_
 refine V.region ?_
 refine V.run T_ok 2 rfl ?_
 refine V.call (rf_number (most := most) FX) rfl rfl rfl ?_
 rintro _ w2 ⟨rfl, F1, G3⟩
 have z4 := V.Fr.size G3
 try replace FX := FX.ma G3
 replace HG := HG.n1 G3
 clear G3
 refine V.run T_ok 5 rfl ?_
 refine V.nil ?_
 refine V.tN ?_
 refine V.seq ?_
 refine V.region ?_
 refine V.run T_ok 2 rfl ?_
 refine V.nil ?_
 refine V.tN ?_
 refine V.ret ?_
 refine V.done rfl ?_
 exact ⟨(by first | rfl | simp only [List.length_set]), (F1.mono (fun _ h => h.1) hnk), HG⟩

set_option maxHeartbeats 900000 in
set_option maxRecDepth 10000 in
theorem rf_t {w : World} {k : Nat} {D : Nat → Prop} {d : RfV} (FX : Rf w k D d) {most : Int}  :
    Meets Try.prog 72 [.pointer (some ⟨k, 0, none⟩), .int .i64 most] w fun r w' => r = .string (S (rdT (d.bs.drop d.i) most).1.1) ∧ Rf w' k D (rfT d most) ∧ Fr [k] w w' := by
 have hkl := FX.lt
 have hnk := FX.nk
 replace FX := FX.flb
 have HG := V.Fr.refl [k] w
 refine V.enter (n := 14) Try.func72 rfl rfl (by decide) rfl ?_
 refine V.seq ?_
 refine V.region ?_
 refine V.run T_ok 1 rfl ?_
 refine V.nil ?_
 refine V.tN ?_
 refine V.seq ?_
 refine V.region ?_
 refine V.run T_ok 2 rfl ?_
 refine V.call (rf_text (most := most) FX) rfl rfl rfl ?_
 rintro _ w2 ⟨rfl, F1, G3⟩
 have z4 := V.Fr.size G3
 try replace FX := FX.ma G3
 replace HG := HG.n1 G3
 clear G3
 refine V.run T_ok 5 rfl ?_
 refine V.nil ?_
 refine V.tN ?_
 refine V.seq ?_
 refine V.region ?_
 refine V.run T_ok 2 rfl ?_
 refine V.nil ?_
 refine V.tN ?_
 refine V.ret ?_
 refine V.done rfl ?_
 exact ⟨(by first | rfl | simp only [List.length_set]), (F1.mono (fun _ h => h.1) hnk), HG⟩

end Go.Proofs.Ytnbijpijbhkcpaa
