/- Proved here: walks: what functions of this seat's program return and what they leave of memory, each as a contract. Conditions: stated at each theorem. -/
import Derived.Test.YtaekbikdeeaphaaMle4
namespace Go.Proofs.Ytaekbikdeeaphaa
set_option linter.unusedVariables false
set_option linter.unusedSimpArgs false
open Go
open V (Bytes Meets Env Sl Own Gr Fr Cells S)

section
open V
theorem open2 {lo hi c : Nat} {a : Option Addr} {p0 p1 : Int × List UInt8} {w : World} (h : V.Row V.Cod.oent 29 w None' lo hi a c [p0, p1]) :
    ∃ (g : Nat) (E : Nat → Prop) (a0 : Option Addr) (c0 : Nat) (a1 : Option Addr) (c1 : Nat) (rest : List Value), a = some ⟨g, 0, none⟩ ∧ (lo ≤ g ∧ g < hi) ∧ (∀ j, E j → lo ≤ j ∧ j < hi ∧ j ≠ g) ∧ Cells w g (.int .i64 p0.1 :: .slice a0 p0.2.length c0 :: .int .i64 p1.1 :: .slice a1 p1.2.length c1 :: rest) 29 ∧ V.RowE V.Cod.byte 5 w None' E a1 c1 p1.2 := by
  rcases h.ex with ⟨_, _, h3⟩ | ⟨g, D, h1, h2, h3, h4, h5⟩
  · cases h3
  · rcases h5.row with ⟨_, hc⟩ | ⟨ha, cur, cs, h6, h7, h8, h9⟩
    · have := h5.cap; simp at this; omega
    · obtain ⟨c1, c2, h10, hR, hr⟩ := h9
      obtain ⟨c3, c4, h11, hR2, hr2⟩ := hr
      have hr3 : c4 = [] := hr2
      subst hr3
      obtain ⟨i1, s1, e1, hi1, a0, cc0, e2, ho0⟩ := hR
      obtain ⟨i2, s2, e3, hi2, a1, cc1, e4, ho1⟩ := hR2
      have hi1' : i1 = [.int .i64 p0.1] := hi1
      have hi2' : i2 = [.int .i64 p1.1] := hi2
      subst hi1' hi2' e2 e4 e1 e3 h11
      have hl : ([p0, p1].length * V.Cod.oent.sz) = 4 := rfl
      rw [hl, h10] at h8
      have h8' : cur = .int .i64 p0.1 :: .slice a0 p0.2.length cc0 :: .int .i64 p1.1 :: .slice a1 p1.2.length cc1 :: cur.drop 4 := by
        conv => lhs; rw [← List.take_append_drop 4 cur, h8]
        rfl
      rw [h8'] at h6
      refine ⟨g, fun j => D j, a0, cc0, a1, cc1, cur.drop 4, ha, ⟨h1, h2⟩, fun j hj => ?_, h6, ⟨ho1.ex.imp id fun ⟨g', hg', ho'⟩ => ⟨g', None', hg', fun h => h, fun _ h => h.elim, ho'⟩⟩⟩
      have := (h4 j hj).elim False.elim id
      exact ⟨this.1, this.2, fun e => h3 (e ▸ hj)⟩
end
theorem V.OwnS.gr {t c : Nat} {w w' : World} {D : Nat → Prop} {a : Option Addr} {x : List UInt8} (h : V.OwnS t w D a c x) (f : Gr w w') : V.OwnS t w' D a c x := h.mv f (fun _ h => by cases h)
theorem ow1 {b : List UInt8} (h : b.length ≤ 100) : appV ⟨0, 0, []⟩ 1 b = ⟨0, 0, [(1, b)]⟩ := by unfold appV; rw [if_pos ⟨by decide, by decide, by omega, by decide⟩]; rfl
theorem ow2 {b : List UInt8} : splV ⟨0, 0, [(1, b)]⟩ 1 1 [(1, b)] = ⟨0, 0, [(1, b), (1, b)]⟩ := rfl
theorem ow3 {b c : List UInt8} (h : c.length ≤ 100) : appV ⟨0, 0, [(1, b), (1, b)]⟩ 2 c = ⟨0, 0, [(1, b), (1, b), (2, c)]⟩ := by unfold appV; rw [if_pos ⟨by show (1 : Int) ≤ 2; decide, by decide, by omega, by show ((0 : Int) + ((2 : Nat) : Int)) < 1099511627776; decide⟩]; rfl
theorem ow4 {b c : List UInt8} : splV ⟨0, 0, [(1, b), (1, b)]⟩ 1 1 [(3, c)] = ⟨0, 0, [(1, b), (3, c)]⟩ := rfl
theorem ow5 {b : List UInt8} : fromV ⟨0, 0, [(1, b), (1, b)]⟩ 1 2 = [(1, b), (1, b)] := rfl
theorem ow6 {b c : List UInt8} : fromV ⟨0, 0, [(1, b), (3, c)]⟩ 1 9 = [(1, b), (3, c)] := rfl
theorem ow7 {b c : List UInt8} : fromV ⟨0, 0, [(1, b), (1, b), (2, c)]⟩ 1 9 = [(1, b), (1, b), (2, c)] := rfl
theorem ow8 {b : List UInt8} : entV ⟨0, 0, [(1, b), (1, b)]⟩ 1 = (1, b) := rfl

set_option maxHeartbeats 900000 in
set_option maxRecDepth 10000 in
theorem entriesOwn_walk {w : World}  {D_b : Nat → Prop} {c_b : Nat} {a_b : Option Addr} {b : List UInt8} (F_b : Sl V.Cod.byte w D_b a_b c_b b) (hD_b : ∀ k, D_b k → k < w.heap.size) {D_c : Nat → Prop} {c_c : Nat} {a_c : Option Addr} {c : List UInt8} (F_c : Sl V.Cod.byte w D_c a_c c_c c) (hD_c : ∀ k, D_c k → k < w.heap.size)  :
    Meets Try.prog 5 [.slice a_b b.length c_b, .slice a_c c.length c_c] w fun r w' => r = .bool true ∧ Gr w w' := by
 have HG := V.Fr.refl [] w
 refine V.enter (n := 194) Try.func5 rfl rfl (by decide) rfl ?_
 refine V.seq ?_
 refine V.region ?_
 refine V.run T_ok 1 rfl ?_
 refine V.nil ?_
 refine V.tN ?_
 refine V.seq ?_
 refine V.seq ?_
 refine V.region ?_
 refine V.run T_ok 4 rfl ?_
 refine V.orG T_ok 3 3 20 rfl rfl rfl rfl rfl rfl rfl rfl ?_
 refine V.nil ?_
 refine V.tN ?_
 refine V.condT rfl (fun h1 => ?_) (fun h1 => ?_)
 ·
  try replace h1 := V.dec h1
  try simp only [V.mk0, V.mk1, V.mk2, V.mk3] at h1
  refine V.seq ?_
  refine V.region ?_
  refine V.call (alive_spec) rfl rfl rfl ?_
  rintro _ w1 ⟨rfl, G2⟩
  have z3 := V.Fr.size G2
  try replace F_b := F_b.gr G2
  try replace F_c := F_c.gr G2
  replace HG := HG.grow G2
  clear G2
  refine V.run T_ok 1 rfl ?_
  refine V.nil ?_
  refine V.tN ?_
  refine V.ret ?_
  refine V.tR ?_
  refine V.done rfl ?_
  exact ⟨(by first | rfl | simp only [List.length_set]), HG⟩
 ·
  try replace h1 := V.dec h1
  try simp only [V.mk0, V.mk1, V.mk2, V.mk3] at h1
  refine V.skip ?_
  refine V.tN ?_
  refine V.seq ?_
  refine V.region ?_
  refine V.call (new_spec (b := 0) (t := 0) (by decide)) rfl rfl rfl ?_
  rintro _ w11 ⟨k4, g5, B6, rfl, ⟨h7l, h7u⟩, F8, h9, h10, G12⟩
  have z13 := V.Fr.size G12
  try replace F_b := F_b.gr G12
  try replace F_c := F_c.gr G12
  replace HG := HG.grow G12
  clear G12
  refine V.run T_ok 5 rfl ?_
  refine V.nil ?_
  refine V.tN ?_
  refine V.seq ?_
  refine V.seq ?_
  refine V.region ?_
  refine V.run T_ok 6 rfl ?_
  refine V.nil ?_
  refine V.tN ?_
  refine V.condN rfl rfl ?_
  refine V.skip ?_
  refine V.tN ?_
  refine V.seq ?_
  have hk6 := F8.lt
  have hg6 := F8.gl
  have hB6 := F8.bl
  refine V.region ?_
  refine V.mkSlice T_ok zero5 rfl rfl sz5 rfl rfl rfl rfl rfl rfl ?_
  rintro k14 w17 s19 s20 G18 Fk15
  have z21 := V.Fr.size G18
  try replace F_b := F_b.gr G18
  try replace F_c := F_c.gr G18
  try replace F8 := F8.gr G18
  replace HG := HG.grow G18
  clear G18
  have F16 := V.rowOfB (xs := ([] : List UInt8)) Fk15 rfl rfl
  clear Fk15
  refine V.run T_ok 1 rfl ?_
  refine V.appendR (F16) (V.From.flat V.flat_byte (D' := V.None') (F_b.from Try.underlying27)) elT27_27 rfl rfl rfl rfl rfl (by first | omega | (simp only [List.length_take, List.length_drop, List.length_append, List.length_cons, List.length_nil, List.length_replicate, List.length_set, V.length_data, V.S_size]; omega)) (by unfold maxLen; first | omega | (simp only [List.length_take, List.length_drop, List.length_append, List.length_cons, List.length_nil, List.length_replicate, List.length_set, V.length_data, V.S_size]; omega)) (by omega) (by omega) (fun _ h => h.elim) (fun _ h => h.elim) ?_
  rintro a22 c23 w25 G26 s27 F24
  clear F16
  have z28 := Go.RowKit.Below.size G26
  first | replace F_b := V.Sl.bl F_b G26 (by first | exact (fun _ h => by have := h.2; omega) | (intro k h; have := hD_b k h; omega)) | clear F_b | skip
  first | replace F_c := V.Sl.bl F_c G26 (by first | exact (fun _ h => by have := h.2; omega) | (intro k h; have := hD_c k h; omega)) | clear F_c | skip
  first | replace F8 := F8.bl1 G26 (by intro j h; (try dsimp only [V.In] at h ⊢); first | omega | grind) | clear F8 | skip
  replace HG := HG.bl (Go.RowKit.Below.mono G26 (by omega))
  clear G26
  rw [List.nil_append] at F24 ⊢
  refine V.run T_ok 1 rfl ?_
  refine V.nil ?_
  refine V.tN ?_
  refine V.seq ?_
  refine V.region ?_
  refine V.run T_ok 2 rfl ?_
  refine V.mkStruct T_ok zero29 rfl rfl rfl rfl rfl ?_
  refine V.call (append_spec (t := 1) F8 F24.sl (fun k hk => by have := hk.2; omega) (by first | omega | simp | decide)) rfl rfl rfl ?_
  rintro _ w34 ⟨g29, B30, rfl, F31, h32, h33, G35⟩
  obtain ⟨w36, G37, G38⟩ := V.Fr.two G35
  clear G35
  have z39 := V.Fr.size G37
  first | replace F_b := F_b.mb G37 hD_b | clear F_b | skip
  first | replace F_c := F_c.mb G37 hD_c | clear F_c | skip
  first | replace F8 := F8.mv1 G37 (by (try dsimp only [V.In]); first | omega | grind) | clear F8 | skip
  first | replace F24 := F24.ma G37 | clear F24 | skip
  replace HG := HG.n1 G37
  clear G37
  have z40 := V.Fr.size G38
  first | replace F_b := F_b.mb G38 hD_b | clear F_b | skip
  first | replace F_c := F_c.mb G38 hD_c | clear F_c | skip
  first | replace F8 := F8.mv1 G38 (by (try dsimp only [V.In]); first | omega | grind) | clear F8 | skip
  first | replace F24 := F24.ma G38 | clear F24 | skip
  replace HG := HG.n1 G38
  clear G38
  refine V.nil ?_
  refine V.tN ?_
  refine V.seq ?_
  have hr41 : appV (⟨0, 0, []⟩) 1 b = ⟨0, 0, [(1, b)]⟩ := ow1 (by omega)
  rw [hr41] at F31
  clear hr41
  refine V.region ?_
  refine V.run T_ok 2 rfl ?_
  refine V.mkStruct T_ok zero29 rfl rfl rfl rfl rfl ?_
  refine V.mkSlice T_ok zero29 rfl rfl sz29 rfl rfl rfl rfl rfl rfl ?_
  rintro k42 w45 s47 s48 G46 Fk43
  have z49 := V.Fr.size G46
  try replace F_b := F_b.gr G46
  try replace F_c := F_c.gr G46
  try replace F24 := F24.gr G46
  try replace F31 := F31.gr G46
  replace HG := HG.grow G46
  clear G46
  have F44 : Sl V.Cod.ent w45 (fun k => k = k42 ∨ (V.In k14 w25.heap.size) k) (some ⟨k42, 0, none⟩) ([(1, b)] : List (Int × List UInt8)).length ([(1, b)] : List (Int × List UInt8)) := V.Cells.sl Fk43 (V.reps_cons (x := (1, b)) ⟨_, _, rfl, rfl, ⟨_, _, rfl, F24.sl.mono (fun k h => .inr (h))⟩⟩ rfl rfl) (.inl rfl) (by simp [maxLen])
  have hDu50 : ∀ k, (fun k => k = k42 ∨ (V.In k14 w25.heap.size) k) k → k < w45.heap.size := by intro k h; (try dsimp only at h); rcases h with h | h <;> first | omega | (have := h.2; omega) | (have := h.1; omega) | (have := hD_b k h; omega) | (have := hD_c k h; omega)
  refine V.call (splice_spec (prev := 1) (t := 1) F31 F44 (fun k hk => by have := hDu50 k hk; omega) (by first | omega | simp | decide) (by first | omega | simp | decide) (by first | assumption | (intro x hx; simp at hx; subst hx; dsimp only; omega) | simp)) rfl rfl rfl ?_
  rintro _ w56 ⟨g51, B52, rfl, F53, h54, h55, G57⟩
  have z58 := V.Fr.size G57
  first | replace F_b := F_b.mb G57 hD_b | clear F_b | skip
  first | replace F_c := F_c.mb G57 hD_c | clear F_c | skip
  first | replace F24 := F24.ma G57 | clear F24 | skip
  first | replace F31 := F31.mv1 G57 (by (try dsimp only [V.In]); first | omega | grind) | clear F31 | skip
  first | replace Fk43 := Fk43.mv1 G57 (by omega) | clear Fk43 | skip
  first | replace F44 := F44.mb G57 hDu50 | clear F44 | skip
  replace HG := HG.n1 G57
  clear G57
  refine V.nil ?_
  refine V.tN ?_
  refine V.seq ?_
  try clear F44
  have hr59 : splV (⟨0, 0, [(1, b)]⟩) 1 1 ([(1, b)] : List (Int × List UInt8)) = ⟨0, 0, [(1, b), (1, b)]⟩ := ow2
  rw [hr59] at F53
  clear hr59
  have hk9 := F53.lt
  have hg9l := F53.gl
  have hB9l := F53.bl
  have hnkl := F53.nk
  have hs9 : (g51 < w11.heap.size ∨ w25.heap.size ≤ g51) ∧ ∀ j, B52 j → j < w11.heap.size ∨ w25.heap.size ≤ j := ⟨by omega, by intro j h; grind⟩
  refine V.region ?_
  refine V.run T_ok 1 rfl ?_
  refine V.call (copy_spec F53) rfl rfl rfl ?_
  rintro _ w67 ⟨k60, g61, B62, rfl, ⟨h63l, h63u⟩, F64, h65, h66, G68⟩
  have z69 := V.Fr.size G68
  try replace F_b := F_b.gr G68
  try replace F_c := F_c.gr G68
  try replace F24 := F24.gr G68
  try replace Fk43 := Fk43.gr G68
  try replace F53 := F53.gr G68
  replace HG := HG.grow G68
  clear G68
  refine V.run T_ok 1 rfl ?_
  refine V.nil ?_
  refine V.tN ?_
  refine V.seq ?_
  refine V.seq ?_
  have hs10 : ∀ j, B62 j → j < w11.heap.size ∨ w25.heap.size ≤ j := by intro j h; grind
  refine V.region ?_
  refine V.run T_ok 1 rfl ?_
  refine V.nil ?_
  refine V.tN ?_
  refine V.block ?_
  have hl72 := F24.sl.len63
  
  refine V.loopM (fun m e v75 => Fr [] w v75 ∧ w67.heap.size ≤ v75.heap.size ∧ Sl V.Cod.byte v75 D_b a_b c_b b ∧ Sl V.Cod.byte v75 D_c a_c c_c c ∧ Cells v75 k42 [.int .i64 1, .slice a22 b.length c23] 29 ∧ Lg v75 k4 g51 B52 (⟨0, 0, [(1, b), (1, b)]⟩) ∧ Lg v75 k60 g61 B62 ((⟨0, 0, [(1, b), (1, b)]⟩)) ∧ ∃ (ys70 : List UInt8) (i71 : Nat) , m = b.length - i71 ∧ ys70.length = b.length ∧ i71 ≤ b.length ∧ V.Row V.Cod.byte 5 v75 V.None' k14 w25.heap.size a22 c23 ys70 ∧ e 0 = .slice a_b b.length c_b ∧ e 1 = .slice a_c c.length c_c ∧ e 5 = .pointer (some ⟨k4, 0, none⟩) ∧ e 7 = .slice a22 b.length c23 ∧ e 8 = .pointer (some ⟨k60, 0, none⟩) ∧ e 9 = .int .i64 (i71 : Int)) ?_ ?_
  ·
   exact ⟨_, HG, (by omega), F_b, F_c, Fk43, F53, F64, (b), (0), rfl, (rfl), (Nat.zero_le _), F24.re, rfl, rfl, rfl, rfl, rfl, rfl⟩
  try clear F24
  clear HG F_b F_c Fk43 F53 F64
  rintro _ e v75 ⟨HG, z76, F_b, F_c, Fk43, F53, F64, ys70, i71, rfl, hp0_0, hp0_1, F73, he0_0, he0_1, he0_5, he0_7, he0_8, he0_9⟩
  refine V.knownC (t := 0) he0_0 ?_
  refine V.knownC (t := 1) he0_1 ?_
  refine V.knownC (t := 5) he0_5 ?_
  refine V.knownC (t := 7) he0_7 ?_
  refine V.knownC (t := 8) he0_8 ?_
  refine V.knownC (t := 9) he0_9 ?_
  refine V.seq ?_
  refine V.seq ?_
  refine V.region ?_
  refine V.run T_ok 4 rfl ?_
  refine V.nil ?_
  refine V.tN ?_
  refine V.condT rfl (fun h11 => ?_) (fun h11 => ?_)
  ·
   try replace h11 := V.dec h11
   try simp only [V.mk0, V.mk1, V.mk2, V.mk3] at h11
   refine V.skip ?_
   refine V.tN ?_
   refine V.seq ?_
   refine V.block ?_
   refine V.region ?_
   refine V.run T_ok 4 rfl ?_
   obtain ⟨g82, hg82l, hg82u, F83⟩ := V.Row.own1 V.flat_byte F73 (by first | omega | (simp only [List.length_take, List.length_drop, List.length_append, List.length_cons, List.length_nil, List.length_replicate, List.length_set, V.length_data, V.S_size]; omega))
   clear F73
   refine V.elemO' T_ok F83 (by first | rfl | (first | omega | (simp only [List.length_take, List.length_drop, List.length_append, List.length_cons, List.length_nil, List.length_replicate, List.length_set, V.length_data, V.S_size]; omega))) rfl rfl sz5 rfl rfl rfl rfl (by first | omega | (simp only [List.length_take, List.length_drop, List.length_append, List.length_cons, List.length_nil, List.length_replicate, List.length_set, V.length_data, V.S_size]; omega)) (by first | omega | (simp only [List.length_take, List.length_drop, List.length_append, List.length_cons, List.length_nil, List.length_replicate, List.length_set, V.length_data, V.S_size]; omega)) ?_
   rintro hx78
   obtain ⟨cs81, hR79, hA80⟩ := V.Own.el F83 hx78
   obtain ⟨x77, hx77⟩ : ∃ z', ys70[((i71 : Int)).toNat] = z' := ⟨_, rfl⟩
   rw [hx77] at hR79
   obtain rfl := hR79
   try simp only [Int.toNat_natCast] at hx77 hx78
   refine V.loadA T_ok (o0 := ((i71 : Int)).toNat * V.Cod.byte.sz) (off := 0) hA80 rfl rfl rfl rfl rfl ?_
   refine V.run T_ok 1 rfl ?_
   refine V.elemO' T_ok F83 (by first | rfl | (first | omega | (simp only [List.length_take, List.length_drop, List.length_append, List.length_cons, List.length_nil, List.length_replicate, List.length_set, V.length_data, V.S_size]; omega))) rfl rfl sz5 rfl rfl rfl rfl (by first | omega | (simp only [List.length_take, List.length_drop, List.length_append, List.length_cons, List.length_nil, List.length_replicate, List.length_set, V.length_data, V.S_size]; omega)) (by first | omega | (simp only [List.length_take, List.length_drop, List.length_append, List.length_cons, List.length_nil, List.length_replicate, List.length_set, V.length_data, V.S_size]; omega)) ?_
   rintro hx85
   obtain ⟨cs88, hR86, hA87⟩ := V.Own.el F83 hx85
   obtain ⟨x84, hx84⟩ : ∃ z', ys70[((i71 : Int)).toNat] = z' := ⟨_, rfl⟩
   rw [hx84] at hR86
   obtain rfl := hR86
   try simp only [Int.toNat_natCast] at hx84 hx85
   refine V.storeS (D' := V.None') (j := ((i71 : Int)).toNat) (x' := (x77 + 1)) V.flat_byte F83 rfl rfl rfl (by first | omega | (simp only [List.length_take, List.length_drop, List.length_append, List.length_cons, List.length_nil, List.length_replicate, List.length_set, V.length_data, V.S_size]; omega)) rfl (V.cb1 (V.add8 x77 1)) rfl sz5 rfl rfl ?_
   rintro w89 G90 z91 Fnew
   clear F83
   have z92 := V.Fr.size G90
   first | replace F_b := F_b.mb G90 hD_b | clear F_b | skip
   first | replace F_c := F_c.mb G90 hD_c | clear F_c | skip
   first | replace Fk43 := Fk43.mv1 G90 (by omega) | clear Fk43 | skip
   first | replace F53 := F53.mv1 G90 (by (try dsimp only [V.In]); first | omega | grind) | clear F53 | skip
   first | replace F64 := F64.mv1 G90 (by (try dsimp only [V.In]); first | omega | grind) | clear F64 | skip
   replace HG := HG.n1 G90
   clear G90
   have F83 := Fnew; clear Fnew
   refine V.nil ?_
   refine V.bN ?_
   refine V.tN ?_
   refine V.region ?_
   refine V.run T_ok 1 rfl ?_
   refine V.addN rfl rfl rfl rfl rfl (by first | omega | (simp only [List.length_take, List.length_drop, List.length_append, List.length_cons, List.length_nil, List.length_replicate, List.length_set, V.length_data, V.S_size]; omega)) (by first | omega | (simp only [List.length_take, List.length_drop, List.length_append, List.length_cons, List.length_nil, List.length_replicate, List.length_set, V.length_data, V.S_size]; omega)) ?_
   refine V.run T_ok 1 rfl ?_
   refine V.nil ?_
   refine V.tN ?_
   exact ⟨_, (by omega), HG, (by omega), F_b, F_c, Fk43, F53, F64, (ys70.set (((i71 : Int)).toNat) (x77 + 1)), (i71 + 1), rfl, (by first | omega | (simp only [List.length_set]; omega)), (by omega), (by first | exact (V.Row.back F83 hg82l hg82u) | exact (V.Row.back F83 hg82l hg82u).mono (fun _ h => h) (by omega) (by omega)), rfl, rfl, rfl, rfl, rfl, rfl⟩
  ·
   try replace h11 := V.dec h11
   try simp only [V.mk0, V.mk1, V.mk2, V.mk3] at h11
   refine V.exit ?_
   refine V.tX ?_
   refine V.tX ?_
   refine V.bE ?_
   refine V.tN ?_
   refine V.seq ?_
   have hk14 := F53.lt
   have hg14 := F53.gl
   have hB14 := F53.bl
   have hk14d := F64.lt
   have hg14d := F64.gl
   have hB14d := F64.bl
   refine V.region ?_
   refine V.run T_ok 1 rfl ?_
   refine V.call (entry_spec (i := 1) F53) rfl rfl rfl ?_
   rintro _ w96 ⟨a93, c94, rfl, F95, G97⟩
   have z98 := V.Fr.size G97
   try replace F_b := F_b.gr G97
   try replace F_c := F_c.gr G97
   try replace Fk43 := Fk43.gr G97
   try replace F53 := F53.gr G97
   try replace F64 := F64.gr G97
   try replace F73 := F73.gr G97
   replace HG := HG.grow G97
   clear G97
   refine V.run T_ok 3 rfl ?_
   refine V.alloc zero29 rfl rfl rfl ?_
   rintro k99 w101 s103 s104 G102 Fk100
   have z105 := V.Fr.size G102
   try replace F_b := F_b.gr G102
   try replace F_c := F_c.gr G102
   try replace Fk43 := Fk43.gr G102
   try replace F53 := F53.gr G102
   try replace F64 := F64.gr G102
   try replace F73 := F73.gr G102
   try replace F95 := F95.gr G102
   replace HG := HG.grow G102
   clear G102
   try simp only [V.cellsL, V.spliceL] at Fk100
   refine V.storeO Fk100 rfl rfl rfl rfl sz29 rfl rfl rfl rfl ?_
   rintro w106 G107 z109 Fs108
   clear Fk100
   have z110 := V.Fr.size G107
   first | replace F_b := F_b.mb G107 hD_b | clear F_b | skip
   first | replace F_c := F_c.mb G107 hD_c | clear F_c | skip
   first | replace Fk43 := Fk43.mv1 G107 (by omega) | clear Fk43 | skip
   first | replace F53 := F53.mv1 G107 (by (try dsimp only [V.In]); first | omega | grind) | clear F53 | skip
   first | replace F64 := F64.mv1 G107 (by (try dsimp only [V.In]); first | omega | grind) | clear F64 | skip
   first | replace F73 := F73.ma G107 | clear F73 | skip
   first | replace F95 := F95.ma G107 | clear F95 | skip
   replace HG := HG.n1 G107
   clear G107
   have Fk100 := Fs108; clear Fs108
   simp only [V.spliceL, V.cellsL] at Fk100
   refine V.run T_ok 1 rfl ?_
   refine V.nil ?_
   refine V.tN ?_
   refine V.seq ?_
   have hen := ow8 (b := b)
   have hen2 : (entV ⟨0, 0, [(1, b), (1, b)]⟩ 1).2 = b := by rw [hen]
   have hen1 : (entV ⟨0, 0, [(1, b), (1, b)]⟩ 1).1 = 1 := by rw [hen]
   rw [hen2] at F95
   rw [hen1, hen2] at Fk100
   refine V.region ?_
   refine V.run T_ok 1 rfl ?_
   refine V.call (from_spec (i := 1) (most := 2) F53) rfl rfl rfl ?_
   rintro _ w114 ⟨a111, c112, rfl, F113, G115⟩
   have z116 := V.Fr.size G115
   try replace F_b := F_b.gr G115
   try replace F_c := F_c.gr G115
   try replace Fk43 := Fk43.gr G115
   try replace F53 := F53.gr G115
   try replace F64 := F64.gr G115
   try replace F73 := F73.gr G115
   try replace F95 := F95.gr G115
   try replace Fk100 := Fk100.gr G115
   replace HG := HG.grow G115
   clear G115
   refine V.run T_ok 1 rfl ?_
   refine V.nil ?_
   refine V.tN ?_
   refine V.seq ?_
   refine V.seq ?_
   have hr117 : fromV (⟨0, 0, [(1, b), (1, b)]⟩) 1 2 = ([(1, b), (1, b)] : List (Int × List UInt8)) := ow5
   rw [hr117] at F113 ⊢
   clear hr117
   refine V.drawQ mixed (by kernel_rfl) ?_
   refine V.qrun T_ok 3 rfl ?_
   refine V.qsplitF (j := 2) (t := 73) rfl rfl (by (first | rfl | (subst_vars; simp))) ?_
   refine V.qrun T_ok 5 rfl ?_
   refine V.qsplitF (j := 7) (t := 78) rfl rfl (by (first | rfl | (subst_vars; simp))) ?_
   refine V.qrun T_ok 5 rfl ?_
   refine V.qyes rfl rfl rfl ?_
   refine V.qloadO T_ok Fk100 rfl rfl rfl rfl rfl ?_
   refine V.qyes rfl rfl rfl ?_
   refine V.qtoStr F95.sl Try.underlying27 Try.underlying5 Try.underlying9 rfl rfl rfl rfl ?_
   refine V.qrun T_ok 1 rfl ?_
   refine V.qyes rfl rfl rfl ?_
   refine V.qtoStr F_b Try.underlying27 Try.underlying5 Try.underlying9 rfl rfl rfl rfl ?_
   refine V.qrun T_ok 3 rfl ?_
   refine V.qsplitF (j := 19) (t := 90) rfl rfl (by (first | rfl | (subst_vars; simp))) ?_
   refine V.qrun T_ok 1 rfl ?_
   refine V.qyes rfl rfl rfl ?_
   refine V.qelem T_ok F113.sl rfl rfl sz29 rfl rfl rfl rfl (by first | omega | (simp only [List.length_take, List.length_drop, List.length_append, List.length_cons, List.length_nil, List.length_replicate, List.length_set, V.length_data, V.S_size]; omega)) (by first | omega | (simp only [List.length_take, List.length_drop, List.length_append, List.length_cons, List.length_nil, List.length_replicate, List.length_set, V.length_data, V.S_size]; omega)) ?_
   rintro b118 o119 cs120 hx121 hb122 hR128 hA123
   obtain ⟨x124, hx124⟩ : ∃ z', ([(1, b), (1, b)] : List (Int × List UInt8))[(1 : Int).toNat] = z' := ⟨_, rfl⟩
   rw [hx124] at hR128
   obtain ⟨_, _, rfl, rfl, ⟨a125, c126, rfl, F127⟩⟩ := hR128
   try simp only [Int.toNat_natCast] at hx124 hx121
   refine V.qrun T_ok 1 rfl ?_
   refine V.qyes rfl rfl rfl ?_
   refine V.qloadA T_ok (o0 := o119) (off := 1) hA123 rfl rfl rfl rfl rfl ?_
   refine V.qyes rfl rfl rfl ?_
   refine V.qtoStr F127.sl Try.underlying27 Try.underlying5 Try.underlying9 rfl rfl rfl rfl ?_
   refine V.qrun T_ok 1 rfl ?_
   refine V.qyes rfl rfl rfl ?_
   refine V.qtoStr F_b Try.underlying27 Try.underlying5 Try.underlying9 rfl rfl rfl rfl ?_
   refine V.qrun T_ok 2 rfl ?_
   refine V.qnil ?_
   rintro w129 G130
   have z131 := V.Fr.size G130
   try replace F_b := F_b.gr G130
   try replace F_c := F_c.gr G130
   try replace Fk43 := Fk43.gr G130
   try replace F53 := F53.gr G130
   try replace F64 := F64.gr G130
   try replace F73 := F73.gr G130
   try replace F95 := F95.gr G130
   try replace Fk100 := Fk100.gr G130
   try replace F113 := F113.gr G130
   try replace F127 := F127.gr G130
   replace HG := HG.grow G130
   clear G130
   refine V.tN ?_
   refine V.condN rfl (by (first | rfl | (subst_vars; simp))) ?_
   refine V.skip ?_
   refine V.tN ?_
   refine V.seq ?_
   refine V.seq ?_
   try clear F127
   refine V.region ?_
   refine V.run T_ok 1 rfl ?_
   refine V.nil ?_
   refine V.tN ?_
   refine V.block ?_
   have hbl := F_b.len63
   refine V.loopM (fun m e v133 => Fr [] w v133 ∧ w129.heap.size ≤ v133.heap.size ∧ Sl V.Cod.byte v133 D_b a_b c_b b ∧ Sl V.Cod.byte v133 D_c a_c c_c c ∧ Cells v133 k42 [.int .i64 1, .slice a22 b.length c23] 29 ∧ Lg v133 k4 g51 B52 (⟨0, 0, [(1, b), (1, b)]⟩) ∧ Lg v133 k60 g61 B62 ((⟨0, 0, [(1, b), (1, b)]⟩)) ∧ V.Row V.Cod.byte 5 v133 V.None' k14 w25.heap.size a22 c23 ys70 ∧ Cells v133 k99 [.int .i64 1, .slice a93 b.length c94] 29 ∧ V.Row V.Cod.oent 29 v133 V.None' w106.heap.size w114.heap.size a111 c112 ([(1, b), (1, b)] : List (Int × List UInt8)) ∧ ∃ (i2 : Nat) (zx : List UInt8) , m = b.length - i2 ∧ i2 ≤ b.length ∧ zx.length = b.length ∧ V.Row V.Cod.byte 5 v133 V.None' v75.heap.size w96.heap.size a93 c94 zx ∧ e 0 = .slice a_b b.length c_b ∧ e 1 = .slice a_c c.length c_c ∧ e 5 = .pointer (some ⟨k4, 0, none⟩) ∧ e 8 = .pointer (some ⟨k60, 0, none⟩) ∧ e 10 = .pointer (some ⟨k99, 0, none⟩) ∧ e 12 = .slice a111 ([(1, b), (1, b)] : List (Int × List UInt8)).length c112 ∧ e 13 = .int .i64 (i2 : Int)) ?_ ?_
   ·
    exact ⟨_, HG, (by omega), F_b, F_c, Fk43, F53, F64, F73, Fk100, F113, (0), (b), rfl, (Nat.zero_le _), (rfl), F95.re, rfl, rfl, rfl, rfl, rfl, rfl, rfl⟩
   clear HG F_b F_c Fk43 F53 F64 F73 Fk100 F113 F95
   rintro _ e v133 ⟨HG, z134, F_b, F_c, Fk43, F53, F64, F73, Fk100, F113, i2, zx, rfl, hi2, hzx, F95, he1_0, he1_1, he1_5, he1_8, he1_10, he1_12, he1_13⟩
   refine V.knownC (t := 0) he1_0 ?_
   refine V.knownC (t := 1) he1_1 ?_
   refine V.knownC (t := 5) he1_5 ?_
   refine V.knownC (t := 8) he1_8 ?_
   refine V.knownC (t := 10) he1_10 ?_
   refine V.knownC (t := 12) he1_12 ?_
   refine V.knownC (t := 13) he1_13 ?_
   refine V.seq ?_
   refine V.seq ?_
   refine V.region ?_
   refine V.run T_ok 2 rfl ?_
   refine V.loadO T_ok Fk100 rfl rfl rfl rfl rfl ?_
   refine V.run T_ok 2 rfl ?_
   refine V.nil ?_
   refine V.tN ?_
   refine V.condT rfl (fun h19 => ?_) (fun h19 => ?_)
   ·
    try replace h19 := V.dec h19
    try simp only [V.mk0, V.mk1, V.mk2, V.mk3] at h19
    refine V.skip ?_
    refine V.tN ?_
    refine V.seq ?_
    refine V.block ?_
    refine V.region ?_
    refine V.run T_ok 1 rfl ?_
    refine V.loadO T_ok Fk100 rfl rfl rfl rfl rfl ?_
    refine V.run T_ok 1 rfl ?_
    obtain ⟨g140, hg140l, hg140u, F141⟩ := V.Row.own1 V.flat_byte F95 (by first | omega | (simp only [List.length_take, List.length_drop, List.length_append, List.length_cons, List.length_nil, List.length_replicate, List.length_set, V.length_data, V.S_size]; omega))
    clear F95
    refine V.elemO' T_ok F141 (by first | rfl | (first | omega | (simp only [List.length_take, List.length_drop, List.length_append, List.length_cons, List.length_nil, List.length_replicate, List.length_set, V.length_data, V.S_size]; omega))) rfl rfl sz5 rfl rfl rfl rfl (by first | omega | (simp only [List.length_take, List.length_drop, List.length_append, List.length_cons, List.length_nil, List.length_replicate, List.length_set, V.length_data, V.S_size]; omega)) (by first | omega | (simp only [List.length_take, List.length_drop, List.length_append, List.length_cons, List.length_nil, List.length_replicate, List.length_set, V.length_data, V.S_size]; omega)) ?_
    rintro hx136
    obtain ⟨cs139, hR137, hA138⟩ := V.Own.el F141 hx136
    obtain ⟨x135, hx135⟩ : ∃ z', zx[((i2 : Int)).toNat] = z' := ⟨_, rfl⟩
    rw [hx135] at hR137
    obtain rfl := hR137
    try simp only [Int.toNat_natCast] at hx135 hx136
    refine V.storeS (D' := V.None') (j := ((i2 : Int)).toNat) (x' := 0) V.flat_byte F141 rfl rfl rfl (by first | omega | (simp only [List.length_take, List.length_drop, List.length_append, List.length_cons, List.length_nil, List.length_replicate, List.length_set, V.length_data, V.S_size]; omega)) rfl rfl rfl sz5 rfl rfl ?_
    rintro w142 G143 z144 Fnew
    clear F141
    have z145 := V.Fr.size G143
    first | replace F_b := F_b.mb G143 hD_b | clear F_b | skip
    first | replace F_c := F_c.mb G143 hD_c | clear F_c | skip
    first | replace Fk43 := Fk43.mv1 G143 (by omega) | clear Fk43 | skip
    first | replace F53 := F53.mv1 G143 (by (try dsimp only [V.In]); first | omega | grind) | clear F53 | skip
    first | replace F64 := F64.mv1 G143 (by (try dsimp only [V.In]); first | omega | grind) | clear F64 | skip
    first | replace F73 := F73.ma G143 | clear F73 | skip
    first | replace Fk100 := Fk100.mv1 G143 (by omega) | clear Fk100 | skip
    first | replace F113 := F113.ma G143 | clear F113 | skip
    replace HG := HG.n1 G143
    clear G143
    have F141 := Fnew; clear Fnew
    refine V.nil ?_
    refine V.bN ?_
    refine V.tN ?_
    refine V.region ?_
    refine V.run T_ok 1 rfl ?_
    refine V.addN rfl rfl rfl rfl rfl (by first | omega | (simp only [List.length_take, List.length_drop, List.length_append, List.length_cons, List.length_nil, List.length_replicate, List.length_set, V.length_data, V.S_size]; omega)) (by first | omega | (simp only [List.length_take, List.length_drop, List.length_append, List.length_cons, List.length_nil, List.length_replicate, List.length_set, V.length_data, V.S_size]; omega)) ?_
    refine V.run T_ok 1 rfl ?_
    refine V.nil ?_
    refine V.tN ?_
    exact ⟨_, (by omega), HG, (by omega), F_b, F_c, Fk43, F53, F64, F73, Fk100, F113, (i2 + 1), (zx.set (((i2 : Int)).toNat) 0), rfl, (by omega), ((by simp only [List.length_set]; omega)), (by first | exact (V.Row.back F141 hg140l hg140u) | exact (V.Row.back F141 hg140l hg140u).mono (fun _ h => h) (by omega) (by omega)), rfl, rfl, rfl, rfl, rfl, rfl, rfl⟩
   ·
    try replace h19 := V.dec h19
    try simp only [V.mk0, V.mk1, V.mk2, V.mk3] at h19
    refine V.exit ?_
    refine V.tX ?_
    refine V.tX ?_
    refine V.bE ?_
    refine V.tN ?_
    refine V.seq ?_
    refine V.seq ?_
    obtain ⟨gy, Ey, ya0, yc0, ya1, yc1, yrest, rfl, hgy, hEy, FY, FYE⟩ := open2 F113
    clear F113
    rw [show ([(1, b), (1, b)] : List (Int × List UInt8)).length = 2 from rfl]
    refine V.region ?_
    refine V.run T_ok 1 rfl ?_
    refine V.nil ?_
    refine V.tN ?_
    refine V.block ?_
    refine V.loopM (fun m e v147 => Fr [] w v147 ∧ v133.heap.size ≤ v147.heap.size ∧ Sl V.Cod.byte v147 D_b a_b c_b b ∧ Sl V.Cod.byte v147 D_c a_c c_c c ∧ Cells v147 k42 [.int .i64 1, .slice a22 b.length c23] 29 ∧ Lg v147 k4 g51 B52 (⟨0, 0, [(1, b), (1, b)]⟩) ∧ Lg v147 k60 g61 B62 ((⟨0, 0, [(1, b), (1, b)]⟩)) ∧ V.Row V.Cod.byte 5 v147 V.None' k14 w25.heap.size a22 c23 ys70 ∧ V.Row V.Cod.byte 5 v147 V.None' v75.heap.size w96.heap.size a93 c94 zx ∧ Cells v147 k99 [.int .i64 1, .slice a93 b.length c94] 29 ∧ Cells v147 gy (.int .i64 1 :: .slice ya0 b.length yc0 :: .int .i64 1 :: .slice ya1 b.length yc1 :: yrest) 29 ∧ ∃ (i3 : Nat) (zy : List UInt8) , m = b.length - i3 ∧ i3 ≤ b.length ∧ zy.length = b.length ∧ V.RowE V.Cod.byte 5 v147 V.None' Ey ya1 yc1 zy ∧ e 0 = .slice a_b b.length c_b ∧ e 1 = .slice a_c c.length c_c ∧ e 5 = .pointer (some ⟨k4, 0, none⟩) ∧ e 8 = .pointer (some ⟨k60, 0, none⟩) ∧ e 12 = .slice (some ⟨gy, 0, none⟩) 2 c112 ∧ e 14 = .int .i64 (i3 : Int)) ?_ ?_
    ·
     exact ⟨_, HG, (by omega), F_b, F_c, Fk43, F53, F64, F73, F95, Fk100, FY, (0), (b), rfl, (Nat.zero_le _), (rfl), FYE, rfl, rfl, rfl, rfl, rfl, rfl⟩
    clear HG F_b F_c Fk43 F53 F64 F73 F95 Fk100 FY FYE
    rintro _ e v147 ⟨HG, z148, F_b, F_c, Fk43, F53, F64, F73, F95, Fk100, FY, i3, zy, rfl, hi3, hzy, FYE, he2_0, he2_1, he2_5, he2_8, he2_12, he2_14⟩
    refine V.knownC (t := 0) he2_0 ?_
    refine V.knownC (t := 1) he2_1 ?_
    refine V.knownC (t := 5) he2_5 ?_
    refine V.knownC (t := 8) he2_8 ?_
    refine V.knownC (t := 12) he2_12 ?_
    refine V.knownC (t := 14) he2_14 ?_
    refine V.seq ?_
    refine V.seq ?_
    refine V.region ?_
    refine V.run T_ok 2 rfl ?_
    refine V.step rfl rfl (V.elem_run T_ok rfl rfl sz29 rfl rfl (by decide) (by decide) _) ?_
    refine V.run T_ok 1 rfl ?_
    refine V.loadO T_ok FY rfl rfl rfl rfl rfl ?_
    refine V.run T_ok 2 rfl ?_
    refine V.nil ?_
    refine V.tN ?_
    refine V.condT rfl (fun h23 => ?_) (fun h23 => ?_)
    ·
     try replace h23 := V.dec h23
     try simp only [V.mk0, V.mk1, V.mk2, V.mk3] at h23
     refine V.skip ?_
     refine V.tN ?_
     refine V.seq ?_
     refine V.block ?_
     refine V.region ?_
     refine V.run T_ok 1 rfl ?_
     refine V.step rfl rfl (V.elem_run T_ok rfl rfl sz29 rfl rfl (by decide) (by decide) _) ?_
     refine V.run T_ok 1 rfl ?_
     refine V.loadO T_ok FY rfl rfl rfl rfl rfl ?_
     refine V.run T_ok 1 rfl ?_
     obtain ⟨g154, hg154E, F155⟩ := V.RowE.own1 V.flat_byte FYE (by first | omega | (simp only [List.length_take, List.length_drop, List.length_append, List.length_cons, List.length_nil, List.length_replicate, List.length_set, V.length_data, V.S_size]; omega))
     clear FYE
     try have hq156 := hEy _ hg154E
     refine V.elemO' T_ok F155 (by first | rfl | (first | omega | (simp only [List.length_take, List.length_drop, List.length_append, List.length_cons, List.length_nil, List.length_replicate, List.length_set, V.length_data, V.S_size]; omega))) rfl rfl sz5 rfl rfl rfl rfl (by first | omega | (simp only [List.length_take, List.length_drop, List.length_append, List.length_cons, List.length_nil, List.length_replicate, List.length_set, V.length_data, V.S_size]; omega)) (by first | omega | (simp only [List.length_take, List.length_drop, List.length_append, List.length_cons, List.length_nil, List.length_replicate, List.length_set, V.length_data, V.S_size]; omega)) ?_
     rintro hx150
     obtain ⟨cs153, hR151, hA152⟩ := V.Own.el F155 hx150
     obtain ⟨x149, hx149⟩ : ∃ z', zy[((i3 : Int)).toNat] = z' := ⟨_, rfl⟩
     rw [hx149] at hR151
     obtain rfl := hR151
     try simp only [Int.toNat_natCast] at hx149 hx150
     refine V.storeS (D' := V.None') (j := ((i3 : Int)).toNat) (x' := 0) V.flat_byte F155 rfl rfl rfl (by first | omega | (simp only [List.length_take, List.length_drop, List.length_append, List.length_cons, List.length_nil, List.length_replicate, List.length_set, V.length_data, V.S_size]; omega)) rfl rfl rfl sz5 rfl rfl ?_
     rintro w157 G158 z159 Fnew
     clear F155
     have z160 := V.Fr.size G158
     first | replace F_b := F_b.mb G158 hD_b | clear F_b | skip
     first | replace F_c := F_c.mb G158 hD_c | clear F_c | skip
     first | replace Fk43 := Fk43.mv1 G158 (by omega) | clear Fk43 | skip
     first | replace F53 := F53.mv1 G158 (by (try dsimp only [V.In]); first | omega | grind) | clear F53 | skip
     first | replace F64 := F64.mv1 G158 (by (try dsimp only [V.In]); first | omega | grind) | clear F64 | skip
     first | replace F73 := F73.ma G158 | clear F73 | skip
     first | replace F95 := F95.ma G158 | clear F95 | skip
     first | replace Fk100 := Fk100.mv1 G158 (by omega) | clear Fk100 | skip
     first | replace FY := FY.mv1 G158 (by omega) | clear FY | skip
     replace HG := HG.n1 G158
     clear G158
     have F155 := Fnew; clear Fnew
     refine V.nil ?_
     refine V.bN ?_
     refine V.tN ?_
     refine V.region ?_
     refine V.run T_ok 1 rfl ?_
     refine V.addN rfl rfl rfl rfl rfl (by first | omega | (simp only [List.length_take, List.length_drop, List.length_append, List.length_cons, List.length_nil, List.length_replicate, List.length_set, V.length_data, V.S_size]; omega)) (by first | omega | (simp only [List.length_take, List.length_drop, List.length_append, List.length_cons, List.length_nil, List.length_replicate, List.length_set, V.length_data, V.S_size]; omega)) ?_
     refine V.run T_ok 1 rfl ?_
     refine V.nil ?_
     refine V.tN ?_
     exact ⟨_, (by omega), HG, (by omega), F_b, F_c, Fk43, F53, F64, F73, F95, Fk100, FY, (i3 + 1), (zy.set (((i3 : Int)).toNat) 0), rfl, (by omega), ((by simp only [List.length_set]; omega)), (V.RowE.back F155 hg154E), rfl, rfl, rfl, rfl, rfl, rfl⟩
    ·
     try replace h23 := V.dec h23
     try simp only [V.mk0, V.mk1, V.mk2, V.mk3] at h23
     refine V.exit ?_
     refine V.tX ?_
     refine V.tX ?_
     refine V.bE ?_
     refine V.tN ?_
     refine V.seq ?_
     refine V.region ?_
     refine V.run T_ok 2 rfl ?_
     refine V.mkStruct T_ok zero29 rfl rfl rfl rfl rfl ?_
     refine V.call (append_spec (t := 2) F64 F_c (fun k hk => by have := hD_c k hk; omega) (by first | omega | simp | decide)) rfl rfl rfl ?_
     rintro _ w166 ⟨g161, B162, rfl, F163, h164, h165, G167⟩
     obtain ⟨w168, G169, G170⟩ := V.Fr.two G167
     clear G167
     have z171 := V.Fr.size G169
     first | replace F_b := F_b.mb G169 hD_b | clear F_b | skip
     first | replace F_c := F_c.mb G169 hD_c | clear F_c | skip
     first | replace Fk43 := Fk43.mv1 G169 (by omega) | clear Fk43 | skip
     first | replace F53 := F53.mv1 G169 (by (try dsimp only [V.In]); first | omega | grind) | clear F53 | skip
     first | replace F64 := F64.mv1 G169 (by (try dsimp only [V.In]); first | omega | grind) | clear F64 | skip
     first | replace F73 := F73.ma G169 | clear F73 | skip
     first | replace F95 := F95.ma G169 | clear F95 | skip
     first | replace Fk100 := Fk100.mv1 G169 (by omega) | clear Fk100 | skip
     first | replace FY := FY.mv1 G169 (by omega) | clear FY | skip
     first | replace FYE := FYE.mv1 G169 (by (try dsimp only [V.In]); first | omega | grind) | clear FYE | skip
     replace HG := HG.n1 G169
     clear G169
     have z172 := V.Fr.size G170
     first | replace F_b := F_b.mb G170 hD_b | clear F_b | skip
     first | replace F_c := F_c.mb G170 hD_c | clear F_c | skip
     first | replace Fk43 := Fk43.mv1 G170 (by omega) | clear Fk43 | skip
     first | replace F53 := F53.mv1 G170 (by (try dsimp only [V.In]); first | omega | grind) | clear F53 | skip
     first | replace F64 := F64.mv1 G170 (by (try dsimp only [V.In]); first | omega | grind) | clear F64 | skip
     first | replace F73 := F73.ma G170 | clear F73 | skip
     first | replace F95 := F95.ma G170 | clear F95 | skip
     first | replace Fk100 := Fk100.mv1 G170 (by omega) | clear Fk100 | skip
     first | replace FY := FY.mv1 G170 (by omega) | clear FY | skip
     first | replace FYE := FYE.mv1 G170 (by (try dsimp only [V.In]); first | omega | grind) | clear FYE | skip
     replace HG := HG.n1 G170
     clear G170
     refine V.nil ?_
     refine V.tN ?_
     refine V.seq ?_
     have hr173 : appV (⟨0, 0, [(1, b), (1, b)]⟩) 2 c = ⟨0, 0, [(1, b), (1, b), (2, c)]⟩ := ow3 (by omega)
     rw [hr173] at F163
     clear hr173
     refine V.region ?_
     refine V.run T_ok 2 rfl ?_
     refine V.mkStruct T_ok zero29 rfl rfl rfl rfl rfl ?_
     refine V.mkSlice T_ok zero29 rfl rfl sz29 rfl rfl rfl rfl rfl rfl ?_
     rintro k174 w177 s179 s180 G178 Fk175
     have z181 := V.Fr.size G178
     try replace F_b := F_b.gr G178
     try replace F_c := F_c.gr G178
     try replace Fk43 := Fk43.gr G178
     try replace F53 := F53.gr G178
     try replace F73 := F73.gr G178
     try replace F95 := F95.gr G178
     try replace Fk100 := Fk100.gr G178
     try replace FY := FY.gr G178
     try replace FYE := FYE.gr G178
     try replace F163 := F163.gr G178
     replace HG := HG.grow G178
     clear G178
     have F176 : Sl V.Cod.ent w177 (fun k => k = k174 ∨ D_c k) (some ⟨k174, 0, none⟩) ([(3, c)] : List (Int × List UInt8)).length ([(3, c)] : List (Int × List UInt8)) := V.Cells.sl Fk175 (V.reps_cons (x := (3, c)) ⟨_, _, rfl, rfl, ⟨_, _, rfl, F_c.mono (fun k h => .inr (h))⟩⟩ rfl rfl) (.inl rfl) (by simp [maxLen])
     have hDu182 : ∀ k, (fun k => k = k174 ∨ D_c k) k → k < w177.heap.size := by intro k h; (try dsimp only at h); rcases h with h | h <;> first | omega | (have := h.2; omega) | (have := h.1; omega) | (have := hD_c k h; omega) | (have := hD_b k h; omega) | (have := hD_c k h; omega)
     refine V.call (splice_spec (prev := 1) (t := 1) F53 F176 (fun k hk => by have := hDu182 k hk; omega) (by first | omega | simp | decide) (by first | omega | simp | decide) (by first | assumption | (intro x hx; simp at hx; subst hx; dsimp only; omega) | simp)) rfl rfl rfl ?_
     rintro _ w188 ⟨g183, B184, rfl, F185, h186, h187, G189⟩
     have z190 := V.Fr.size G189
     first | replace F_b := F_b.mb G189 hD_b | clear F_b | skip
     first | replace F_c := F_c.mb G189 hD_c | clear F_c | skip
     first | replace Fk43 := Fk43.mv1 G189 (by omega) | clear Fk43 | skip
     first | replace F53 := F53.mv1 G189 (by (try dsimp only [V.In]); first | omega | grind) | clear F53 | skip
     first | replace F73 := F73.ma G189 | clear F73 | skip
     first | replace F95 := F95.ma G189 | clear F95 | skip
     first | replace Fk100 := Fk100.mv1 G189 (by omega) | clear Fk100 | skip
     first | replace FY := FY.mv1 G189 (by omega) | clear FY | skip
     first | replace FYE := FYE.mv1 G189 (by (try dsimp only [V.In]); first | omega | grind) | clear FYE | skip
     first | replace F163 := F163.mv1 G189 (by (try dsimp only [V.In]); first | omega | grind) | clear F163 | skip
     first | replace Fk175 := Fk175.mv1 G189 (by omega) | clear Fk175 | skip
     first | replace F176 := F176.mb G189 hDu182 | clear F176 | skip
     replace HG := HG.n1 G189
     clear G189
     refine V.nil ?_
     refine V.tN ?_
     refine V.seq ?_
     have hr191 : splV (⟨0, 0, [(1, b), (1, b)]⟩) 1 1 ([(3, c)] : List (Int × List UInt8)) = ⟨0, 0, [(1, b), (3, c)]⟩ := ow4
     rw [hr191] at F185
     clear hr191
     refine V.region ?_
     refine V.run T_ok 1 rfl ?_
     refine V.call (from_spec (i := 1) (most := 9) F185) rfl rfl rfl ?_
     rintro _ w195 ⟨a192, c193, rfl, F194, G196⟩
     have z197 := V.Fr.size G196
     try replace F_b := F_b.gr G196
     try replace F_c := F_c.gr G196
     try replace Fk43 := Fk43.gr G196
     try replace F73 := F73.gr G196
     try replace F95 := F95.gr G196
     try replace Fk100 := Fk100.gr G196
     try replace FY := FY.gr G196
     try replace FYE := FYE.gr G196
     try replace F163 := F163.gr G196
     try replace Fk175 := Fk175.gr G196
     try replace F176 := F176.gr G196
     try replace F185 := F185.gr G196
     replace HG := HG.grow G196
     clear G196
     refine V.run T_ok 1 rfl ?_
     refine V.nil ?_
     refine V.tN ?_
     refine V.seq ?_
     have hr198 : fromV (⟨0, 0, [(1, b), (3, c)]⟩) 1 9 = ([(1, b), (3, c)] : List (Int × List UInt8)) := ow6
     rw [hr198] at F194 ⊢
     clear hr198
     refine V.region ?_
     refine V.run T_ok 1 rfl ?_
     refine V.call (from_spec (i := 1) (most := 9) F163) rfl rfl rfl ?_
     rintro _ w202 ⟨a199, c200, rfl, F201, G203⟩
     have z204 := V.Fr.size G203
     try replace F_b := F_b.gr G203
     try replace F_c := F_c.gr G203
     try replace Fk43 := Fk43.gr G203
     try replace F73 := F73.gr G203
     try replace F95 := F95.gr G203
     try replace Fk100 := Fk100.gr G203
     try replace FY := FY.gr G203
     try replace FYE := FYE.gr G203
     try replace F163 := F163.gr G203
     try replace Fk175 := Fk175.gr G203
     try replace F176 := F176.gr G203
     try replace F185 := F185.gr G203
     try replace F194 := F194.gr G203
     replace HG := HG.grow G203
     clear G203
     refine V.run T_ok 1 rfl ?_
     refine V.nil ?_
     refine V.tN ?_
     refine V.seq ?_
     have hr205 : fromV (⟨0, 0, [(1, b), (1, b), (2, c)]⟩) 1 9 = ([(1, b), (1, b), (2, c)] : List (Int × List UInt8)) := ow7
     rw [hr205] at F201 ⊢
     clear hr205
     refine V.drawQ mixed (by kernel_rfl) ?_
     refine V.qcall V.clo (fun w1 g => (alive_spec)) rfl rfl rfl ?_
     refine V.qrun T_ok 6 rfl ?_
     refine V.qsplitT (j := 6) (t := 145) rfl rfl (by (first | rfl | (subst_vars; simp))) ?_
     refine V.qrun T_ok 1 rfl ?_
     refine V.qyes rfl rfl rfl ?_
     refine V.qelem T_ok F194.sl rfl rfl sz29 rfl rfl rfl rfl (by first | omega | (simp only [List.length_take, List.length_drop, List.length_append, List.length_cons, List.length_nil, List.length_replicate, List.length_set, V.length_data, V.S_size]; omega)) (by first | omega | (simp only [List.length_take, List.length_drop, List.length_append, List.length_cons, List.length_nil, List.length_replicate, List.length_set, V.length_data, V.S_size]; omega)) ?_
     rintro b206 o207 cs208 hx209 hb210 hR216 hA211
     obtain ⟨x212, hx212⟩ : ∃ z', ([(1, b), (3, c)] : List (Int × List UInt8))[(0 : Int).toNat] = z' := ⟨_, rfl⟩
     rw [hx212] at hR216
     obtain ⟨_, _, rfl, rfl, ⟨a213, c214, rfl, F215⟩⟩ := hR216
     try simp only [Int.toNat_natCast] at hx212 hx209
     refine V.qrun T_ok 1 rfl ?_
     refine V.qyes rfl rfl rfl ?_
     refine V.qloadA T_ok (o0 := o207) (off := 1) hA211 rfl rfl rfl rfl rfl ?_
     refine V.qyes rfl rfl rfl ?_
     refine V.qtoStr F215.sl Try.underlying27 Try.underlying5 Try.underlying9 rfl rfl rfl rfl ?_
     refine V.qrun T_ok 1 rfl ?_
     refine V.qyes rfl rfl rfl ?_
     refine V.qtoStr F_b Try.underlying27 Try.underlying5 Try.underlying9 rfl rfl rfl rfl ?_
     refine V.qrun T_ok 3 rfl ?_
     refine V.qsplitT (j := 16) (t := 155) rfl rfl (by (first | rfl | (subst_vars; simp))) ?_
     refine V.qrun T_ok 1 rfl ?_
     refine V.qyes rfl rfl rfl ?_
     refine V.qelem T_ok F194.sl rfl rfl sz29 rfl rfl rfl rfl (by first | omega | (simp only [List.length_take, List.length_drop, List.length_append, List.length_cons, List.length_nil, List.length_replicate, List.length_set, V.length_data, V.S_size]; omega)) (by first | omega | (simp only [List.length_take, List.length_drop, List.length_append, List.length_cons, List.length_nil, List.length_replicate, List.length_set, V.length_data, V.S_size]; omega)) ?_
     rintro b217 o218 cs219 hx220 hb221 hR227 hA222
     obtain ⟨x223, hx223⟩ : ∃ z', ([(1, b), (3, c)] : List (Int × List UInt8))[(1 : Int).toNat] = z' := ⟨_, rfl⟩
     rw [hx223] at hR227
     obtain ⟨_, _, rfl, rfl, ⟨a224, c225, rfl, F226⟩⟩ := hR227
     try simp only [Int.toNat_natCast] at hx223 hx220
     refine V.qrun T_ok 1 rfl ?_
     refine V.qyes rfl rfl rfl ?_
     refine V.qloadA T_ok (o0 := o218) (off := 0) hA222 rfl rfl rfl rfl rfl ?_
     refine V.qrun T_ok 3 rfl ?_
     refine V.qsplitT (j := 23) (t := 162) rfl rfl (by (first | rfl | (subst_vars; simp))) ?_
     refine V.qrun T_ok 1 rfl ?_
     refine V.qyes rfl rfl rfl ?_
     refine V.qelem T_ok F194.sl rfl rfl sz29 rfl rfl rfl rfl (by first | omega | (simp only [List.length_take, List.length_drop, List.length_append, List.length_cons, List.length_nil, List.length_replicate, List.length_set, V.length_data, V.S_size]; omega)) (by first | omega | (simp only [List.length_take, List.length_drop, List.length_append, List.length_cons, List.length_nil, List.length_replicate, List.length_set, V.length_data, V.S_size]; omega)) ?_
     rintro b228 o229 cs230 hx231 hb232 hR238 hA233
     obtain ⟨x234, hx234⟩ : ∃ z', ([(1, b), (3, c)] : List (Int × List UInt8))[(1 : Int).toNat] = z' := ⟨_, rfl⟩
     rw [hx234] at hR238
     obtain ⟨_, _, rfl, rfl, ⟨a235, c236, rfl, F237⟩⟩ := hR238
     try simp only [Int.toNat_natCast] at hx234 hx231
     obtain rfl : x223 = x234 := hx223.symm.trans hx234
     refine V.qrun T_ok 1 rfl ?_
     refine V.qyes rfl rfl rfl ?_
     refine V.qloadA T_ok (o0 := o229) (off := 1) hA233 rfl rfl rfl rfl rfl ?_
     refine V.qyes rfl rfl rfl ?_
     refine V.qtoStr F237.sl Try.underlying27 Try.underlying5 Try.underlying9 rfl rfl rfl rfl ?_
     refine V.qrun T_ok 1 rfl ?_
     refine V.qyes rfl rfl rfl ?_
     refine V.qtoStr F_c Try.underlying27 Try.underlying5 Try.underlying9 rfl rfl rfl rfl ?_
     refine V.qrun T_ok 3 rfl ?_
     refine V.qsplitT (j := 33) (t := 172) rfl rfl (by (first | rfl | (subst_vars; simp))) ?_
     refine V.qrun T_ok 5 rfl ?_
     refine V.qsplitT (j := 38) (t := 177) rfl rfl (by (first | rfl | (subst_vars; simp))) ?_
     refine V.qrun T_ok 1 rfl ?_
     refine V.qyes rfl rfl rfl ?_
     refine V.qelem T_ok F201.sl rfl rfl sz29 rfl rfl rfl rfl (by first | omega | (simp only [List.length_take, List.length_drop, List.length_append, List.length_cons, List.length_nil, List.length_replicate, List.length_set, V.length_data, V.S_size]; omega)) (by first | omega | (simp only [List.length_take, List.length_drop, List.length_append, List.length_cons, List.length_nil, List.length_replicate, List.length_set, V.length_data, V.S_size]; omega)) ?_
     rintro b239 o240 cs241 hx242 hb243 hR249 hA244
     obtain ⟨x245, hx245⟩ : ∃ z', ([(1, b), (1, b), (2, c)] : List (Int × List UInt8))[(1 : Int).toNat] = z' := ⟨_, rfl⟩
     rw [hx245] at hR249
     obtain ⟨_, _, rfl, rfl, ⟨a246, c247, rfl, F248⟩⟩ := hR249
     try simp only [Int.toNat_natCast] at hx245 hx242
     refine V.qrun T_ok 1 rfl ?_
     refine V.qyes rfl rfl rfl ?_
     refine V.qloadA T_ok (o0 := o240) (off := 0) hA244 rfl rfl rfl rfl rfl ?_
     refine V.qrun T_ok 3 rfl ?_
     refine V.qsplitT (j := 45) (t := 184) rfl rfl (by (first | rfl | (subst_vars; simp))) ?_
     refine V.qrun T_ok 1 rfl ?_
     refine V.qyes rfl rfl rfl ?_
     refine V.qelem T_ok F201.sl rfl rfl sz29 rfl rfl rfl rfl (by first | omega | (simp only [List.length_take, List.length_drop, List.length_append, List.length_cons, List.length_nil, List.length_replicate, List.length_set, V.length_data, V.S_size]; omega)) (by first | omega | (simp only [List.length_take, List.length_drop, List.length_append, List.length_cons, List.length_nil, List.length_replicate, List.length_set, V.length_data, V.S_size]; omega)) ?_
     rintro b250 o251 cs252 hx253 hb254 hR260 hA255
     obtain ⟨x256, hx256⟩ : ∃ z', ([(1, b), (1, b), (2, c)] : List (Int × List UInt8))[(1 : Int).toNat] = z' := ⟨_, rfl⟩
     rw [hx256] at hR260
     obtain ⟨_, _, rfl, rfl, ⟨a257, c258, rfl, F259⟩⟩ := hR260
     try simp only [Int.toNat_natCast] at hx256 hx253
     obtain rfl : x245 = x256 := hx245.symm.trans hx256
     refine V.qrun T_ok 1 rfl ?_
     refine V.qyes rfl rfl rfl ?_
     refine V.qloadA T_ok (o0 := o251) (off := 1) hA255 rfl rfl rfl rfl rfl ?_
     refine V.qyes rfl rfl rfl ?_
     refine V.qtoStr F259.sl Try.underlying27 Try.underlying5 Try.underlying9 rfl rfl rfl rfl ?_
     refine V.qrun T_ok 1 rfl ?_
     refine V.qyes rfl rfl rfl ?_
     refine V.qtoStr F_b Try.underlying27 Try.underlying5 Try.underlying9 rfl rfl rfl rfl ?_
     refine V.qrun T_ok 3 rfl ?_
     refine V.qnil ?_
     rintro w261 G262
     have z263 := V.Fr.size G262
     try replace F_b := F_b.gr G262
     try replace F_c := F_c.gr G262
     try replace Fk43 := Fk43.gr G262
     try replace F73 := F73.gr G262
     try replace F95 := F95.gr G262
     try replace Fk100 := Fk100.gr G262
     try replace FY := FY.gr G262
     try replace FYE := FYE.gr G262
     try replace F163 := F163.gr G262
     try replace Fk175 := Fk175.gr G262
     try replace F176 := F176.gr G262
     try replace F185 := F185.gr G262
     try replace F194 := F194.gr G262
     try replace F201 := F201.gr G262
     try replace F215 := F215.gr G262
     try replace F226 := F226.gr G262
     try replace F237 := F237.gr G262
     try replace F248 := F248.gr G262
     try replace F259 := F259.gr G262
     replace HG := HG.grow G262
     clear G262
     refine V.tN ?_
     refine V.ret ?_
     refine V.done rfl ?_
     exact ⟨congrArg Value.bool (by subst_vars; simp), HG⟩

end Go.Proofs.Ytaekbikdeeaphaa
