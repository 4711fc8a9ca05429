/- Proved here: walks: what functions of this seat's program return and what they leave of memory, each as a contract. Conditions: stated at each theorem. -/
import Derived.Test.YtmmgmkklakkooaaGreatMbag2
namespace Go.Proofs.YtmmgmkklakkooaaGreat
set_option linter.unusedVariables false
set_option linter.unusedSimpArgs false
open Go
open V (Bytes Meets Env Sl Own Gr Fr Cells S)
theorem flip_byte (x : UInt8) (k : Nat) : Go.bits .xor .u8 (x.toNat : Int) (IntKind.u8.wrap (1 * 2 ^ min ((k % 8 : Nat) : Int).toNat IntKind.u8.bits)) = ((x ^^^ UInt8.ofNat (2 ^ (k % 8))).toNat : Int) := by
  have e1 : min ((k % 8 : Nat) : Int).toNat IntKind.u8.bits = k % 8 := by simp [IntKind.bits]; omega
  have h7 : k % 8 < 8 := Nat.mod_lt _ (by decide)
  have e2 : IntKind.u8.wrap (1 * 2 ^ (k % 8)) = ((UInt8.ofNat (2 ^ (k % 8))).toNat : Int) := by
    generalize k % 8 = q at h7
    match q, h7 with
    | 0, _ => rfl
    | 1, _ => rfl
    | 2, _ => rfl
    | 3, _ => rfl
    | 4, _ => rfl
    | 5, _ => rfl
    | 6, _ => rfl
    | 7, _ => rfl
  rw [e1, e2, V.xor8]
theorem flip_set {L : List UInt8} {j k : Nat} {x : UInt8} (hj : j = k / 8) (hlt : j < L.length) (hx : L[j] = x) : L.set j (x ^^^ UInt8.ofNat (2 ^ (k % 8))) = flip1 L k := by
  subst hj
  rw [flip1, List.getD_eq_getElem?_getD, List.getElem?_eq_getElem hlt, Option.getD_some, hx]
section
open V
variable {P : Program} {n : Nat} {ops : Array Oper} {e : Env} {w : World} {rest l : List Oper} {o : Oper} {d : Nat} {T : Tab} {α : Type} {C : Cod α} {KC : World → Prop} {Q' : Env → Prop}
theorem qelemO2 (hT : tabB P T = true) {t e' c g ty len : Nat} {D : Nat → Prop} {a : Option Addr} {xs : List α} {x ix : Operand} {k : IntKind} {i : Int} (F : Own C ty w D g a c xs) (hlen : len = xs.length) (ho : o.op = .indexAddr t x ix) (ht : V.look T t = some (.sl e')) (hs : sizeT P e' = some C.sz)
    (hx : evn n e x = some (.slice a len c)) (hi' : evn n e ix = some (.int k i)) (hg : o.guard = none) (hd : o.dst = some d) (h0 : 0 ≤ i) (h1 : i < len)
    (K : ∀ (_ : i.toNat < xs.length), VQ P n ops KC w Q' rest (e.set d (.pointer (some ⟨g, i.toNat * C.sz, none⟩)))) : VQ P n ops KC w Q' (o :: rest) e := by
  subst hlen
  exact qelemO hT F ho ht hs hx hi' hg hd h0 h1 K
end


section
open V
variable {P : Program} {n : Nat} {e : Env} {o : Oper}
theorem V.shl_run {t t' : Nat} {x y : Operand} {k k' : IntKind} {a b : Int} (ho : o.op = .binOp .shl t x y t') (hx : evn n e x = some (.int k a)) (hy : evn n e y = some (.int k' b)) (h0 : 0 ≤ b) (w : World) :
    (execOp (act n e).eval o).run P w = .ok (.value (.int k (k.wrap (a * 2 ^ min b.toNat k.bits)))) w := by
  simp only [execOp, ho, evn_eval hx, evn_eval hy]
  refine run_pure_value (bin1_run ?_)
  simp [bin1, Int.not_lt.2 h0]
end
theorem okL_set {l : List (List UInt8)} {j : Nat} {x : List UInt8} (h : okL l) (hx : 8 ≤ x.length ∧ x.length ≤ 1000000) : okL (l.set j x) := by
  refine ⟨by rw [List.length_set]; exact h.1, fun y hy => ?_⟩
  rcases List.mem_or_eq_of_mem_set hy with h1 | h1
  · exact h.2 y h1
  · rw [h1]; exact hx
/-- which bit is turned -/
def spK (n : Nat) (bit : Int) : Nat := ((if bit < 0 then -(bit + 1) else bit) % (8 * n : Int)).toNat
def spL (l : List (List UInt8)) (i bit : Int) : List (List UInt8) := if 0 ≤ i ∧ i < l.length then l.set i.toNat (flip1 (l.getD i.toNat []) (spK (l.getD i.toNat []).length bit)) else l

set_option maxHeartbeats 900000 in
set_option maxRecDepth 10000 in
theorem bspoil_spec {w : World} {k g : Nat} {B : Nat → Prop} {l : List (List UInt8)} (FX : Bg w k g B l) {i : Int} {bit : Int} (hb : -9223372036854775808 ≤ bit ∧ bit < 9223372036854775807) :
    Meets Tryz.prog 19 [.pointer (some ⟨k, 0, none⟩), .int .i64 i, .int .i64 bit] w fun r w' => ∃ (rg135 : Nat) (rB135 : Nat → Prop), r = .int .i64 (if 0 ≤ i ∧ i < (l.length : Int) then 0 else 1) ∧ Bg w' k rg135 rB135 (spL l i bit) ∧ (rg135 = g ∨ w.heap.size ≤ rg135) ∧ (∀ j, rB135 j → B j ∨ j = g ∨ w.heap.size ≤ j) ∧ Fr [k, g] w w' := by
 obtain ⟨ao, co, Fk, Fo⟩ := FX.ex
 have hok := FX.ok
 have hkl := Fk.lt
 have hgl := FX.gl
 have hBl := FX.bl
 have hnk := FX.nk
 have hng := FX.ng
 have hFo : ∀ j, (B j ∨ (j = g ∧ j ≠ k)) → j < w.heap.size := fun j h => h.elim (hBl j) (fun h => h.1 ▸ hgl)
 have hl63 := Fo.slB.len63
 have HG := V.Fr.refl [k, g] w
 refine V.enter (n := 56) Tryz.func19 rfl rfl (by decide) rfl ?_
 refine V.sr ?_
 refine V.ru 1 ?_
 refine V.nt ?_
 refine V.seq ?_
 refine V.sr ?_
 refine V.ru 2 ?_
 refine V.call (bhas_spec (i := i) FX) rfl rfl rfl ?_
 rintro _ w1 ⟨rfl, G2⟩
 have z3 := V.Fr.size G2
 refine V.ru 1 ?_
 refine V.nt ?_
 refine V.condT rfl (fun h1 => ?_) (fun h1 => ?_)
 ·
  try replace h1 := V.dec h1
  try simp only [V.mk] at h1
  have hh : ¬ (0 ≤ i ∧ i < (l.length : Int)) := by simpa using h1
  refine V.sr ?_
  refine V.ru 1 ?_
  refine V.nt ?_
  refine V.ret ?_
  refine V.tR ?_
  rw [show spL l i bit = l from if_neg hh, if_neg hh]
  replace FX := FX.gr G2
  have FX9 := FX
  refine V.done rfl ?_
  replace HG := HG.grow G2
  exact ⟨_, _, (by first | rfl | simp only [List.length_set]), FX9, (.inl rfl), (by intro j h; first | exact .inl h | (rcases h with h | h; exact .inl h; exact .inr (.inr h.1))), HG⟩
 ·
  try replace h1 := V.dec h1
  try simp only [V.mk] at h1
  have hh : 0 ≤ i ∧ i < (l.length : Int) := by simpa using h1
  refine V.skip ?_
  refine V.tN ?_
  refine V.seq ?_
  replace Fo := Fo.gr G2
  obtain ⟨hgk, FO⟩ := Bg.own hng Fo (by omega)
  clear Fo FX
  obtain ⟨cs0, hR0, hA0⟩ := V.Own.el FO (i := i.toNat) (by omega)
  have hao := V.Own.addr FO (by omega)
  obtain ⟨x0, hx0⟩ : ∃ z', l[i.toNat]'(by omega) = z' := ⟨_, rfl⟩
  rw [hx0] at hR0
  obtain ⟨ax, cx, rfl, Fx⟩ := hR0
  have hmx := FO.max
  have hcp := FO.cap
  have hxl := hok.2 x0 (hx0 ▸ List.getElem_mem _)
  refine V.region ?_
  refine V.ru 3 ?_
  replace Fk := Fk.gr G2
  refine V.loadO T_ok Fk rfl rfl rfl rfl rfl ?_
  refine V.ru 1 ?_
  refine V.step rfl rfl (V.elemK (C := V.Cod.byte.sl) T_ok rfl rfl sz31 hao rfl rfl (by omega) (by omega) _) ?_
  refine V.loadA T_ok (o0 := i.toNat * V.Cod.byte.sl.sz) (off := 0) hA0 rfl rfl rfl rfl rfl ?_
  refine V.ru 1 ?_
  refine V.makeS (C := V.Cod.byte) (x0 := 0) elT31_31 rfl rfl rfl rfl rfl (fun _ _ => rfl) rfl V.lenA rfl V.lenA (by unfold maxLen; first | omega | (simp only [List.length_take, List.length_drop, List.length_append, List.length_cons, List.length_nil, List.length_replicate, List.length_set, V.length_data, V.S_size]; omega)) ?_
  rintro k4 w6 s8 s9 G7 F5
  have z10 := V.Fr.size G7
  have hk4l : k4 ≤ k4 := Nat.le_refl _
  have hk4u : k4 < k4 + 1 := Nat.lt_succ_self _
  refine V.ru 1 ?_
  refine V.nt ?_
  refine V.seq ?_
  replace FO := FO.gr G7
  obtain ⟨cs1, hR1, hA1⟩ := V.Own.el FO (i := i.toNat) (by omega)
  rw [hx0] at hR1
  obtain ⟨ay, cy, rfl, Fy⟩ := hR1
  refine V.region ?_
  refine V.ru 4 ?_
  replace Fk := Fk.gr G7
  refine V.loadO T_ok Fk rfl rfl rfl rfl rfl ?_
  refine V.ru 1 ?_
  refine V.step rfl rfl (V.elemK (C := V.Cod.byte.sl) T_ok rfl rfl sz31 hao rfl rfl (by omega) (by omega) _) ?_
  refine V.loadA T_ok (o0 := i.toNat * V.Cod.byte.sl.sz) (off := 0) hA1 rfl rfl rfl rfl rfl ?_
  refine V.copyO V.flat_byte rfl (F5) (F5.win) V.lenA (Fy) elT31_31 rfl rfl rfl rfl rfl ?_
  rintro w11 G12 z13 Fnew
  clear F5
  have z14 := V.Fr.size G12
  have F5 := Fnew; clear Fnew
  refine V.nt ?_
  refine V.seq ?_
  rw [show (List.replicate ((x0.length : Int)).toNat (0 : UInt8)).length = x0.length by simp]
  have hr15 : (List.replicate ((x0.length : Int)).toNat (0 : UInt8)).take 0 ++ x0.take ((List.replicate ((x0.length : Int)).toNat (0 : UInt8)).length) ++ (List.replicate ((x0.length : Int)).toNat (0 : UInt8)).drop (0 + min x0.length ((List.replicate ((x0.length : Int)).toNat (0 : UInt8)).length)) = x0 := by simp
  rw [hr15] at F5
  clear hr15
  refine V.region ?_
  refine V.ru 2 ?_
  refine V.ru 1 ?_
  refine V.ru 4 ?_
  refine V.mulN rfl rfl rfl rfl rfl V.lenA V.lenA ?_
  obtain ⟨m9, hm9⟩ : ∃ m : Int, max bit (Go.IntKind.wrap .i64 (0 - (Go.IntKind.wrap .i64 (bit + 1)))) = m := ⟨_, rfl⟩
  rw [hm9]
  have hm8 : m9 = (if bit < 0 then -(bit + 1) else bit) := by rw [← hm9, V.wrap_in (x := bit + 1) (by omega) (by omega), V.wrap_in (x := 0 - (bit + 1)) (by omega) (by omega)]; split <;> omega
  have hm7 : 0 ≤ m9 := by rw [hm8]; split <;> omega
  first | refine V.remN rfl rfl rfl rfl rfl V.lenA V.lenA ?_ | refine V.run T_ok 1 rfl ?_
  refine V.ru 1 ?_
  refine V.nt ?_
  refine V.seq ?_
  obtain ⟨n9, hn9⟩ : ∃ n : Nat, spK x0.length bit = n := ⟨_, rfl⟩
  have hsp : m9 % (8 * x0.length : Int) = (n9 : Int) := by subst hn9; unfold spK; rw [← hm8]; exact (Int.toNat_of_nonneg (Int.emod_nonneg _ (by omega))).symm
  have hbt : m9 % (8 * (x0.length : Int)) = (n9 : Int) := hsp
  have hnl : n9 < 8 * x0.length := by have := Int.emod_lt_of_pos m9 (b := (8 * x0.length : Int)) (by omega); omega
  rw [hbt]
  refine V.drawT 10 mixed (by kernel_rfl) ?_
  rintro w16 G17 s18
  have z19 := V.Fr.size G17
  refine V.qrun T_ok 2 rfl ?_
  first | refine V.quoN rfl rfl rfl rfl rfl V.lenA V.lenA V.lenA ?_ | refine V.qrun T_ok 1 rfl ?_
  rw [show Go.IntKind.wrap .i64 ((n9 : Int).tdiv 8) = ((n9 / 8 : Nat) : Int) by rw [Int.tdiv_eq_ediv_of_nonneg (by omega), V.wrap_in (by omega) (by omega)]; rfl]
  replace F5 := F5.gr G17
  refine qelemO2 T_ok F5 (by first | rfl | (first | omega | (simp only [List.length_take, List.length_drop, List.length_append, List.length_cons, List.length_nil, List.length_replicate, List.length_set, V.length_data, V.S_size]; omega))) rfl rfl sz5 rfl rfl rfl rfl V.lenA V.lenA ?_
  rintro hx21
  obtain ⟨cs24, hR22, hA23⟩ := V.Own.el F5 hx21
  obtain ⟨x20, hx20⟩ : ∃ z', x0[(((n9 / 8 : Nat) : Int)).toNat] = z' := ⟨_, rfl⟩
  rw [hx20] at hR22
  obtain rfl := hR22
  try simp only [Int.toNat_natCast] at hx20 hx21
  refine V.qloadA T_ok (o0 := (((n9 / 8 : Nat) : Int)).toNat * V.Cod.byte.sz) (off := 0) hA23 rfl rfl rfl rfl rfl ?_
  refine V.qrun T_ok 1 rfl ?_
  first | refine V.remN rfl rfl rfl rfl rfl V.lenA V.lenA ?_ | refine V.qrun T_ok 1 rfl ?_
  rw [show (n9 : Int).tmod 8 = ((n9 % 8 : Nat) : Int) by rw [Int.tmod_eq_emod_of_nonneg (by omega)]; rfl]
  refine V.qstep rfl rfl (fun w_ _ => V.shl_run rfl rfl rfl (by omega) w_) ?_
  refine V.qrun T_ok 1 rfl ?_
  refine qelemO2 T_ok F5 (by first | rfl | (first | omega | (simp only [List.length_take, List.length_drop, List.length_append, List.length_cons, List.length_nil, List.length_replicate, List.length_set, V.length_data, V.S_size]; omega))) rfl rfl sz5 rfl rfl rfl rfl V.lenA V.lenA ?_
  rintro hx26
  obtain ⟨cs29, hR27, hA28⟩ := V.Own.el F5 hx26
  obtain ⟨x25, hx25⟩ : ∃ z', x0[(((n9 / 8 : Nat) : Int)).toNat] = z' := ⟨_, rfl⟩
  rw [hx25] at hR27
  obtain rfl := hR27
  try simp only [Int.toNat_natCast] at hx25 hx26
  refine V.qnil ?_
  refine V.storeS (D' := V.None') (j := (((n9 / 8 : Nat) : Int)).toNat) (x' := (x20 ^^^ UInt8.ofNat (2 ^ (n9 % 8)))) V.flat_byte F5 rfl rfl rfl V.lenA rfl (V.cb1 (by rw [show ((n9 % 8 : Nat) : Int) = ((n9 % 8 : Nat) : Int) by omega]; exact flip_byte x20 _)) rfl sz5 rfl rfl ?_
  rintro w30 G31 z32 Fnew
  clear F5
  have z33 := V.Fr.size G31
  have F5 := Fnew; clear Fnew
  refine V.nt ?_
  refine V.seq ?_
  have hr34 : x0.set ((((n9 / 8 : Nat) : Int)).toNat) (x20 ^^^ UInt8.ofNat (2 ^ (n9 % 8))) = flip1 x0 n9 := by exact flip_set (by omega) (by omega) hx20
  rw [hr34] at F5
  clear hr34
  refine V.region ?_
  refine V.ru 3 ?_
  replace Fk := Fk.ma G12
  replace Fk := Fk.gr G17
  replace Fk := Fk.ma G31
  refine V.loadO T_ok Fk rfl rfl rfl rfl rfl ?_
  refine V.ru 2 ?_
  replace FO := FO.mv1 G12 (by first | exact ⟨by omega, fun h => h⟩ | exact ⟨by omega, by assumption⟩ | exact ⟨by omega, fun h => by have := hBl _ h; omega⟩)
  replace FO := FO.gr G17
  replace FO := FO.mv1 G31 (by first | exact ⟨by omega, fun h => h⟩ | exact ⟨by omega, by assumption⟩ | exact ⟨by omega, fun h => by have := hBl _ h; omega⟩)
  refine V.elemO' T_ok FO (by first | rfl | (first | omega | (simp only [List.length_take, List.length_drop, List.length_append, List.length_cons, List.length_nil, List.length_replicate, List.length_set, V.length_data, V.S_size]; omega))) rfl rfl sz31 rfl rfl rfl rfl V.lenA V.lenA ?_
  rintro hx39
  obtain ⟨cs42, hR40, hA41⟩ := V.Own.el FO hx39
  obtain ⟨x35, hx35⟩ : ∃ z', l[(i).toNat] = z' := ⟨_, rfl⟩
  rw [hx35] at hR40
  obtain ⟨a36, c37, rfl, F38⟩ := hR40
  try simp only [Int.toNat_natCast] at hx35 hx39
  refine V.storeV (D := (fun j => B j ∨ V.In w.heap.size w30.heap.size j)) (j := (i).toNat) (x' := flip1 x0 n9) (FO.mono (fun k h => .inl h)) (fun h => h.elim hng (fun h => by have := h.1; omega)) rfl rfl rfl V.lenA rfl ⟨_, _, (by rw [flip1_len]; rfl), ((V.Row.back F5 hk4l hk4u).sl).mono (fun k h => .inr ⟨by have := h.1; omega, by have := h.2; omega⟩)⟩ rfl sz31 rfl rfl ?_
  rintro w43 G44 z45 Fnew
  clear FO
  have z46 := V.Fr.size G44
  have FO := Fnew; clear Fnew
  refine V.nt ?_
  refine V.sr ?_
  refine V.ru 1 ?_
  refine V.nt ?_
  refine V.ret ?_
  have hgx : l.getD i.toNat [] = x0 := by rw [List.getD_eq_getElem?_getD, List.getElem?_eq_getElem (by omega), hx0]; rfl
  rw [show spL l i bit = l.set i.toNat (flip1 x0 n9) by unfold spL; rw [if_pos hh, hgx, hn9], if_pos hh]
  replace HG := HG.grow (G2.trans G7)
  replace HG := HG.n1 G12
  replace HG := HG.grow G17
  replace HG := HG.n1 G31
  replace HG := HG.n1 G44
  have hb9 : ∀ j, (fun j => B j ∨ V.In w.heap.size w30.heap.size j) j → j < w43.heap.size := fun j h => h.elim (fun h => Nat.lt_of_lt_of_le (hBl j h) (V.Fr.size HG)) (fun h => by have := h.2; omega)
  have hn9g : ¬ (fun j => B j ∨ V.In w.heap.size w30.heap.size j) g := fun h => h.elim hng (fun h => by have := h.1; omega)
  replace Fk := Fk.ma G44
  have FX9 : Bg _ k g (fun j => B j ∨ V.In w.heap.size w30.heap.size j) _ := ⟨fun h => h.elim hnk (fun h => by have := h.1; omega), hn9g, okL_set hok (by rw [flip1_len]; omega), Nat.lt_of_lt_of_le hgl (V.Fr.size HG), hb9, ao, co, (by rw [List.length_set]; exact Fk), Bg.back hgk hn9g FO⟩
  refine V.done rfl ?_
  exact ⟨_, _, (by first | rfl | simp only [List.length_set]), FX9, (.inl rfl), (by intro j h; first | exact .inl h | (rcases h with h | h; exact .inl h; exact .inr (.inr h.1))), HG⟩

end Go.Proofs.YtmmgmkklakkooaaGreat
