/- Proved here: walks: what functions of this seat's program return and what they leave of memory, each as a contract. Conditions: stated at each theorem. -/
import Derived.Test.YthlgimhbdemfjaaMl2d
namespace Go.Proofs.Ythlgimhbdemfjaa
set_option linter.unusedVariables false
set_option linter.unusedSimpArgs false
open Go
open V (Bytes Meets Env Sl Own Gr Fr Cells S)

section
open V
variable {P : Program} {n : Nat} {ops : Array Oper} {e : Env} {w : World} {rest l : List Oper} {o : Oper} {d : Nat} {T : Tab} {α : Type} {C : Cod α} {KC : World → Prop} {Q' : Env → Prop}
theorem qelemO2 (hT : tabB P T = true) {t e' c g ty len : Nat} {D : Nat → Prop} {a : Option Addr} {xs : List α} {x ix : Operand} {k : IntKind} {i : Int} (F : Own C ty w D g a c xs) (hlen : len = xs.length) (ho : o.op = .indexAddr t x ix) (ht : V.look T t = some (.sl e')) (hs : sizeT P e' = some C.sz)
    (hx : evn n e x = some (.slice a len c)) (hi' : evn n e ix = some (.int k i)) (hg : o.guard = none) (hd : o.dst = some d) (h0 : 0 ≤ i) (h1 : i < len)
    (K : ∀ (_ : i.toNat < xs.length), VQ P n ops KC w Q' rest (e.set d (.pointer (some ⟨g, i.toNat * C.sz, none⟩)))) : VQ P n ops KC w Q' (o :: rest) e := by
  subst hlen
  exact qelemO hT F ho ht hs hx hi' hg hd h0 h1 K
theorem open1 {tb t lo hi c : Nat} {a : Option Addr} {x : List UInt8} {w : World} (h : Row (Cod.own tb) t w None' lo hi a c [x]) (hx : 0 < x.length) :
    ∃ g g' a' c' rest, g' ≠ g ∧ (lo ≤ g ∧ g < hi) ∧ (lo ≤ g' ∧ g' < hi) ∧ a = some ⟨g, 0, none⟩ ∧ Cells w g (.slice a' x.length c' :: rest) t ∧ Own Cod.byte tb w None' g' a' c' x := by
  rcases h.ex with ⟨_, _, h3⟩ | ⟨g, D, h1, h2, h3, h4, h5⟩
  · cases h3
  · rcases h5.row with ⟨_, hc⟩ | ⟨ha, cur, cs, h6, h7, h8, h9⟩
    · have := h5.cap; simp at this; omega
    · obtain ⟨cs1, hR, hA⟩ := h5.el (i := 0) (by simp)
      obtain ⟨c1, c2, h10, hR2, hr⟩ := h9
      obtain ⟨a', c', rfl, ho⟩ := hR2
      obtain ⟨g', hg', ho'⟩ := ho.own hx
      have hr2 : c2 = [] := hr
      subst hr2
      have hl : ([x].length * (Cod.own tb).sz) = 1 := rfl
      rw [hl, h10] at h8
      cases cur with
      | nil => simp at h8
      | cons v rest =>
        simp at h8
        subst h8
        have hd := (h4 g' hg').elim False.elim id
        exact ⟨g, g', a', c', rest, fun e => h3 (e ▸ hg'), ⟨h1, h2⟩, hd, ha, h6, ho'⟩
end


theorem frm_same (b c : List UInt8) : (decide (V.S (frm b) = V.S (frm c)) == decide (V.S b = V.S c)) = true := by
  by_cases h : b = c
  · subst h; simp
  · have h2 : ¬ V.S (frm b) = V.S (frm c) := fun e => h (frm_inj (V.S_inj.1 e))
    have h3 : ¬ V.S b = V.S c := fun e => h (V.S_inj.1 e)
    simp [h2, h3]

set_option maxHeartbeats 300000 in
set_option maxRecDepth 10000 in
theorem sealOwn_walk {w : World}  {D_b : Nat → Prop} {c_b : Nat} {a_b : Option Addr} {b : List UInt8} (F_b : Sl V.Cod.byte w D_b a_b c_b b) (hD_b : ∀ k, D_b k → k < w.heap.size) {D_c : Nat → Prop} {c_c : Nat} {a_c : Option Addr} {c : List UInt8} (F_c : Sl V.Cod.byte w D_c a_c c_c c) (hD_c : ∀ k, D_c k → k < w.heap.size)  :
    Meets Try.prog 7 [.slice a_b b.length c_b, .slice a_c c.length c_c] w fun r w' => r = .bool true ∧ Gr w w' := by
 have HG := V.Fr.refl [] w
 refine V.enter (n := 125) Try.func7 rfl rfl (by decide) rfl ?_
 refine V.seq ?_
 refine V.region ?_
 refine V.run T_ok 1 rfl ?_
 refine V.nil ?_
 refine V.tN ?_
 refine V.seq ?_
 refine V.region ?_
 refine V.run T_ok 1 rfl ?_
 refine V.call (frame_spec F_b (fun k hk => by have := hD_b k hk; omega)) rfl rfl rfl ?_
 rintro _ w4 ⟨a1, c2, rfl, F3, G5⟩
 have z6 := V.Fr.size G5
 try replace F_b := F_b.gr G5
 try replace F_c := F_c.gr G5
 replace HG := HG.grow G5
 clear G5
 refine V.run T_ok 5 rfl ?_
 refine V.nil ?_
 refine V.tN ?_
 refine V.seq ?_
 refine V.region ?_
 refine V.run T_ok 1 rfl ?_
 refine V.call (frame_spec F_c (fun k hk => by have := hD_c k hk; omega)) rfl rfl rfl ?_
 rintro _ w10 ⟨a7, c8, rfl, F9, G11⟩
 have z12 := V.Fr.size G11
 try replace F_b := F_b.gr G11
 try replace F_c := F_c.gr G11
 try replace F3 := F3.gr G11
 replace HG := HG.grow G11
 clear G11
 refine V.run T_ok 5 rfl ?_
 refine V.nil ?_
 refine V.tN ?_
 refine V.seq ?_
 refine V.seq ?_
 refine V.region ?_
 refine V.run T_ok 4 rfl ?_
 refine V.orG T_ok 3 3 30 rfl rfl rfl rfl rfl rfl rfl rfl ?_
 refine V.run T_ok 1 rfl ?_
 refine V.orG T_ok 2 8 35 rfl rfl rfl rfl rfl rfl rfl rfl ?_
 refine V.run T_ok 1 rfl ?_
 refine V.orG T_ok 2 12 39 rfl rfl rfl rfl rfl rfl rfl rfl ?_
 refine V.nil ?_
 refine V.tN ?_
 refine V.condT rfl (fun h3 => ?_) (fun h3 => ?_)
 ·
  try replace h3 := V.dec h3
  try simp only [V.mk0, V.mk1, V.mk2, V.mk3] at h3
  refine V.seq ?_
  refine V.region ?_
  refine V.call (alive_spec) rfl rfl rfl ?_
  rintro _ w13 ⟨rfl, G14⟩
  have z15 := V.Fr.size G14
  try replace F_b := F_b.gr G14
  try replace F_c := F_c.gr G14
  try replace F3 := F3.gr G14
  try replace F9 := F9.gr G14
  replace HG := HG.grow G14
  clear G14
  refine V.run T_ok 1 rfl ?_
  refine V.nil ?_
  refine V.tN ?_
  refine V.ret ?_
  refine V.tR ?_
  refine V.done rfl ?_
  exact ⟨(by first | rfl | simp only [List.length_set]), HG⟩
 ·
  try replace h3 := V.dec h3
  try simp only [V.mk0, V.mk1, V.mk2, V.mk3] at h3
  refine V.skip ?_
  refine V.tN ?_
  refine V.seq ?_
  have hfrb := frm_of (b := b) (by omega)
  have hfr1b : (frmB b).1 = frm b := by rw [hfrb.1]
  rw [hfr1b] at F3 ⊢
  have hflb := frm_len b
  have hfrc := frm_of (b := c) (by omega)
  have hfr1c : (frmB c).1 = frm c := by rw [hfrc.1]
  rw [hfr1c] at F9 ⊢
  have hflc := frm_len c
  have hsc : scanB (frm b) = ([b], b.length + 8) := by have h := scan_frm (b := b) (r := []) (by omega) (by omega); rw [List.append_nil] at h; rw [h, scanB_none (first_short (by decide))]; simp; omega
  have hwf := whole_frm (b := b) (by omega) (by omega)
  refine V.region ?_
  refine V.run T_ok 1 rfl ?_
  refine V.call (scan_spec F3.sl (fun k hk => by have := hk.2; omega) (by first | omega | (simp only [List.length_take, List.length_drop, List.length_append, List.length_cons, List.length_nil, List.length_replicate, List.length_set, V.length_data, V.S_size]; omega))) rfl rfl rfl ?_
  rintro _ w19 ⟨a16, c17, rfl, F18, G20⟩
  have z21 := V.Fr.size G20
  try replace F_b := F_b.gr G20
  try replace F_c := F_c.gr G20
  try replace F3 := F3.gr G20
  try replace F9 := F9.gr G20
  replace HG := HG.grow G20
  clear G20
  refine V.run T_ok 5 rfl ?_
  refine V.nil ?_
  refine V.tN ?_
  refine V.seq ?_
  refine V.region ?_
  refine V.run T_ok 1 rfl ?_
  refine V.call (whole_spec F3.sl (fun k hk => by have := hk.2; omega)) rfl rfl rfl ?_
  rintro _ w25 ⟨a22, c23, rfl, F24, G26⟩
  have z27 := V.Fr.size G26
  try replace F_b := F_b.gr G26
  try replace F_c := F_c.gr G26
  try replace F3 := F3.gr G26
  try replace F9 := F9.gr G26
  try replace F18 := F18.gr G26
  replace HG := HG.grow G26
  clear G26
  refine V.run T_ok 5 rfl ?_
  refine V.nil ?_
  refine V.tN ?_
  refine V.seq ?_
  refine V.seq ?_
  have hsc1 : (scanB (frm b)).1 = [b] := by rw [hsc]
  rw [hsc1] at F18 ⊢
  have hwf1 : (wholeB (frm b)).1 = b := by rw [hwf]
  rw [hwf1] at F24 ⊢
  refine V.region ?_
  refine V.run T_ok 4 rfl ?_
  refine V.orG T_ok 2 3 57 rfl rfl rfl rfl rfl rfl rfl rfl ?_
  refine V.nil ?_
  refine V.tN ?_
  refine V.condN rfl (by simp [hwf]) ?_
  refine V.skip ?_
  refine V.tN ?_
  refine V.seq ?_
  refine V.seq ?_
  obtain ⟨go, gi, ai, ci, rest, hgo, hgo2, hgi2, rfl, FO, FI⟩ := open1 F18 (by omega)
  clear F18
  rw [show ([b] : List (List UInt8)).length = 1 from rfl]
  refine V.region ?_
  refine V.run T_ok 1 rfl ?_
  refine V.nil ?_
  refine V.tN ?_
  refine V.block ?_
  refine V.loopM (fun m e v29 => Fr [] w v29 ∧ w25.heap.size ≤ v29.heap.size ∧ Sl V.Cod.byte v29 D_b a_b c_b b ∧ Sl V.Cod.byte v29 D_c a_c c_c c ∧ V.Row V.Cod.byte 5 v29 V.None' w.heap.size w4.heap.size a1 c2 (frm b) ∧ V.Row V.Cod.byte 5 v29 V.None' w4.heap.size w10.heap.size a7 c8 (frm c) ∧ V.Row V.Cod.byte 5 v29 V.None' w19.heap.size w25.heap.size a22 c23 b ∧ Cells v29 go (.slice ai b.length ci :: rest) 23 ∧ ∃ (i : Nat) (z : List UInt8) , m = b.length - i ∧ i ≤ b.length ∧ z.length = b.length ∧ V.Own V.Cod.byte 5 v29 V.None' gi ai ci z ∧ e 0 = .slice a_b b.length c_b ∧ e 1 = .slice a_c c.length c_c ∧ e 5 = .slice a1 (frm b).length c2 ∧ e 7 = .slice a7 (frm c).length c8 ∧ e 9 = .slice (some ⟨go, 0, none⟩) 1 c17 ∧ e 11 = .slice a22 (b).length c23 ∧ e 13 = .int .i64 (i : Int)) ?_ ?_
  ·
   exact ⟨_, HG, (by omega), F_b, F_c, F3, F9, F24, FO, (0), (b), rfl, (Nat.zero_le _), (rfl), FI, rfl, rfl, rfl, rfl, rfl, rfl, rfl⟩
  clear HG F_b F_c F3 F9 F24 FO FI
  rintro _ e v29 ⟨HG, z30, F_b, F_c, F3, F9, F24, FO, i, z, rfl, hi, hz, FI, he0_0, he0_1, he0_5, he0_7, he0_9, he0_11, he0_13⟩
  refine V.knownC (t := 0) he0_0 ?_
  refine V.knownC (t := 1) he0_1 ?_
  refine V.knownC (t := 5) he0_5 ?_
  refine V.knownC (t := 7) he0_7 ?_
  refine V.knownC (t := 9) he0_9 ?_
  refine V.knownC (t := 11) he0_11 ?_
  refine V.knownC (t := 13) he0_13 ?_
  refine V.seq ?_
  refine V.seq ?_
  refine V.region ?_
  refine V.run T_ok 2 rfl ?_
  refine V.step rfl rfl (V.elem_run T_ok rfl rfl sz23 rfl rfl (by decide) (by decide) _) ?_
  refine V.loadO T_ok FO rfl rfl rfl rfl rfl ?_
  refine V.run T_ok 2 rfl ?_
  refine V.nil ?_
  refine V.tN ?_
  refine V.condT rfl (fun h10 => ?_) (fun h10 => ?_)
  ·
   try replace h10 := V.dec h10
   try simp only [V.mk0, V.mk1, V.mk2, V.mk3] at h10
   refine V.skip ?_
   refine V.tN ?_
   refine V.seq ?_
   refine V.block ?_
   refine V.drawT 12 mixed (by kernel_rfl) ?_
   rintro w31 G32 s33
   have z34 := V.Fr.size G32
   try replace F_b := F_b.gr G32
   try replace F_c := F_c.gr G32
   try replace F3 := F3.gr G32
   try replace F9 := F9.gr G32
   try replace F24 := F24.gr G32
   try replace FO := FO.gr G32
   try replace FI := FI.gr G32
   replace HG := HG.grow G32
   clear G32
   refine V.qrun T_ok 1 rfl ?_
   refine V.qstep rfl rfl (fun _ _ => V.elem_run T_ok rfl rfl sz23 rfl rfl (by decide) (by decide) _) ?_
   refine V.qloadO T_ok FO rfl rfl rfl rfl rfl ?_
   refine V.qrun T_ok 2 rfl ?_
   refine V.qstep rfl rfl (fun _ _ => V.elem_run T_ok rfl rfl sz23 rfl rfl (by decide) (by decide) _) ?_
   refine V.qloadO T_ok FO rfl rfl rfl rfl rfl ?_
   refine V.qrun T_ok 1 rfl ?_
   refine qelemO2 T_ok FI (by first | rfl | (first | omega | (simp only [List.length_take, List.length_drop, List.length_append, List.length_cons, List.length_nil, List.length_replicate, List.length_set, V.length_data, V.S_size]; omega))) rfl rfl sz5 rfl rfl rfl rfl (by first | omega | (simp only [List.length_take, List.length_drop, List.length_append, List.length_cons, List.length_nil, List.length_replicate, List.length_set, V.length_data, V.S_size]; omega)) (by first | omega | (simp only [List.length_take, List.length_drop, List.length_append, List.length_cons, List.length_nil, List.length_replicate, List.length_set, V.length_data, V.S_size]; omega)) ?_
   rintro hx36
   obtain ⟨cs39, hR37, hA38⟩ := V.Own.el FI hx36
   obtain ⟨x35, hx35⟩ : ∃ z', z[((i : Int)).toNat] = z' := ⟨_, rfl⟩
   rw [hx35] at hR37
   obtain rfl := hR37
   try simp only [Int.toNat_natCast] at hx35 hx36
   refine V.qloadA T_ok (o0 := ((i : Int)).toNat * V.Cod.byte.sz) (off := 0) hA38 rfl rfl rfl rfl rfl ?_
   refine V.qrun T_ok 1 rfl ?_
   refine qelemO2 T_ok FI (by first | rfl | (first | omega | (simp only [List.length_take, List.length_drop, List.length_append, List.length_cons, List.length_nil, List.length_replicate, List.length_set, V.length_data, V.S_size]; omega))) rfl rfl sz5 rfl rfl rfl rfl (by first | omega | (simp only [List.length_take, List.length_drop, List.length_append, List.length_cons, List.length_nil, List.length_replicate, List.length_set, V.length_data, V.S_size]; omega)) (by first | omega | (simp only [List.length_take, List.length_drop, List.length_append, List.length_cons, List.length_nil, List.length_replicate, List.length_set, V.length_data, V.S_size]; omega)) ?_
   rintro hx41
   obtain ⟨cs44, hR42, hA43⟩ := V.Own.el FI hx41
   obtain ⟨x40, hx40⟩ : ∃ z', z[((i : Int)).toNat] = z' := ⟨_, rfl⟩
   rw [hx40] at hR42
   obtain rfl := hR42
   try simp only [Int.toNat_natCast] at hx40 hx41
   refine V.qnil ?_
   refine V.storeS (D' := V.None') (j := ((i : Int)).toNat) (x' := (x35 + 1)) V.flat_byte FI rfl rfl rfl (by first | omega | (simp only [List.length_take, List.length_drop, List.length_append, List.length_cons, List.length_nil, List.length_replicate, List.length_set, V.length_data, V.S_size]; omega)) rfl (V.cb1 (V.add8 x35 1)) rfl sz5 rfl rfl ?_
   rintro w45 G46 z47 Fnew
   clear FI
   have z48 := V.Fr.size G46
   first | replace F_b := F_b.mb G46 hD_b | clear F_b | skip
   first | replace F_c := F_c.mb G46 hD_c | clear F_c | skip
   first | replace F3 := F3.ma G46 | clear F3 | skip
   first | replace F9 := F9.ma G46 | clear F9 | skip
   first | replace F24 := F24.ma G46 | clear F24 | skip
   first | replace FO := FO.mv1 G46 (by omega) | clear FO | skip
   replace HG := HG.n1 G46
   clear G46
   have FI := Fnew; clear Fnew
   refine V.nil ?_
   refine V.bN ?_
   refine V.tN ?_
   refine V.region ?_
   refine V.run T_ok 1 rfl ?_
   refine V.addN rfl rfl rfl rfl rfl (by first | omega | (simp only [List.length_take, List.length_drop, List.length_append, List.length_cons, List.length_nil, List.length_replicate, List.length_set, V.length_data, V.S_size]; omega)) (by first | omega | (simp only [List.length_take, List.length_drop, List.length_append, List.length_cons, List.length_nil, List.length_replicate, List.length_set, V.length_data, V.S_size]; omega)) ?_
   refine V.run T_ok 1 rfl ?_
   refine V.nil ?_
   refine V.tN ?_
   exact ⟨_, (by omega), HG, (by omega), F_b, F_c, F3, F9, F24, FO, (i + 1), (z.set (((i : Int)).toNat) (x35 + 1)), rfl, (by omega), ((by simp only [List.length_set]; omega)), FI, rfl, rfl, rfl, rfl, rfl, rfl, rfl⟩
  ·
   try replace h10 := V.dec h10
   try simp only [V.mk0, V.mk1, V.mk2, V.mk3] at h10
   refine V.exit ?_
   refine V.tX ?_
   refine V.tX ?_
   refine V.bE ?_
   refine V.tN ?_
   refine V.seq ?_
   refine V.seq ?_
   refine V.region ?_
   refine V.run T_ok 1 rfl ?_
   refine V.nil ?_
   refine V.tN ?_
   refine V.block ?_
   refine V.loopM (fun m e v51 => Fr [] w v51 ∧ v29.heap.size ≤ v51.heap.size ∧ Sl V.Cod.byte v51 D_b a_b c_b b ∧ Sl V.Cod.byte v51 D_c a_c c_c c ∧ V.Row V.Cod.byte 5 v51 V.None' w.heap.size w4.heap.size a1 c2 (frm b) ∧ V.Row V.Cod.byte 5 v51 V.None' w4.heap.size w10.heap.size a7 c8 (frm c) ∧ ∃ (i : Nat) (z : List UInt8) , m = b.length - i ∧ i ≤ b.length ∧ z.length = b.length ∧ V.Row V.Cod.byte 5 v51 V.None' w19.heap.size w25.heap.size a22 c23 z ∧ e 0 = .slice a_b b.length c_b ∧ e 1 = .slice a_c c.length c_c ∧ e 5 = .slice a1 (frm b).length c2 ∧ e 7 = .slice a7 (frm c).length c8 ∧ e 11 = .slice a22 (b).length c23 ∧ e 14 = .int .i64 (i : Int)) ?_ ?_
   ·
    exact ⟨_, HG, (by omega), F_b, F_c, F3, F9, (0), (b), rfl, (Nat.zero_le _), (rfl), F24.re, rfl, rfl, rfl, rfl, rfl, rfl⟩
   try clear F24
   try clear FI
   try clear FO
   clear HG F_b F_c F3 F9
   rintro _ e v51 ⟨HG, z52, F_b, F_c, F3, F9, i, z, rfl, hi, hz2, F49, he1_0, he1_1, he1_5, he1_7, he1_11, he1_14⟩
   refine V.knownC (t := 0) he1_0 ?_
   refine V.knownC (t := 1) he1_1 ?_
   refine V.knownC (t := 5) he1_5 ?_
   refine V.knownC (t := 7) he1_7 ?_
   refine V.knownC (t := 11) he1_11 ?_
   refine V.knownC (t := 14) he1_14 ?_
   refine V.seq ?_
   refine V.seq ?_
   refine V.region ?_
   refine V.run T_ok 4 rfl ?_
   refine V.nil ?_
   refine V.tN ?_
   refine V.condT rfl (fun h14 => ?_) (fun h14 => ?_)
   ·
    try replace h14 := V.dec h14
    try simp only [V.mk0, V.mk1, V.mk2, V.mk3] at h14
    refine V.skip ?_
    refine V.tN ?_
    refine V.seq ?_
    refine V.block ?_
    refine V.region ?_
    refine V.run T_ok 4 rfl ?_
    obtain ⟨g58, hg58l, hg58u, F59⟩ := V.Row.own1 V.flat_byte F49 (by first | omega | (simp only [List.length_take, List.length_drop, List.length_append, List.length_cons, List.length_nil, List.length_replicate, List.length_set, V.length_data, V.S_size]; omega))
    clear F49
    refine V.elemO' T_ok F59 (by first | rfl | (first | omega | (simp only [List.length_take, List.length_drop, List.length_append, List.length_cons, List.length_nil, List.length_replicate, List.length_set, V.length_data, V.S_size]; omega))) rfl rfl sz5 rfl rfl rfl rfl (by first | omega | (simp only [List.length_take, List.length_drop, List.length_append, List.length_cons, List.length_nil, List.length_replicate, List.length_set, V.length_data, V.S_size]; omega)) (by first | omega | (simp only [List.length_take, List.length_drop, List.length_append, List.length_cons, List.length_nil, List.length_replicate, List.length_set, V.length_data, V.S_size]; omega)) ?_
    rintro hx54
    obtain ⟨cs57, hR55, hA56⟩ := V.Own.el F59 hx54
    obtain ⟨x53, hx53⟩ : ∃ z', z[((i : Int)).toNat] = z' := ⟨_, rfl⟩
    rw [hx53] at hR55
    obtain rfl := hR55
    try simp only [Int.toNat_natCast] at hx53 hx54
    refine V.loadA T_ok (o0 := ((i : Int)).toNat * V.Cod.byte.sz) (off := 0) hA56 rfl rfl rfl rfl rfl ?_
    refine V.run T_ok 1 rfl ?_
    refine V.elemO' T_ok F59 (by first | rfl | (first | omega | (simp only [List.length_take, List.length_drop, List.length_append, List.length_cons, List.length_nil, List.length_replicate, List.length_set, V.length_data, V.S_size]; omega))) rfl rfl sz5 rfl rfl rfl rfl (by first | omega | (simp only [List.length_take, List.length_drop, List.length_append, List.length_cons, List.length_nil, List.length_replicate, List.length_set, V.length_data, V.S_size]; omega)) (by first | omega | (simp only [List.length_take, List.length_drop, List.length_append, List.length_cons, List.length_nil, List.length_replicate, List.length_set, V.length_data, V.S_size]; omega)) ?_
    rintro hx61
    obtain ⟨cs64, hR62, hA63⟩ := V.Own.el F59 hx61
    obtain ⟨x60, hx60⟩ : ∃ z', z[((i : Int)).toNat] = z' := ⟨_, rfl⟩
    rw [hx60] at hR62
    obtain rfl := hR62
    try simp only [Int.toNat_natCast] at hx60 hx61
    refine V.storeS (D' := V.None') (j := ((i : Int)).toNat) (x' := (x53 + 1)) V.flat_byte F59 rfl rfl rfl (by first | omega | (simp only [List.length_take, List.length_drop, List.length_append, List.length_cons, List.length_nil, List.length_replicate, List.length_set, V.length_data, V.S_size]; omega)) rfl (V.cb1 (V.add8 x53 1)) rfl sz5 rfl rfl ?_
    rintro w65 G66 z67 Fnew
    clear F59
    have z68 := V.Fr.size G66
    first | replace F_b := F_b.mb G66 hD_b | clear F_b | skip
    first | replace F_c := F_c.mb G66 hD_c | clear F_c | skip
    first | replace F3 := F3.ma G66 | clear F3 | skip
    first | replace F9 := F9.ma G66 | clear F9 | skip
    replace HG := HG.n1 G66
    clear G66
    have F59 := Fnew; clear Fnew
    refine V.nil ?_
    refine V.bN ?_
    refine V.tN ?_
    refine V.region ?_
    refine V.run T_ok 1 rfl ?_
    refine V.addN rfl rfl rfl rfl rfl (by first | omega | (simp only [List.length_take, List.length_drop, List.length_append, List.length_cons, List.length_nil, List.length_replicate, List.length_set, V.length_data, V.S_size]; omega)) (by first | omega | (simp only [List.length_take, List.length_drop, List.length_append, List.length_cons, List.length_nil, List.length_replicate, List.length_set, V.length_data, V.S_size]; omega)) ?_
    refine V.run T_ok 1 rfl ?_
    refine V.nil ?_
    refine V.tN ?_
    exact ⟨_, (by omega), HG, (by omega), F_b, F_c, F3, F9, (i + 1), (z.set (((i : Int)).toNat) (x53 + 1)), rfl, (by omega), ((by simp only [List.length_set]; omega)), (by first | exact (V.Row.back F59 hg58l hg58u) | exact (V.Row.back F59 hg58l hg58u).mono (fun _ h => h) (by omega) (by omega)), rfl, rfl, rfl, rfl, rfl, rfl⟩
   ·
    try replace h14 := V.dec h14
    try simp only [V.mk0, V.mk1, V.mk2, V.mk3] at h14
    refine V.exit ?_
    refine V.tX ?_
    refine V.tX ?_
    refine V.bE ?_
    refine V.tN ?_
    refine V.seq ?_
    refine V.region ?_
    refine V.run T_ok 1 rfl ?_
    refine V.call (whole_spec F3.sl (fun k hk => by have := hk.2; omega)) rfl rfl rfl ?_
    rintro _ w72 ⟨a69, c70, rfl, F71, G73⟩
    have z74 := V.Fr.size G73
    try replace F_b := F_b.gr G73
    try replace F_c := F_c.gr G73
    try replace F3 := F3.gr G73
    try replace F9 := F9.gr G73
    try replace F49 := F49.gr G73
    replace HG := HG.grow G73
    clear G73
    refine V.run T_ok 5 rfl ?_
    refine V.nil ?_
    refine V.tN ?_
    refine V.seq ?_
    have hwf2 : (wholeB (frm b)).1 = b := by rw [hwf]
    rw [hwf2] at F71 ⊢
    refine V.region ?_
    refine V.call (alive_spec) rfl rfl rfl ?_
    rintro _ w75 ⟨rfl, G76⟩
    have z77 := V.Fr.size G76
    try replace F_b := F_b.gr G76
    try replace F_c := F_c.gr G76
    try replace F3 := F3.gr G76
    try replace F9 := F9.gr G76
    try replace F49 := F49.gr G76
    try replace F71 := F71.gr G76
    replace HG := HG.grow G76
    clear G76
    refine V.run T_ok 5 rfl ?_
    refine V.splitT (j := 5) (t := 105) rfl rfl (by (first | rfl | (rw [hwf]; rfl) | simp [hwf])) ?_
    refine V.run T_ok 1 rfl ?_
    refine V.yes rfl rfl rfl ?_
    refine V.toStr F71.sl Try.underlying23 Try.underlying5 Try.underlying9 rfl rfl rfl rfl ?_
    refine V.run T_ok 1 rfl ?_
    refine V.yes rfl rfl rfl ?_
    refine V.toStr F_b Try.underlying23 Try.underlying5 Try.underlying9 rfl rfl rfl rfl ?_
    refine V.run T_ok 3 rfl ?_
    refine V.splitT (j := 12) (t := 112) rfl rfl (by (first | rfl | (rw [hwf]; rfl) | simp [hwf])) ?_
    refine V.run T_ok 1 rfl ?_
    refine V.yes rfl rfl rfl ?_
    refine V.toStr F3.sl Try.underlying23 Try.underlying5 Try.underlying9 rfl rfl rfl rfl ?_
    refine V.run T_ok 1 rfl ?_
    refine V.yes rfl rfl rfl ?_
    refine V.toStr F9.sl Try.underlying23 Try.underlying5 Try.underlying9 rfl rfl rfl rfl ?_
    refine V.run T_ok 2 rfl ?_
    refine V.yes rfl rfl rfl ?_
    refine V.toStr F_b Try.underlying23 Try.underlying5 Try.underlying9 rfl rfl rfl rfl ?_
    refine V.run T_ok 1 rfl ?_
    refine V.yes rfl rfl rfl ?_
    refine V.toStr F_c Try.underlying23 Try.underlying5 Try.underlying9 rfl rfl rfl rfl ?_
    refine V.run T_ok 4 rfl ?_
    refine V.nil ?_
    refine V.tN ?_
    refine V.ret ?_
    refine V.done rfl ?_
    exact ⟨congrArg Value.bool (frm_same _ _), HG⟩

end Go.Proofs.Ythlgimhbdemfjaa
