/- Proved here: walks: what functions of this seat's program return and what they leave of memory, each as a contract. Conditions: stated at each theorem. -/
import Derived.Test.YtmmgmkklakkooaaGreatMlbag3
namespace Go.Proofs.YtmmgmkklakkooaaGreat
set_option linter.unusedVariables false
set_option linter.unusedSimpArgs false
open Go
open V (Bytes Meets Env Sl Own Gr Fr Cells S)


theorem mp4_lo (m : MsgV) : 4 ≤ (mp4 m).length := by
  have h0 : ∀ v : Int, 0 < (nb v).length := fun v => numB_pos _
  have h : 4 ≤ (mp1 m).length := by
    unfold mp1 hdM
    simp only [List.flatMap_cons, List.length_append]
    have a1 := h0 m.kd
    have a2 := h0 m.fr
    have a3 := h0 m.to
    have a4 := h0 m.rg
    omega
  unfold mp4 mp3 mp2
  simp only [List.length_append]; omega
theorem sets_step {P B B' : Nat → Prop} {g g' z y : Nat} (h : ∀ j, P j → j ≠ g ∧ ¬ B j) (hb : ∀ j, P j → j < z) (hz : z ≤ y) (hg : g' = g ∨ y ≤ g') (hB : ∀ j, B' j → B j ∨ j = g ∨ y ≤ j) : ∀ j, P j → j ≠ g' ∧ ¬ B' j := by
  intro j hj
  have h1 := h j hj
  have h2 := hb j hj
  refine ⟨by omega, fun e => ?_⟩
  rcases hB j e with e | e | e
  · exact h1.2 e
  · exact h1.1 e
  · omega
theorem low_step {B B' : Nat → Prop} {g z y : Nat} (h : ∀ j, B j → z ≤ j) (h0 : z ≤ g) (hz : z ≤ y) (hB : ∀ j, B' j → B j ∨ j = g ∨ y ≤ j) : ∀ j, B' j → z ≤ j := by
  intro j hj
  rcases hB j hj with e | e | e
  · exact h j e
  · omega
  · omega
theorem bodyM_lo (m : MsgV) : 4 ≤ (bodyM m).length := by
  have h := mp4_lo m
  unfold bodyM
  split
  · rw [List.length_append]; omega
  · split
    · rw [List.length_append]; omega
    · exact h
theorem put_right {l : List (List UInt8)} {x : MsgV} (hf : SmD x → x.da.length + smE x.es ≤ 600) (hl : l.length < 300) : (!(decide (putE l x = 0) == msgB x)) = false := by
  by_cases he : encE x = 0
  · rw [putE_yes he hl, (encM_ok he).1]; rfl
  · rw [putE_no he, back_no hf he]; rfl
theorem spoil_held {held : List MsgV} {x : MsgV} {b : Int} (he : encE x = 0) (hb : 64 ≤ b ∧ b ≤ 95) : spL ((held ++ [x]).map encM) (held.length : Int) b = held.map encM ++ [flip1 (encM x) (64 + (b - 64).toNat)] := by
  have hlo : 96 ≤ 8 * (encM x).length := by obtain ⟨y1, y2, y3, y4⟩ := encM_ok he; rw [y3, frm_len]; have := bodyM_lo x; omega
  have hg : ((held ++ [x]).map encM).getD (held.length : Int).toNat [] = encM x := by
    rw [List.getD_eq_getElem?_getD, List.map_append, Int.toNat_natCast, List.getElem?_append_right (by rw [List.length_map]; exact Nat.le_refl _), List.length_map, Nat.sub_self]; rfl
  have hk : spK (encM x).length b = 64 + (b - 64).toNat := by
    unfold spK; rw [if_neg (by omega), Int.emod_eq_of_lt (by omega) (by omega)]; omega
  unfold spL
  rw [if_pos (by rw [List.length_map, List.length_append]; simp; omega), hg, hk, List.map_append, Int.toNat_natCast, List.set_append_right _ _ (by rw [List.length_map]; exact Nat.le_refl _), List.length_map, Nat.sub_self]; rfl
theorem take_flip {held : List MsgV} {x : MsgV} {k : Nat} (he : encE x = 0) (hk : k < 32) : takeE (held.map encM ++ [flip1 (encM x) (64 + k)]) (held.length : Int) = 181 ∧ delL (held.map encM ++ [flip1 (encM x) (64 + k)]) (held.length : Int) = held.map encM := by
  have hlo : 96 ≤ 8 * (encM x).length := by obtain ⟨y1, y2, y3, y4⟩ := encM_ok he; rw [y3, frm_len]; have := bodyM_lo x; omega
  have hc : 0 ≤ (held.length : Int) ∧ (held.length : Int) < ((held.map encM ++ [flip1 (encM x) (64 + k)]).length : Int) := by rw [List.length_append, List.length_map]; simp; omega
  have hg : (held.map encM ++ [flip1 (encM x) (64 + k)]).getD (held.length : Int).toNat [] = flip1 (encM x) (64 + k) := by
    rw [List.getD_eq_getElem?_getD, Int.toNat_natCast, List.getElem?_append_right (by rw [List.length_map]; exact Nat.le_refl _), List.length_map, Nat.sub_self]; rfl
  constructor
  · unfold takeE; rw [if_pos hc, hg, decM_flip he (by omega)]; rfl
  · unfold delL; rw [if_pos hc, Int.toNat_natCast, List.take_left' (by rw [List.length_map]), List.drop_eq_nil_of_le (by rw [List.length_append, List.length_map]; simp), List.append_nil]
theorem take_held {held : List MsgV} (h : ∀ y ∈ held, encE y = 0) {j : Int} {x : MsgV} (h0 : 0 ≤ j ∧ j < held.length) (hj : j.toNat < held.length) (hx : held[j.toNat] = x) : takeE (held.map encM) j = 0 := by
  have hg : (held.map encM).getD j.toNat [] = encM x := by
    rw [List.getD_eq_getElem?_getD, List.getElem?_map, List.getElem?_eq_getElem hj, hx]; rfl
  have he : encE x = 0 := h x (hx ▸ List.getElem_mem _)
  unfold takeE
  rw [if_pos (by rw [List.length_map]; exact h0), hg, decM_enc he]; rfl
theorem less_held {held : List MsgV} {j : Int} (h0 : 0 ≤ j ∧ j < held.length) : (held.take j.toNat ++ held.drop (j + 1).toNat).length + 1 = held.length := by
  rw [List.length_append, List.length_take, List.length_drop]; omega
theorem less_all {held : List MsgV} {a b : Nat} (h : ∀ y ∈ held, encE y = 0) : ∀ y ∈ held.take a ++ held.drop b, encE y = 0 := by
  intro y hy
  rcases List.mem_append.1 hy with h1 | h1
  · exact h y (List.mem_of_mem_take h1)
  · exact h y (List.mem_of_mem_drop h1)

set_option maxHeartbeats 900000 in
set_option maxRecDepth 10000 in
theorem bagTells_walk {w : World}  {D_l : Nat → Prop} {c_l : Nat} {a_l : Option Addr} {l : List MsgV} (F_l : Sl V.Cod.msg w D_l a_l c_l l) (hD_l : ∀ k, D_l k → k < w.heap.size) {D_order : Nat → Prop} {c_order : Nat} {a_order : Option Addr} {order : List Int} (F_order : Sl (V.Cod.int .i64) w D_order a_order c_order order) (hD_order : ∀ k, D_order k → k < w.heap.size) {bit : Int} (hzl : ∀ x ∈ l, SzM x) :
    Meets Tryz.prog 6 [.slice a_l l.length c_l, .slice a_order order.length c_order, .int .i64 bit] w fun r w' => r = .bool true ∧ Gr w w' := by
 have HG := V.Fr.refl [] w
 refine V.enter (n := 138) Tryz.func6 rfl rfl (by decide) rfl ?_
 refine V.sr ?_
 refine V.ru 1 ?_
 refine V.nt ?_
 refine V.sr ?_
 refine V.call (bnew_spec) rfl rfl rfl ?_
 rintro _ w8 ⟨k1, g2, B3, rfl, ⟨h4l, h4u⟩, F5, h6, h7, G9⟩
 have z10 := V.Fr.size G9
 refine V.ru 1 ?_
 refine V.nt ?_
 refine V.seq ?_
 refine V.sr ?_
 refine V.call (balive_spec) rfl rfl rfl ?_
 rintro _ w11 ⟨rfl, G12⟩
 have z13 := V.Fr.size G12
 refine V.ru 5 ?_
 refine V.nt ?_
 refine V.condN rfl (by rfl) ?_
 refine V.skip ?_
 refine V.tN ?_
 refine V.sr ?_
 refine V.ru 1 ?_
 refine V.nt ?_
 refine V.seq ?_
 refine V.sr ?_
 refine V.ru 1 ?_
 refine V.nt ?_
 refine V.block ?_
 replace F_l := F_l.gr (G9.trans G12)
 have hl63 := F_l.len63
 replace F_order := F_order.gr (G9.trans G12)
 replace F5 := F5.gr G12
 replace HG := HG.grow (G9.trans G12)
 refine V.loopM (fun m e v15 => Fr [] w v15 ∧ w11.heap.size ≤ v15.heap.size ∧ Sl V.Cod.msg v15 D_l a_l c_l l ∧ Sl (V.Cod.int .i64) v15 D_order a_order c_order order ∧ ∃ (held : List MsgV) (EH : Nat → Prop) (i : Nat) (g1 : Nat) (B1 : Nat → Prop) (ra136 : Option Addr) (rc136 : Nat), m = l.length - i ∧ i ≤ l.length ∧ i ≤ 80 ∧ held.length ≤ i ∧ (∀ x ∈ held, encE x = 0) ∧ (∀ j, EH j → w.heap.size ≤ j) ∧ (∀ j, EH j → j ≠ g1 ∧ ¬ B1 j ∧ j ≠ k1) ∧ (∀ j, EH j → j < v15.heap.size) ∧ w.heap.size ≤ g1 ∧ (∀ j, B1 j → w.heap.size ≤ j) ∧ V.RowE V.Cod.msg 50 v15 D_l EH ra136 rc136 held ∧ Bg v15 k1 g1 B1 (held.map encM) ∧ e 0 = .slice a_l l.length c_l ∧ e 1 = .slice a_order order.length c_order ∧ e 2 = .int .i64 bit ∧ e 7 = .pointer (some ⟨k1, 0, none⟩) ∧ e 8 = .slice ra136 held.length rc136 ∧ e 9 = .int .i64 (i : Int)) ?_ ?_
 ·
  exact ⟨_, HG, (by omega), F_l, F_order, ([]), (V.None'), (0), (g2), (B3), none, 0, rfl, (Nat.zero_le _), (Nat.zero_le _), (Nat.le_refl _), (fun x h => by cases h), ((by intro j h; (try dsimp only [V.In] at h ⊢); first | exact h.elim | grind)), ((by intro j h; (try dsimp only [V.In] at h ⊢); first | exact h.elim | grind)), ((by intro j h; (try dsimp only [V.In] at h ⊢); first | exact h.elim | grind)), ((by omega)), ((by intro j h; grind)), V.RowE.nil, F5, rfl, rfl, rfl, rfl, rfl, rfl⟩
 clear HG F_l F_order F5
 rintro _ e v15 ⟨HG, z16, F_l, F_order, held, EH, i, g1, B1, ra136, rc136, rfl, hi, hi9, hhl, hall, hEH1, hEH2, hEH3, hgl1, hBl1, rF136, F5, he0_0, he0_1, he0_2, he0_7, he0_8, he0_9⟩
 have hBh : ∀ k, (D_l k ∨ EH k) → k < v15.heap.size := fun k h => h.elim (fun h => by have := hD_l k h; omega) (hEH3 k)
 refine V.knownC (t := 0) he0_0 ?_
 refine V.knownC (t := 1) he0_1 ?_
 refine V.knownC (t := 2) he0_2 ?_
 refine V.knownC (t := 7) he0_7 ?_
 refine V.knownC (t := 8) he0_8 ?_
 refine V.knownC (t := 9) he0_9 ?_
 refine V.seq ?_
 refine V.sr ?_
 refine V.ru 5 ?_
 refine V.andG T_ok 2 4 31 rfl rfl rfl rfl rfl rfl rfl rfl ?_
 refine V.nt ?_
 refine V.condT rfl (fun h6 => ?_) (fun h6 => ?_)
 ·
  try replace h6 := V.dec h6
  try simp only [V.mk] at h6
  refine V.skip ?_
  refine V.tN ?_
  refine V.seq ?_
  refine V.block ?_
  refine V.sr ?_
  refine V.ru 2 ?_
  refine V.elem T_ok F_l rfl rfl sz50 rfl rfl rfl rfl V.lenA V.lenA ?_
  rintro b17 o18 cs19 hx20 hb21 hR39 hA22
  obtain ⟨x23, hx23⟩ : ∃ z', l[((i : Int)).toNat] = z' := ⟨_, rfl⟩
  rw [hx23] at hR39
  obtain ⟨a24, c25, a27, c28, a30, c31, a33, c34, a36, c37, rfl, F26, F29, F32, F35, F38⟩ := hR39
  try simp only [Int.toNat_natCast] at hx23 hx20
  refine V.loadA T_ok (o0 := o18) (off := 0) hA22 rfl rfl rfl rfl rfl ?_
  have hzx23 := hzl x23 (hx23 ▸ List.getElem_mem _)
  refine V.call (mfits2_spec (mm := x23) F26 (fun k hk => by have := hD_l k hk; omega) F29 (fun k hk => by have := hD_l k hk; omega) F32 (fun k hk => by have := hD_l k hk; omega) F35 (fun k hk => by have := hD_l k hk; omega) F38 (fun k hk => by have := hD_l k hk; omega)) rfl rfl rfl ?_
  rintro _ w42 ⟨v40, rfl, h41, G43⟩
  have z44 := V.Fr.size G43
  refine V.ru 1 ?_
  refine V.nt ?_
  refine V.seq ?_
  refine V.sr ?_
  refine V.ru 2 ?_
  refine V.nt ?_
  refine V.condT rfl (fun h9 => ?_) (fun h9 => ?_)
  ·
   try replace h9 := V.dec h9
   try simp only [V.mk] at h9
   refine V.exit ?_
   refine V.tX ?_
   refine V.bE ?_
   refine V.tN ?_
   refine V.region ?_
   refine V.ru 1 ?_
   refine V.addN rfl rfl rfl rfl rfl V.lenA V.lenA ?_
   refine V.ru 1 ?_
   refine V.nt ?_
   replace F5 := F5.gr G43
   have hb45 := F5.bl
   have hb45g := F5.gl
   have hb45k := F5.lt
   
   replace F_l := F_l.gr G43
   replace F_order := F_order.gr G43
   replace rF136 := rF136.gr G43
   replace HG := HG.grow G43
   exact ⟨_, (by omega), HG, (by omega), F_l, F_order, ((held)), (EH), (i + 1), (g1), (B1), ra136, rc136, rfl, (by omega), (by omega), (by (try simp only [List.length_append, List.length_cons, List.length_nil]); omega), (hall), ((by intro j h; (try dsimp only [V.In] at h ⊢); first | exact h.elim | grind)), ((by intro j h; (try dsimp only [V.In] at h ⊢); first | exact h.elim | grind)), ((by intro j h; (try dsimp only [V.In] at h ⊢); first | exact h.elim | grind)), ((by omega)), ((by intro j h; grind)), rF136, F5, rfl, rfl, rfl, rfl, rfl, rfl⟩
  ·
   try replace h9 := V.dec h9
   try simp only [V.mk] at h9
   refine V.skip ?_
   refine V.tN ?_
   refine V.seq ?_
   replace F5 := F5.gr G43
   have hb46 := F5.bl
   have hb46g := F5.gl
   have hb46k := F5.lt
   refine V.region ?_
   refine V.ru 3 ?_
   replace F_l := F_l.gr G43
   refine V.elem T_ok F_l rfl rfl sz50 rfl rfl rfl rfl V.lenA V.lenA ?_
   rintro b47 o48 cs49 hx50 hb51 hR69 hA52
   obtain ⟨x53, hx53⟩ : ∃ z', l[((i : Int)).toNat] = z' := ⟨_, rfl⟩
   rw [hx53] at hR69
   obtain ⟨a54, c55, a57, c58, a60, c61, a63, c64, a66, c67, rfl, F56, F59, F62, F65, F68⟩ := hR69
   try simp only [Int.toNat_natCast] at hx53 hx50
   obtain rfl : x23 = x53 := hx23.symm.trans hx53
   refine V.loadA T_ok (o0 := o48) (off := 0) hA52 rfl rfl rfl rfl rfl ?_
   refine V.call (bput_spec (mm := x23) F5 F56 (fun k hk => by have := hD_l k hk; omega) F59 (fun k hk => by have := hD_l k hk; omega) F62 (fun k hk => by have := hD_l k hk; omega) F65 (fun k hk => by have := hD_l k hk; omega) F68 (fun k hk => by have := hD_l k hk; omega) (by first | (with_reducible assumption) | exact hz)) rfl rfl rfl ?_
   rintro _ w75 ⟨g70, B71, rfl, F72, h73, h74, G76⟩
   obtain ⟨w77, G78, G79⟩ := V.Fr.two G76
   have z80 := V.Fr.size G78
   have z81 := V.Fr.size G79
   refine V.ru 1 ?_
   refine V.nt ?_
   refine V.seq ?_
   refine V.seq ?_
   have hb82 := F72.bl
   have hb82g := F72.gl
   have hb82k := F72.lt
   refine V.region ?_
   refine V.ru 4 ?_
   replace F_l := F_l.mb G78 hD_l
   replace F_l := F_l.mb G79 hD_l
   refine V.elem T_ok F_l rfl rfl sz50 rfl rfl rfl rfl V.lenA V.lenA ?_
   rintro b83 o84 cs85 hx86 hb87 hR105 hA88
   obtain ⟨x89, hx89⟩ : ∃ z', l[((i : Int)).toNat] = z' := ⟨_, rfl⟩
   rw [hx89] at hR105
   obtain ⟨a90, c91, a93, c94, a96, c97, a99, c100, a102, c103, rfl, F92, F95, F98, F101, F104⟩ := hR105
   try simp only [Int.toNat_natCast] at hx89 hx86
   obtain rfl : x23 = x89 := hx23.symm.trans hx89
   refine V.loadA T_ok (o0 := o84) (off := 0) hA88 rfl rfl rfl rfl rfl ?_
   refine V.call (mright_spec (mm := x23) F92 (fun k hk => by have := hD_l k hk; omega) F95 (fun k hk => by have := hD_l k hk; omega) F98 (fun k hk => by have := hD_l k hk; omega) F101 (fun k hk => by have := hD_l k hk; omega) F104 (fun k hk => by have := hD_l k hk; omega) (by first | (with_reducible assumption) | exact hz)) rfl rfl rfl ?_
   rintro _ w106 ⟨rfl, G107⟩
   have z108 := V.Fr.size G107
   refine V.ru 1 ?_
   refine V.nt ?_
   refine V.condN rfl (by (exact put_right (by first | assumption | (intro hsd; apply_assumption <;> first | assumption | (simp_all; done))) (by rw [List.length_map]; omega))) ?_
   refine V.skip ?_
   refine V.tN ?_
   refine V.sr ?_
   refine V.ru 2 ?_
   refine V.nt ?_
   refine V.condT rfl (fun h13 => ?_) (fun h13 => ?_)
   ·
    try replace h13 := V.dec h13
    try simp only [V.mk] at h13
    have hex23 : encE x23 = 0 := putE_0 h13
    refine V.region ?_
    refine V.ru 3 ?_
    replace F_l := F_l.gr G107
    refine V.elem T_ok F_l rfl rfl sz50 rfl rfl rfl rfl V.lenA V.lenA ?_
    rintro b109 o110 cs111 hx112 hb113 hR131 hA114
    obtain ⟨x115, hx115⟩ : ∃ z', l[((i : Int)).toNat] = z' := ⟨_, rfl⟩
    rw [hx115] at hR131
    obtain ⟨a116, c117, a119, c120, a122, c123, a125, c126, a128, c129, rfl, F118, F121, F124, F127, F130⟩ := hR131
    try simp only [Int.toNat_natCast] at hx115 hx112
    obtain rfl : x23 = x115 := hx23.symm.trans hx115
    refine V.loadA T_ok (o0 := o110) (off := 0) hA114 rfl rfl rfl rfl rfl ?_
    refine V.mkSlice T_ok zero50 rfl rfl sz50 rfl rfl rfl rfl rfl rfl ?_
    rintro k132 w135 s137 s138 G136 Fk133
    have z139 := V.Fr.size G136
    replace F118 := F118.gr G136
    replace F121 := F121.gr G136
    replace F124 := F124.gr G136
    replace F127 := F127.gr G136
    replace F130 := F130.gr G136
    have F134 : Sl V.Cod.msg w135 (fun k => k = k132 ∨ D_l k ∨ D_l k ∨ D_l k ∨ D_l k ∨ D_l k) (some ⟨k132, 0, none⟩) ([x23] : List MsgV).length ([x23] : List MsgV) := V.Cells.sl Fk133 (V.reps_cons (x := x23) ⟨_, _, _, _, _, _, _, _, _, _, rfl, F118.mono (fun k h => .inr (.inl h)), F121.mono (fun k h => .inr (.inr (.inl h))), F124.mono (fun k h => .inr (.inr (.inr (.inl h)))), F127.mono (fun k h => .inr (.inr (.inr (.inr (.inl h))))), F130.mono (fun k h => .inr (.inr (.inr (.inr (.inr (h))))))⟩ rfl rfl) (.inl rfl) (by simp [maxLen])
    have hDu140 : ∀ k, (fun k => k = k132 ∨ D_l k ∨ D_l k ∨ D_l k ∨ D_l k ∨ D_l k) k → k < w135.heap.size := by intro k h; (try dsimp only at h); rcases h with h | h | h | h | h | h <;> first | omega | (have := h.2; omega) | (have := h.1; omega) | (have := hD_l k h; omega) | (have := hD_l k h; omega) | (have := hD_l k h; omega) | (have := hD_l k h; omega) | (have := hD_l k h; omega) | (have := hD_l k h; omega) | (have := hBh2 k h; omega) | (have := hD_l k h; omega) | (have := hD_order k h; omega)
    replace rF136 := rF136.gr G43
    replace rF136 := rF136.mv1 G78 (by (try dsimp only [V.In]); first | omega | grind)
    replace rF136 := rF136.mv1 G79 (by (try dsimp only [V.In]); first | omega | grind)
    replace rF136 := rF136.gr (G107.trans G136)
    refine V.appendZ rF136 (F134.from Tryz.underlying67) elT67_67 rfl rfl rfl rfl rfl V.lenA (by unfold maxLen; first | omega | (simp only [List.length_take, List.length_drop, List.length_append, List.length_cons, List.length_nil, List.length_replicate, List.length_set, V.length_data, V.S_size]; omega)) (by intro k h; (try dsimp only [V.In] at h ⊢); first | omega | grind) (by intro k h; (try dsimp only [V.In] at h ⊢); first | omega | grind) (by intro k h; (try dsimp only [V.In] at h ⊢); first | omega | grind) ?_
    rintro a141 c142 w144 G145 s146 F143
    clear rF136
    clear F134
    have z147 := V.FrE.size G145
    replace F143 := F143.mono2 (B' := D_l) (E' := (fun j => EH j ∨ V.In w106.heap.size w144.heap.size j)) (by intro k h; (first | exact (h.elim (fun h => h.elim) (fun h => h.elim)) | ((try dsimp only [V.In] at h ⊢); first | omega | grind))) (by intro k h; (try dsimp only [V.In] at h ⊢); first | omega | grind)
    refine V.ru 1 ?_
    refine V.nil ?_
    refine V.bN ?_
    refine V.tN ?_
    refine V.region ?_
    refine V.ru 1 ?_
    refine V.addN rfl rfl rfl rfl rfl V.lenA V.lenA ?_
    refine V.ru 1 ?_
    refine V.nt ?_
    have hr148 : putL (held.map encM) x23 = (held ++ [x23]).map encM := put_held hex23 (by rw [List.length_map]; omega)
    replace F72 := F72.gr (G107.trans G136)
    replace F72 := F72.mvE G145 (by intro j h hd; (try dsimp only [V.In] at h hd ⊢); first | omega | grind)
    rw [hr148] at F72
    clear hr148
    
    replace F_l := F_l.gr G136
    replace F_l := F_l.mvE G145 (by intro j h hd; (try dsimp only [V.In] at h hd ⊢); first | omega | grind)
    replace F_order := F_order.gr G43
    replace F_order := F_order.mb G78 hD_order
    replace F_order := F_order.mb G79 hD_order
    replace F_order := F_order.gr (G107.trans G136)
    replace F_order := F_order.mvE G145 (by intro j h hd; (try dsimp only [V.In] at h hd ⊢); first | omega | grind)
    replace HG := HG.grow G43
    replace HG := HG.n1 G78
    replace HG := HG.n1 G79
    replace HG := HG.grow (G107.trans G136)
    replace HG := HG.stepE G145 (by intro i h; (try dsimp only [V.In] at h ⊢); first | omega | grind)
    exact ⟨_, (by omega), HG, (by omega), F_l, F_order, ((held ++ ([x23] : List MsgV))), ((fun j => EH j ∨ V.In w106.heap.size w144.heap.size j)), (i + 1), (g70), (B71), a141, c142, rfl, (by omega), (by omega), (by (try simp only [List.length_append, List.length_cons, List.length_nil]); omega), (hall_put hall hex23), ((by intro j h; (try dsimp only [V.In] at h ⊢); first | exact h.elim | grind)), ((by intro j h; (try dsimp only [V.In] at h ⊢); first | exact h.elim | grind)), ((by intro j h; (try dsimp only [V.In] at h ⊢); first | exact h.elim | grind)), ((by omega)), ((by intro j h; grind)), F143, F72, rfl, rfl, rfl, rfl, rfl, rfl⟩
   ·
    try replace h13 := V.dec h13
    try simp only [V.mk] at h13
    have hex23 : ¬ encE x23 = 0 := putE_n (by rw [List.length_map]; omega) h13
    refine V.skip ?_
    refine V.bN ?_
    refine V.tN ?_
    refine V.region ?_
    refine V.ru 1 ?_
    refine V.addN rfl rfl rfl rfl rfl V.lenA V.lenA ?_
    refine V.ru 1 ?_
    refine V.nt ?_
    have hr149 : putL (held.map encM) x23 = held.map encM := put_no (by assumption)
    replace F72 := F72.gr G107
    rw [hr149] at F72
    clear hr149
    
    replace F_l := F_l.gr G107
    replace F_order := F_order.gr G43
    replace F_order := F_order.mb G78 hD_order
    replace F_order := F_order.mb G79 hD_order
    replace F_order := F_order.gr G107
    replace rF136 := rF136.gr G43
    replace rF136 := rF136.mv1 G78 (by (try dsimp only [V.In]); first | omega | grind)
    replace rF136 := rF136.mv1 G79 (by (try dsimp only [V.In]); first | omega | grind)
    replace rF136 := rF136.gr G107
    replace HG := HG.grow G43
    replace HG := HG.n1 G78
    replace HG := HG.n1 G79
    replace HG := HG.grow G107
    exact ⟨_, (by omega), HG, (by omega), F_l, F_order, ((held)), (EH), (i + 1), (g70), (B71), ra136, rc136, rfl, (by omega), (by omega), (by (try simp only [List.length_append, List.length_cons, List.length_nil]); omega), (hall), ((by intro j h; (try dsimp only [V.In] at h ⊢); first | exact h.elim | grind)), ((by intro j h; (try dsimp only [V.In] at h ⊢); first | exact h.elim | grind)), ((by intro j h; (try dsimp only [V.In] at h ⊢); first | exact h.elim | grind)), ((by omega)), ((by intro j h; grind)), rF136, F72, rfl, rfl, rfl, rfl, rfl, rfl⟩
 ·
  try replace h6 := V.dec h6
  try simp only [V.mk] at h6
  refine V.exit ?_
  refine V.tX ?_
  refine V.tX ?_
  refine V.bE ?_
  refine V.tN ?_
  refine V.seq ?_
  refine V.sr ?_
  refine V.ru 1 ?_
  refine V.nt ?_
  refine V.block ?_
  have hol := F_order.len63
  refine V.loopM (fun m e v151 => Fr [] w v151 ∧ v15.heap.size ≤ v151.heap.size ∧ Sl V.Cod.msg v151 D_l a_l c_l l ∧ Sl (V.Cod.int .i64) v151 D_order a_order c_order order ∧ ∃ (hd : List MsgV) (BH EH2 : Nat → Prop) (i2 : Nat) (g2 : Nat) (B2 : Nat → Prop) (ra137 : Option Addr) (rc137 : Nat), m = hd.length ∧ hd.length + i2 ≤ 80 ∧ (∀ x ∈ hd, encE x = 0) ∧ (∀ j, (BH j ∨ EH2 j) → j ≠ g2 ∧ ¬ B2 j ∧ j ≠ k1) ∧ (∀ j, (BH j ∨ EH2 j) → j < v151.heap.size) ∧ (∀ j, EH2 j → ¬ BH j) ∧ w.heap.size ≤ g2 ∧ (∀ j, B2 j → w.heap.size ≤ j) ∧ V.RowE V.Cod.msg 50 v151 BH EH2 ra137 rc137 hd ∧ Bg v151 k1 g2 B2 (hd.map encM) ∧ e 1 = .slice a_order order.length c_order ∧ e 2 = .int .i64 bit ∧ e 7 = .pointer (some ⟨k1, 0, none⟩) ∧ e 8 = .slice ra137 hd.length rc137 ∧ e 12 = .int .i64 (i2 : Int)) ?_ ?_
  ·
   exact ⟨_, HG, (by omega), F_l, F_order, (held), (D_l), (EH), (0), (g1), (B1), ra136, rc136, rfl, (by omega), (hall), ((by intro j h; (try dsimp only [V.In] at h ⊢); first | exact h.elim | grind)), ((by intro j h; (try dsimp only [V.In] at h ⊢); first | exact h.elim | grind)), ((by intro j h; (try dsimp only [V.In] at h ⊢); first | exact h.elim | grind)), ((by omega)), ((by intro j h; grind)), rF136, F5, rfl, rfl, rfl, rfl, rfl⟩
  try clear rF136
  clear HG F_l F_order F5
  rintro _ e v151 ⟨HG, z152, F_l, F_order, hd, BH, EH2, i2, g2, B2, ra137, rc137, rfl, hl2, hall2, hS1, hBh2, hS3, hgl2, hBl2, rF137, F5, he1_1, he1_2, he1_7, he1_8, he1_12⟩
  refine V.knownC (t := 1) he1_1 ?_
  refine V.knownC (t := 2) he1_2 ?_
  refine V.knownC (t := 7) he1_7 ?_
  refine V.knownC (t := 8) he1_8 ?_
  refine V.knownC (t := 12) he1_12 ?_
  refine V.seq ?_
  refine V.sr ?_
  refine V.ru 3 ?_
  refine V.nt ?_
  refine V.condT rfl (fun h16 => ?_) (fun h16 => ?_)
  ·
   try replace h16 := V.dec h16
   try simp only [V.mk] at h16
   refine V.skip ?_
   refine V.tN ?_
   refine V.seq ?_
   refine V.block ?_
   refine V.sr ?_
   refine V.ru 1 ?_
   refine V.nt ?_
   refine V.seqJ (fun e v154 => Fr [] w v154 ∧ v151.heap.size ≤ v154.heap.size ∧ Sl V.Cod.msg v154 D_l a_l c_l l ∧ Sl (V.Cod.int .i64) v154 D_order a_order c_order order ∧ Bg v154 k1 g2 B2 (hd.map encM) ∧ V.RowE V.Cod.msg 50 v154 BH EH2 ra137 rc137 hd ∧ ∃ (kk : Int), (0 ≤ kk ∧ kk < (hd.length : Int)) ∧ e 1 = .slice a_order order.length c_order ∧ e 2 = .int .i64 bit ∧ e 7 = .pointer (some ⟨k1, 0, none⟩) ∧ e 8 = .slice ra137 hd.length rc137 ∧ e 12 = .int .i64 (i2 : Int) ∧ e 13 = .int .i64 kk ∧ True) ?_ ?_
   ·
    refine V.sr ?_
    refine V.ru 4 ?_
    refine V.nt ?_
    refine V.condT rfl (fun h19 => ?_) (fun h19 => ?_)
    ·
     try replace h19 := V.dec h19
     try simp only [V.mk] at h19
     refine V.region ?_
     refine V.ru 2 ?_
     refine V.elem T_ok F_order rfl rfl sz3 rfl rfl rfl rfl V.lenA V.lenA ?_
     rintro b155 o156 cs157 hx158 hb159 hR162 hA160
     obtain ⟨x161, hx161⟩ : ∃ z', order[((i2 : Int)).toNat] = z' := ⟨_, rfl⟩
     rw [hx161] at hR162
     obtain rfl := hR162
     try simp only [Int.toNat_natCast] at hx161 hx158
     refine V.loadA T_ok (o0 := o156) (off := 0) hA160 rfl rfl rfl rfl rfl ?_
     refine V.ru 3 ?_
     obtain ⟨hq0, hq1⟩ := and_c x161 (c := 1023) (by decide)
     refine V.remN rfl rfl rfl rfl rfl hq0 (by omega) ?_
     obtain ⟨r_, hr_, hr0, hr1⟩ : ∃ r_ : Int, Go.bits .and .i64 x161 1023 % (hd.length : Int) = r_ ∧ 0 ≤ r_ ∧ r_ < hd.length := ⟨_, rfl, Int.emod_nonneg _ (by omega), Int.emod_lt_of_pos _ (by omega)⟩
     rw [hr_]
     refine V.ru 1 ?_
     refine V.nt ?_
     exact ⟨HG, (by omega), F_l, F_order, F5, rF137, r_, ⟨by omega, by omega⟩, rfl, rfl, rfl, rfl, rfl, (congrArg (Value.int .i64) (by rfl)), trivial⟩
    ·
     try replace h19 := V.dec h19
     try simp only [V.mk] at h19
     refine V.skip ?_
     refine V.tN ?_
     exact ⟨HG, (by omega), F_l, F_order, F5, rF137, 0, ⟨by omega, by omega⟩, rfl, rfl, rfl, rfl, rfl, (congrArg (Value.int .i64) (by rfl)), trivial⟩
   clear HG F_l F_order F5 rF137
   rintro e v154 ⟨HG, z163, F_l, F_order, F5, rF137, kk, hkk, hjn153_1, hjn153_2, hjn153_7, hjn153_8, hjn153_12, hjn153_13, -⟩
   refine V.knownC (t := 1) hjn153_1 ?_
   refine V.knownC (t := 2) hjn153_2 ?_
   refine V.knownC (t := 7) hjn153_7 ?_
   refine V.knownC (t := 8) hjn153_8 ?_
   refine V.knownC (t := 12) hjn153_12 ?_
   refine V.knownC (t := 13) hjn153_13 ?_
   refine V.seq ?_
   obtain ⟨xk, hxk⟩ : ∃ z', hd[kk.toNat]'(by omega) = z' := ⟨_, rfl⟩
   have hek : encE xk = 0 := hall2 xk (hxk ▸ List.getElem_mem _)
   have hTa : ∀ j, (BH j ∨ EH2 j) → j ≠ g2 ∧ ¬ B2 j := fun j h => ⟨(hS1 j h).1, (hS1 j h).2.1⟩
   have hUa : w.heap.size ≤ g2 := by omega
   have hVa : ∀ j, B2 j → w.heap.size ≤ j := fun j h => by have := hBl2 j h; omega
   have hb164 := F5.bl
   have hb164g := F5.gl
   have hb164k := F5.lt
   refine V.region ?_
   refine V.ru 2 ?_
   refine V.call (btwice_spec (i := kk) F5) rfl rfl rfl ?_
   rintro _ w170 ⟨g165, B166, rfl, F167, h168, h169, G171⟩
   obtain ⟨w172, G173, G174⟩ := V.Fr.two G171
   have z175 := V.Fr.size G173
   have z176 := V.Fr.size G174
   refine V.nt ?_
   refine V.seq ?_
   have hTb : ∀ j, (BH j ∨ EH2 j) → j ≠ g165 ∧ ¬ B166 j := by
    refine sets_step hTa hBh2 ?_ (by assumption) (by assumption)
    omega
   have hUb : w.heap.size ≤ g165 := by omega
   have hVb : ∀ j, B166 j → w.heap.size ≤ j := by
    refine low_step hVa hUa ?_ (by assumption)
    omega
   have hb177 := F167.bl
   have hb177g := F167.gl
   have hb177k := F167.lt
   have hr178 : twcL (hd.map encM) kk = (hd ++ [xk]).map encM := twc_held ⟨by omega, by omega⟩ (by omega) (by omega) hxk
   rw [hr178] at F167
   clear hr178
   refine V.region ?_
   refine V.ru 1 ?_
   refine V.call (blen_spec F167) rfl rfl rfl ?_
   rintro _ w179 ⟨rfl, G180⟩
   have z181 := V.Fr.size G180
   have hln : (((hd ++ [xk]).map encM).length : Int) = (hd.length : Int) + 1 := by rw [List.length_map, List.length_append]; rfl
   refine V.subN rfl rfl rfl rfl rfl (by omega) (by omega) ?_
   rw [show (((hd ++ [xk]).map encM).length : Int) - 1 = (hd.length : Int) by omega]
   refine V.ru 1 ?_
   refine V.nt ?_
   refine V.sr ?_
   refine V.ru 4 ?_
   have hq0 : 0 ≤ Go.bits .and .i64 bit 31 := (and_c bit (c := 31) (by decide)).1
   have hq1 : Go.bits .and .i64 bit 31 ≤ 31 := (and_c bit (c := 31) (by decide)).2
   refine V.addN rfl rfl rfl rfl rfl (by omega) (by omega) ?_
   obtain ⟨b5, hb5, hb5a, hb5b⟩ : ∃ b_ : Int, 64 + Go.bits .and .i64 bit 31 = b_ ∧ 64 ≤ b_ ∧ b_ ≤ 95 := ⟨_, rfl, by omega, by omega⟩
   rw [hb5]
   replace F167 := F167.gr G180
   refine V.call (bspoil_spec (i := (hd.length : Int)) (bit := b5) F167 (by omega)) rfl rfl rfl ?_
   rintro _ w187 ⟨g182, B183, rfl, F184, h185, h186, G188⟩
   obtain ⟨w189, G190, G191⟩ := V.Fr.two G188
   have z192 := V.Fr.size G190
   have z193 := V.Fr.size G191
   refine V.nt ?_
   refine V.seq ?_
   have hTc : ∀ j, (BH j ∨ EH2 j) → j ≠ g182 ∧ ¬ B183 j := by
    refine sets_step hTb hBh2 ?_ (by assumption) (by assumption)
    omega
   have hUc : w.heap.size ≤ g182 := by omega
   have hVc : ∀ j, B183 j → w.heap.size ≤ j := by
    refine low_step hVb hUb ?_ (by assumption)
    omega
   have hb194 := F184.bl
   have hb194g := F184.gl
   have hb194k := F184.lt
   have hr195 : spL ((hd ++ [xk]).map encM) (hd.length : Int) b5 = hd.map encM ++ [flip1 (encM xk) (64 + (b5 - 64).toNat)] := spoil_held hek ⟨by omega, by omega⟩
   rw [hr195] at F184
   clear hr195
   obtain ⟨htf, hdf⟩ := take_flip (held := hd) (k := (b5 - 64).toNat) hek (by omega)
   refine V.region ?_
   refine V.ru 2 ?_
   refine V.call (btake_spec (i := (hd.length : Int)) F184) rfl rfl rfl ?_
   rintro _ w216 ⟨a196, c197, a198, c199, a200, c201, a202, c203, a204, c205, g206, B207, rfl, F208, F209, F210, F211, F212, F213, h214, h215, G217⟩
   obtain ⟨w218, G219, G220⟩ := V.Fr.two G217
   have z221 := V.Fr.size G219
   have z222 := V.Fr.size G220
   refine V.ru 3 ?_
   have hTd : ∀ j, (BH j ∨ EH2 j) → j ≠ g206 ∧ ¬ B207 j := by
    refine sets_step hTc hBh2 ?_ (by assumption) (by assumption)
    omega
   have hUd : w.heap.size ≤ g206 := by omega
   have hVd : ∀ j, B207 j → w.heap.size ≤ j := by
    refine low_step hVc hUc ?_ (by assumption)
    omega
   have hb223 := F213.bl
   have hb223g := F213.gl
   have hb223k := F213.lt
   refine V.alloc zero50 rfl rfl rfl ?_
   rintro k224 w226 s228 s229 G227 Fk225
   have z230 := V.Fr.size G227
   try simp only [V.cellsL, V.spliceL] at Fk225
   refine V.storeO Fk225 rfl rfl rfl rfl sz50 rfl rfl rfl rfl ?_
   rintro w231 G232 z234 Fs233
   clear Fk225
   have z235 := V.Fr.size G232
   have Fk225 := Fs233; clear Fs233
   simp only [V.spliceL, V.cellsL] at Fk225
   refine V.ru 1 ?_
   refine V.nt ?_
   refine V.seq ?_
   have hr236 : delL (hd.map encM ++ [flip1 (encM xk) (64 + (b5 - 64).toNat)]) (hd.length : Int) = hd.map encM := hdf
   replace F213 := F213.gr G227
   replace F213 := F213.mv1 G232 (by (try dsimp only [V.In]); first | omega | grind)
   rw [hr236] at F213
   clear hr236
   refine V.region ?_
   refine V.ru 2 ?_
   refine V.call (btake_spec (i := kk) F213) rfl rfl rfl ?_
   rintro _ w257 ⟨a237, c238, a239, c240, a241, c242, a243, c244, a245, c246, g247, B248, rfl, F249, F250, F251, F252, F253, F254, h255, h256, G258⟩
   obtain ⟨w259, G260, G261⟩ := V.Fr.two G258
   have z262 := V.Fr.size G260
   have z263 := V.Fr.size G261
   refine V.ru 3 ?_
   have hTe : ∀ j, (BH j ∨ EH2 j) → j ≠ g247 ∧ ¬ B248 j := by
    refine sets_step hTd hBh2 ?_ (by assumption) (by assumption)
    omega
   have hUe : w.heap.size ≤ g247 := by omega
   have hVe : ∀ j, B248 j → w.heap.size ≤ j := by
    refine low_step hVd hUd ?_ (by assumption)
    omega
   have hb264 := F254.bl
   have hb264g := F254.gl
   have hb264k := F254.lt
   refine V.alloc zero50 rfl rfl rfl ?_
   rintro k265 w267 s269 s270 G268 Fk266
   have z271 := V.Fr.size G268
   try simp only [V.cellsL, V.spliceL] at Fk266
   refine V.storeO Fk266 rfl rfl rfl rfl sz50 rfl rfl rfl rfl ?_
   rintro w272 G273 z275 Fs274
   clear Fk266
   have z276 := V.Fr.size G273
   have Fk266 := Fs274; clear Fs274
   simp only [V.spliceL, V.cellsL] at Fk266
   refine V.ru 1 ?_
   refine V.nt ?_
   refine V.seq ?_
   refine V.seq ?_
   have htk := take_held hall2 (j := kk) ⟨by omega, by omega⟩ (by omega) hxk
   obtain ⟨hlm, -⟩ := look_held hall2 (j := kk) ⟨by omega, by omega⟩ (by omega) hxk
   refine V.drawQ mixed (by kernel_rfl) ?_
   refine V.qrun T_ok 3 rfl ?_
   refine V.qsplitF (j := 2) (t := 110) rfl rfl (by (rw [htf]; rfl)) ?_
   refine V.qrun T_ok 4 rfl ?_
   refine V.qsplitF (j := 6) (t := 114) rfl rfl (by (rw [htk]; rfl)) ?_
   refine V.qyes rfl rfl rfl ?_
   refine V.qloadO T_ok Fk266 rfl rfl rfl rfl rfl ?_
   refine V.qrun T_ok 2 rfl ?_
   refine V.qyes rfl rfl rfl ?_
   replace rF137 := rF137.mv1 G173 (by (try dsimp only [V.In]); first | omega | grind)
   replace rF137 := rF137.mv1 G174 (by (try dsimp only [V.In]); first | omega | grind)
   replace rF137 := rF137.gr G180
   replace rF137 := rF137.mv1 G190 (by (try dsimp only [V.In]); first | omega | grind)
   replace rF137 := rF137.mv1 G191 (by (try dsimp only [V.In]); first | omega | grind)
   replace rF137 := rF137.mv1 G219 (by (try dsimp only [V.In]); first | omega | grind)
   replace rF137 := rF137.mv1 G220 (by (try dsimp only [V.In]); first | omega | grind)
   replace rF137 := rF137.gr G227
   replace rF137 := rF137.mv1 G232 (by (try dsimp only [V.In]); first | omega | grind)
   replace rF137 := rF137.mv1 G260 (by (try dsimp only [V.In]); first | omega | grind)
   replace rF137 := rF137.mv1 G261 (by (try dsimp only [V.In]); first | omega | grind)
   replace rF137 := rF137.gr G268
   replace rF137 := rF137.mv1 G273 (by (try dsimp only [V.In]); first | omega | grind)
   refine V.qelem T_ok rF137.slB rfl rfl sz50 rfl rfl rfl rfl V.lenA V.lenA ?_
   rintro b277 o278 cs279 hx280 hb281 hR299 hA282
   obtain ⟨x283, hx283⟩ : ∃ z', hd[(kk).toNat] = z' := ⟨_, rfl⟩
   rw [hx283] at hR299
   obtain ⟨a284, c285, a287, c288, a290, c291, a293, c294, a296, c297, rfl, F286, F289, F292, F295, F298⟩ := hR299
   try simp only [Int.toNat_natCast] at hx283 hx280
   refine V.qyes rfl rfl rfl ?_
   refine V.qloadA T_ok (o0 := o278) (off := 0) hA282 rfl rfl rfl rfl rfl ?_
   refine V.qyes rfl rfl rfl ?_
   replace F249 := F249.gr G268
   replace F249 := F249.ma G273
   replace F250 := F250.gr G268
   replace F250 := F250.ma G273
   replace F251 := F251.gr G268
   replace F251 := F251.ma G273
   replace F252 := F252.gr G268
   replace F252 := F252.ma G273
   replace F253 := F253.gr G268
   replace F253 := F253.ma G273
   refine V.qcall V.clo (fun w1 g => (msame_spec (a := (lookM (hd.map encM) kk)) (b := x283) (F249.sl.gr g) (fun k hk => by have := Fr.size g; have := hk.2; omega) (F250.gr g) (fun k hk => by have := Fr.size g; have := hk.2; omega) (F251.sl.gr g) (fun k hk => by have := Fr.size g; have := hk.2; omega) (F252.sl.gr g) (fun k hk => by have := Fr.size g; have := hk.2; omega) (F253.gr g) (fun k hk => by have := Fr.size g; have := hk.2; omega) (F286.gr g) (fun k hk => by have := Fr.size g; have := hBh2 k hk; omega) (F289.gr g) (fun k hk => by have := Fr.size g; have := hBh2 k hk; omega) (F292.gr g) (fun k hk => by have := Fr.size g; have := hBh2 k hk; omega) (F295.gr g) (fun k hk => by have := Fr.size g; have := hBh2 k hk; omega) (F298.gr g) (fun k hk => by have := Fr.size g; have := hBh2 k hk; omega))) rfl rfl rfl ?_
   refine V.qrun T_ok 2 rfl ?_
   refine V.qnil ?_
   rintro w300 G301
   have z302 := V.Fr.size G301
   refine V.tN ?_
   refine V.condN rfl (by (rw [hlm, show xk = x283 from hxk.symm.trans hx283, smM_self]; rfl)) ?_
   refine V.skip ?_
   refine V.tN ?_
   refine V.sr ?_
   refine V.mkSlice T_ok zero50 rfl rfl sz50 rfl rfl rfl rfl rfl rfl ?_
   rintro k303 w306 s308 s309 G307 Fk304
   have z310 := V.Fr.size G307
   have F305 := (V.rowOfC (C := V.Cod.msg) (xs := ([] : List MsgV)) Fk304 rfl rfl).mono (B' := (fun k => BH k ∨ EH2 k)) (fun _ h => h.elim) (Nat.le_refl _) (Nat.le_refl _)
   clear Fk304
   refine V.ru 2 ?_
   replace rF137 := rF137.gr (G301.trans G307)
   refine V.cutL T_ok rF137.slB rfl rfl sz50 rfl rfl rfl rfl V.lenA V.lenA (fun a311 F313 => ?_)
   refine V.appendR (F305) (F313.from Tryz.underlying67) elT67_67 rfl rfl rfl rfl rfl V.lenA (by unfold maxLen; first | omega | (simp only [List.length_take, List.length_drop, List.length_append, List.length_cons, List.length_nil, List.length_replicate, List.length_set, V.length_data, V.S_size]; omega)) (by omega) (by omega) (by first | omega | (intro k h; first | omega | (have := hD_l k h; omega) | (have := hBh2 k h; omega) | (have := hD_l k h; omega) | (have := hD_order k h; omega))) (by first | omega | (intro k h; (try dsimp only at h); first | exact .inl h | exact .inr ⟨by have := h.1; omega, by have := h.2; omega⟩ | (rcases h with h | h <;> first | exact .inr ⟨by omega, by omega⟩ | exact .inr ⟨by have := h.1; omega, by have := h.2; omega⟩ | exact .inl h) | (rcases h with h | h | h | h | h | h <;> first | exact .inl h | exact .inr ⟨by omega, by omega⟩))) ?_
   rintro a314 c315 w317 G318 s319 F316
   clear F305
   have z320 := Go.RowKit.Below.size G318
   rw [List.nil_append] at F316 ⊢
   refine V.ru 1 ?_
   refine V.nt ?_
   refine V.sr ?_
   refine V.ru 3 ?_
   refine V.addN rfl rfl rfl rfl rfl V.lenA V.lenA ?_
   replace rF137 := V.RowE.bl rF137 G318 (by intro j h; (try dsimp only [V.In] at h ⊢); first | omega | grind)
   refine V.cutD T_ok rF137.slB rfl rfl sz50 rfl rfl rfl rfl V.lenA V.lenA (fun a321 c322 F323 => ?_)
   refine V.appendR (F316) (F323.from Tryz.underlying67) elT67_67 rfl rfl rfl rfl rfl V.lenA (by unfold maxLen; first | omega | (simp only [List.length_take, List.length_drop, List.length_append, List.length_cons, List.length_nil, List.length_replicate, List.length_set, V.length_data, V.S_size]; omega)) (by omega) (by omega) (by first | omega | (intro k h; first | omega | (have := hD_l k h; omega) | (have := hBh2 k h; omega) | (have := hD_l k h; omega) | (have := hD_order k h; omega))) (by first | omega | (intro k h; (try dsimp only at h); first | exact .inl h | exact .inr ⟨by have := h.1; omega, by have := h.2; omega⟩ | (rcases h with h | h <;> first | exact .inr ⟨by omega, by omega⟩ | exact .inr ⟨by have := h.1; omega, by have := h.2; omega⟩ | exact .inl h) | (rcases h with h | h | h | h | h | h <;> first | exact .inl h | exact .inr ⟨by omega, by omega⟩))) ?_
   rintro a324 c325 w327 G328 s329 F326
   clear F316
   have z330 := Go.RowKit.Below.size G328
   refine V.ru 1 ?_
   refine V.nt ?_
   refine V.region ?_
   refine V.ru 2 ?_
   refine V.nil ?_
   refine V.bN ?_
   refine V.tN ?_
   refine V.region ?_
   refine V.ru 1 ?_
   refine V.addN rfl rfl rfl rfl rfl V.lenA V.lenA ?_
   refine V.ru 1 ?_
   refine V.nt ?_
   have hr331 : delL (hd.map encM) kk = (hd.take (kk).toNat ++ hd.drop (kk + 1).toNat).map encM := del_held ⟨by omega, by omega⟩
   replace F254 := F254.gr G268
   replace F254 := F254.mv1 G273 (by (try dsimp only [V.In]); first | omega | grind)
   replace F254 := F254.gr (G301.trans G307)
   replace F254 := F254.bl1 G318 (by intro j h; (try dsimp only [V.In] at h ⊢); first | omega | grind)
   replace F254 := F254.bl1 G328 (by intro j h; (try dsimp only [V.In] at h ⊢); first | omega | grind)
   rw [hr331] at F254
   clear hr331
   have hless := less_held (held := hd) hkk
   
   replace F_l := F_l.mb G173 hD_l
   replace F_l := F_l.mb G174 hD_l
   replace F_l := F_l.gr G180
   replace F_l := F_l.mb G190 hD_l
   replace F_l := F_l.mb G191 hD_l
   replace F_l := F_l.mb G219 hD_l
   replace F_l := F_l.mb G220 hD_l
   replace F_l := F_l.gr G227
   replace F_l := F_l.mb G232 hD_l
   replace F_l := F_l.mb G260 hD_l
   replace F_l := F_l.mb G261 hD_l
   replace F_l := F_l.gr G268
   replace F_l := F_l.mb G273 hD_l
   replace F_l := F_l.gr (G301.trans G307)
   replace F_l := V.Sl.bl F_l G318 (by first | exact (fun _ h => by have := h.2; omega) | (intro k h; have := hD_l k h; omega))
   replace F_l := V.Sl.bl F_l G328 (by first | exact (fun _ h => by have := h.2; omega) | (intro k h; have := hD_l k h; omega))
   replace F_order := F_order.mb G173 hD_order
   replace F_order := F_order.mb G174 hD_order
   replace F_order := F_order.gr G180
   replace F_order := F_order.mb G190 hD_order
   replace F_order := F_order.mb G191 hD_order
   replace F_order := F_order.mb G219 hD_order
   replace F_order := F_order.mb G220 hD_order
   replace F_order := F_order.gr G227
   replace F_order := F_order.mb G232 hD_order
   replace F_order := F_order.mb G260 hD_order
   replace F_order := F_order.mb G261 hD_order
   replace F_order := F_order.gr G268
   replace F_order := F_order.mb G273 hD_order
   replace F_order := F_order.gr (G301.trans G307)
   replace F_order := V.Sl.bl F_order G318 (by first | exact (fun _ h => by have := h.2; omega) | (intro k h; have := hD_order k h; omega))
   replace F_order := V.Sl.bl F_order G328 (by first | exact (fun _ h => by have := h.2; omega) | (intro k h; have := hD_order k h; omega))
   replace HG := HG.n1 G173
   replace HG := HG.n1 G174
   replace HG := HG.grow G180
   replace HG := HG.n1 G190
   replace HG := HG.n1 G191
   replace HG := HG.n1 G219
   replace HG := HG.n1 G220
   replace HG := HG.grow G227
   replace HG := HG.n1 G232
   replace HG := HG.n1 G260
   replace HG := HG.n1 G261
   replace HG := HG.grow G268
   replace HG := HG.n1 G273
   replace HG := HG.grow (G301.trans G307)
   replace HG := HG.bl (Go.RowKit.Below.mono G318 (by first | assumption | omega))
   replace HG := HG.bl (Go.RowKit.Below.mono G328 (by first | assumption | omega))
   exact ⟨_, (by have := less_held (held := hd) hkk; omega), HG, (by omega), F_l, F_order, ((hd.take (kk).toNat ++ hd.drop (kk + 1).toNat)), ((fun k => BH k ∨ EH2 k)), ((V.In k303 w327.heap.size)), (i2 + 1), (g247), (B248), a324, c325, rfl, (by have := less_held (held := hd) hkk; omega), (less_all hall2), (fun j h => h.elim (fun h => ⟨(hTe j h).1, (hTe j h).2, (hS1 j h).2.2⟩) (fun h => ⟨by have := h.1; omega, fun e => by have := hb264 _ e; have := h.1; omega, by have := h.1; omega⟩)), (fun j h => h.elim (fun h => by have := hBh2 j h; omega) (fun h => h.2)), (fun j h e => by have := hBh2 j e; have := h.1; omega), (hUe), (hVe), (V.RowE.ofRow F326), F254, rfl, rfl, rfl, rfl, rfl⟩
  ·
   try replace h16 := V.dec h16
   try simp only [V.mk] at h16
   refine V.exit ?_
   refine V.tX ?_
   refine V.tX ?_
   refine V.bE ?_
   refine V.tN ?_
   refine V.sr ?_
   refine V.ru 1 ?_
   refine V.call (blen_spec F5) rfl rfl rfl ?_
   rintro _ w332 ⟨rfl, G333⟩
   have z334 := V.Fr.size G333
   refine V.ru 2 ?_
   refine V.nt ?_
   refine V.ret ?_
   refine V.done rfl ?_
   replace HG := HG.grow G333
   exact ⟨congrArg Value.bool (decide_eq_true (by rw [List.length_map]; omega)), HG⟩

end Go.Proofs.YtmmgmkklakkooaaGreat
