/- Proved here: walks: what functions of this seat's program return and what they leave of memory, each as a contract. Conditions: stated at each theorem. -/
import Derived.Test.YtmmgmkklakkooaaGreatMlbag2
namespace Go.Proofs.YtmmgmkklakkooaaGreat
set_option linter.unusedVariables false
set_option linter.unusedSimpArgs false
open Go
open V (Bytes Meets Env Sl Own Gr Fr Cells S)

def V.Cod.msg : V.Cod MsgV where
  sz := 53
  R := fun w D m cs => ∃ (a1 : Option Addr) (c1 : Nat) (a2 : Option Addr) (c2 : Nat) (a3 : Option Addr) (c3 : Nat) (a4 : Option Addr) (c4 : Nat) (a5 : Option Addr) (c5 : Nat), cs = [.int .i64 m.kd, .int .i64 m.fr, .int .i64 m.to, .int .i64 m.rg, .int .i64 m.te, .int .i64 m.ix, .int .i64 m.lt, .int .i64 m.co, .bool m.ok, .slice a1 m.es.length c1, .slice a2 m.da.length c2, .int .i64 m.nw, .int .i64 m.nl, .int .i64 m.c.kd, .int .i64 m.c.id, .int .i64 m.c.le, .int .i64 m.c.nd, .int .i64 m.c.ti, .int .i64 m.c.te, .string m.c.an, .int .i64 m.c.sw, .int .i64 m.c.sl, .int .i64 m.c.sq, .string m.c.fr, .string m.c.to, .string m.c.va, .bool m.c.go, .int .i64 m.c.aw, .int .i64 m.c.al, .int .i64 m.c.lw, .int .i64 m.c.ll, .bool m.c.cm, .bool m.c.st, .slice a3 m.c.ws.length c3, .int .i64 m.c.pr, .int .i64 m.r.er, .int .i64 m.r.aw, .int .i64 m.r.al, .slice a4 m.r.ps.length c4, .bool m.r.fo, .int .i64 m.r.ti, .int .i64 m.r.te, .string m.r.an, .int .i64 m.r.sw, .int .i64 m.r.sl, .int .i64 m.r.rc.id, .int .i64 m.r.rc.ep, .int .i64 m.r.rc.st, .int .i64 m.r.rc.aw, .int .i64 m.r.rc.al, .int .i64 m.r.rc.bw, .int .i64 m.r.rc.bl, .slice a5 m.r.rc.ws.length c5] ∧ Sl V.Cod.ent w D a1 c1 m.es ∧ Sl V.Cod.byte w D a2 c2 m.da ∧ Sl V.Cod.write w D a3 c3 m.c.ws ∧ Sl (V.Cod.pair V.Cod.str V.Cod.str) w D a4 c4 m.r.ps ∧ Sl V.Cod.write w D a5 c5 m.r.rc.ws
  len := by rintro w D m cs ⟨a1, c1, a2, c2, a3, c3, a4, c4, a5, c5, rfl, -⟩; rfl
  one := by
    rintro w D m cs ⟨a1, c1, a2, c2, a3, c3, a4, c4, a5, c5, rfl, -⟩
    exact List.all_eq_true.1 (by rfl)
  mv := by rintro S w w' D m cs ⟨a1, c1, a2, c2, a3, c3, a4, c4, a5, c5, rfl, h1, h2, h3, h4, h5⟩ f hs; exact ⟨a1, c1, a2, c2, a3, c3, a4, c4, a5, c5, rfl, h1.mv f hs, h2.mv f hs, h3.mv f hs, h4.mv f hs, h5.mv f hs⟩
  mono := by rintro w D D' m cs ⟨a1, c1, a2, c2, a3, c3, a4, c4, a5, c5, rfl, h1, h2, h3, h4, h5⟩ hm; exact ⟨a1, c1, a2, c2, a3, c3, a4, c4, a5, c5, rfl, h1.mono hm, h2.mono hm, h3.mono hm, h4.mono hm, h5.mono hm⟩

theorem put_held {held : List MsgV} {x : MsgV} (he : encE x = 0) (hl : (held.map encM).length < 300) : putL (held.map encM) x = (held ++ [x]).map encM := by rw [put_yes he hl, List.map_append]; rfl
theorem hall_put {held : List MsgV} {x : MsgV} (h : ∀ y ∈ held, encE y = 0) (he : encE x = 0) : ∀ y ∈ held ++ [x], encE y = 0 := by
  intro y hy
  rcases List.mem_append.1 hy with h1 | h1
  · exact h y h1
  · rw [List.mem_singleton.1 h1]; exact he
theorem putE_0 {l : List (List UInt8)} {x : MsgV} (h : putE l x = 0) : encE x = 0 := by
  unfold putE at h
  split at h
  · assumption
  · cases h
theorem putE_n {l : List (List UInt8)} {x : MsgV} (hl : l.length < 300) (h : ¬ putE l x = 0) : ¬ encE x = 0 := fun he => h (putE_yes he hl)
theorem look_held {held : List MsgV} (h : ∀ y ∈ held, encE y = 0) {j : Int} {x : MsgV} (h0 : 0 ≤ j ∧ j < held.length) (hj : j.toNat < held.length) (hx : held[j.toNat] = x) : lookM (held.map encM) j = x ∧ lookB (held.map encM) j = true := by
  have hg : (held.map encM).getD j.toNat [] = encM x := by
    rw [List.getD_eq_getElem?_getD, List.getElem?_map, List.getElem?_eq_getElem hj, hx]; rfl
  have he : encE x = 0 := h x (hx ▸ List.getElem_mem _)
  have hc : 0 ≤ j ∧ j < ((held.map encM).length : Int) := by rw [List.length_map]; exact h0
  unfold lookM lookB
  rw [if_pos hc, if_pos hc, hg, decM_enc he]; exact ⟨rfl, rfl⟩
theorem look_held2 {held : List MsgV} (h : ∀ y ∈ held, encE y = 0) {j : Nat} {x : MsgV} (hx : held[j]? = some x) : lookM (held.map encM) (j : Int) = x ∧ lookB (held.map encM) (j : Int) = true := by
  obtain ⟨h1, h2⟩ := List.getElem?_eq_some_iff.1 hx
  exact look_held h (by omega) (by omega) (by simpa using h2)
theorem looks_lt {held : List MsgV} {xa x : MsgV} {a : Int} {i : Nat} (ha : 0 ≤ a ∧ a < held.length) (hi : (i : Int) < a) (hl : i < held.length) (hx : held[i] = x) : ((held ++ [xa]).take a.toNat ++ (held ++ [xa]).drop (a + 1).toNat)[i]? = some x := by
  rw [List.getElem?_append_left (by rw [List.length_take, List.length_append]; simp; omega), List.getElem?_take, if_pos (by omega), List.getElem?_append_left hl, List.getElem?_eq_getElem hl, hx]
theorem looks_ge {held : List MsgV} {xa x : MsgV} {a : Int} {i : Nat} (ha : 0 ≤ a ∧ a < held.length) (hi : a ≤ (i : Int)) (hx : (held ++ [xa])[i + 1]? = some x) : ((held ++ [xa]).take a.toNat ++ (held ++ [xa]).drop (a + 1).toNat)[i]? = some x := by
  have e : ((held ++ [xa]).take a.toNat).length = a.toNat := by rw [List.length_take, List.length_append]; simp; omega
  rw [List.getElem?_append_right (by omega), e, List.getElem?_drop, show (a + 1).toNat + (i - a.toNat) = i + 1 by omega, hx]
theorem looks_mid {held : List MsgV} {xa x : MsgV} {a : Int} {i : Nat} (ha : 0 ≤ a ∧ a < held.length) (hi : a ≤ (i : Int)) (hl : ((i : Int) + 1).toNat < held.length) (hx : held[((i : Int) + 1).toNat] = x) : ((held ++ [xa]).take a.toNat ++ (held ++ [xa]).drop (a + 1).toNat)[i]? = some x :=
  looks_ge ha hi (by rw [List.getElem?_append_left (by omega), List.getElem?_eq_getElem (by omega)]; subst hx; congr 2 <;> omega)
theorem looks_end {held : List MsgV} {xa : MsgV} {a : Int} {i : Nat} (ha : 0 ≤ a ∧ a < held.length) (hi : a ≤ (i : Int)) (hl : i + 1 = held.length) : ((held ++ [xa]).take a.toNat ++ (held ++ [xa]).drop (a + 1).toNat)[i]? = some xa :=
  looks_ge ha hi (by rw [hl]; simp)
theorem looks_all {held : List MsgV} {xa : MsgV} {a b : Nat} (h : ∀ y ∈ held, encE y = 0) (hx : encE xa = 0) : ∀ y ∈ (held ++ [xa]).take a ++ (held ++ [xa]).drop b, encE y = 0 := by
  intro y hy
  have := hall_put h hx
  rcases List.mem_append.1 hy with h1 | h1
  · exact this y (List.mem_of_mem_take h1)
  · exact this y (List.mem_of_mem_drop h1)
theorem looks_len {held : List MsgV} {xa : MsgV} {a : Int} (ha : 0 ≤ a ∧ a < held.length) : ((held ++ [xa]).take a.toNat ++ (held ++ [xa]).drop (a + 1).toNat).length = held.length := by
  rw [List.length_append, List.length_take, List.length_drop, List.length_append]; simp; omega
theorem look_out {l : List (List UInt8)} {j : Int} (h : ¬ (0 ≤ j ∧ j < (l.length : Int))) : lookB l j = false := if_neg h
theorem twc_held {held : List MsgV} {j : Int} {x : MsgV} (h0 : 0 ≤ j ∧ j < held.length) (hl : held.length < 300) (hj : j.toNat < held.length) (hx : held[j.toNat] = x) : twcL (held.map encM) j = (held ++ [x]).map encM := by
  have hg : (held.map encM).getD j.toNat [] = encM x := by
    rw [List.getD_eq_getElem?_getD, List.getElem?_map, List.getElem?_eq_getElem hj, hx]; rfl
  unfold twcL
  rw [if_pos ⟨by rw [List.length_map]; exact h0, by rw [List.length_map]; exact hl⟩, hg, List.map_append]; rfl
theorem del_held {held : List MsgV} {j : Int} (h0 : 0 ≤ j ∧ j < held.length) : delL (held.map encM) j = (held.take j.toNat ++ held.drop (j + 1).toNat).map encM := by
  unfold delL
  rw [if_pos (by rw [List.length_map]; exact h0), List.map_append, List.map_take, List.map_drop]
section
open V
variable {P : Program} {n : Nat} {e : Env} {o : Oper}
theorem V.rem_run {t t' : Nat} {x y : Operand} {a b : Int} (ho : o.op = .binOp .rem t x y t') (hx : evn n e x = some (.int .i64 a)) (hy : evn n e y = some (.int .i64 b)) (h0 : 0 ≤ a) (h1 : 0 < b) (w : World) :
    (execOp (act n e).eval o).run P w = .ok (.value (.int .i64 (a % b))) w := by
  simp only [execOp, ho, evn_eval hx, evn_eval hy]
  refine run_pure_value (bin1_run ?_)
  have hb : ¬ b = 0 := by omega
  simp [bin1, bin2, hb, Int.tmod_eq_emod_of_nonneg h0]
end

set_option maxHeartbeats 900000 in
set_option maxRecDepth 10000 in
theorem bagLooks_walk {w : World}  {D_l : Nat → Prop} {c_l : Nat} {a_l : Option Addr} {l : List MsgV} (F_l : Sl V.Cod.msg w D_l a_l c_l l) (hD_l : ∀ k, D_l k → k < w.heap.size) {at_ : Int} (hzl : ∀ x ∈ l, SzM x) (hat : -9223372036854775808 ≤ at_ ∧ at_ ≤ 9223372036854775807) :
    Meets Tryz.prog 7 [.slice a_l l.length c_l, .int .i64 at_] w fun r w' => r = .bool true ∧ Gr w w' := by
 have HG := V.Fr.refl [] w
 refine V.enter (n := 177) Tryz.func7 rfl rfl (by decide) rfl ?_
 refine V.sr ?_
 refine V.ru 1 ?_
 refine V.nt ?_
 refine V.sr ?_
 refine V.call (bnew_spec) rfl rfl rfl ?_
 rintro _ w8 ⟨k1, g2, B3, rfl, ⟨h4l, h4u⟩, F5, h6, h7, G9⟩
 have z10 := V.Fr.size G9
 refine V.ru 1 ?_
 refine V.nt ?_
 refine V.seq ?_
 refine V.sr ?_
 refine V.call (balive_spec) rfl rfl rfl ?_
 rintro _ w11 ⟨rfl, G12⟩
 have z13 := V.Fr.size G12
 refine V.ru 5 ?_
 refine V.nt ?_
 refine V.condN rfl (by rfl) ?_
 refine V.skip ?_
 refine V.tN ?_
 refine V.sr ?_
 refine V.ru 1 ?_
 refine V.nt ?_
 refine V.seq ?_
 refine V.sr ?_
 refine V.ru 1 ?_
 refine V.nt ?_
 refine V.block ?_
 replace F_l := F_l.gr (G9.trans G12)
 have hl63 := F_l.len63
 replace F5 := F5.gr G12
 replace HG := HG.grow (G9.trans G12)
 refine V.loopM (fun m e v15 => Fr [] w v15 ∧ w11.heap.size ≤ v15.heap.size ∧ Sl V.Cod.msg v15 D_l a_l c_l l ∧ ∃ (held : List MsgV) (EH : Nat → Prop) (i : Nat) (g1 : Nat) (B1 : Nat → Prop) (ra136 : Option Addr) (rc136 : Nat), m = l.length - i ∧ i ≤ l.length ∧ i ≤ 40 ∧ held.length ≤ i ∧ (∀ x ∈ held, encE x = 0) ∧ (∀ j, EH j → w.heap.size ≤ j) ∧ (∀ j, EH j → j ≠ g1 ∧ ¬ B1 j ∧ j ≠ k1) ∧ (∀ j, EH j → j < v15.heap.size) ∧ w.heap.size ≤ g1 ∧ (∀ j, B1 j → w.heap.size ≤ j) ∧ V.RowE V.Cod.msg 50 v15 D_l EH ra136 rc136 held ∧ Bg v15 k1 g1 B1 (held.map encM) ∧ e 0 = .slice a_l l.length c_l ∧ e 1 = .int .i64 at_ ∧ e 5 = .pointer (some ⟨k1, 0, none⟩) ∧ e 6 = .slice ra136 held.length rc136 ∧ e 7 = .int .i64 (i : Int)) ?_ ?_
 ·
  exact ⟨_, HG, (by omega), F_l, ([]), (V.None'), (0), (g2), (B3), none, 0, rfl, (Nat.zero_le _), (Nat.zero_le _), (Nat.le_refl _), (fun x h => by cases h), ((by intro j h; (try dsimp only [V.In] at h ⊢); first | exact h.elim | grind)), ((by intro j h; (try dsimp only [V.In] at h ⊢); first | exact h.elim | grind)), ((by intro j h; (try dsimp only [V.In] at h ⊢); first | exact h.elim | grind)), ((by omega)), ((by intro j h; grind)), V.RowE.nil, F5, rfl, rfl, rfl, rfl, rfl⟩
 clear HG F_l F5
 rintro _ e v15 ⟨HG, z16, F_l, held, EH, i, g1, B1, ra136, rc136, rfl, hi, hi9, hhl, hall, hEH1, hEH2, hEH3, hgl1, hBl1, rF136, F5, he0_0, he0_1, he0_5, he0_6, he0_7⟩
 have hBh : ∀ k, (D_l k ∨ EH k) → k < v15.heap.size := fun k h => h.elim (fun h => by have := hD_l k h; omega) (hEH3 k)
 refine V.knownC (t := 0) he0_0 ?_
 refine V.knownC (t := 1) he0_1 ?_
 refine V.knownC (t := 5) he0_5 ?_
 refine V.knownC (t := 6) he0_6 ?_
 refine V.knownC (t := 7) he0_7 ?_
 refine V.seq ?_
 refine V.sr ?_
 refine V.ru 5 ?_
 refine V.andG T_ok 2 4 29 rfl rfl rfl rfl rfl rfl rfl rfl ?_
 refine V.nt ?_
 refine V.condT rfl (fun h6 => ?_) (fun h6 => ?_)
 ·
  try replace h6 := V.dec h6
  try simp only [V.mk] at h6
  refine V.skip ?_
  refine V.tN ?_
  refine V.seq ?_
  refine V.block ?_
  refine V.sr ?_
  refine V.ru 2 ?_
  refine V.elem T_ok F_l rfl rfl sz50 rfl rfl rfl rfl V.lenA V.lenA ?_
  rintro b17 o18 cs19 hx20 hb21 hR39 hA22
  obtain ⟨x23, hx23⟩ : ∃ z', l[((i : Int)).toNat] = z' := ⟨_, rfl⟩
  rw [hx23] at hR39
  obtain ⟨a24, c25, a27, c28, a30, c31, a33, c34, a36, c37, rfl, F26, F29, F32, F35, F38⟩ := hR39
  try simp only [Int.toNat_natCast] at hx23 hx20
  refine V.loadA T_ok (o0 := o18) (off := 0) hA22 rfl rfl rfl rfl rfl ?_
  have hzx23 := hzl x23 (hx23 ▸ List.getElem_mem _)
  refine V.call (mfits2_spec (mm := x23) F26 (fun k hk => by have := hD_l k hk; omega) F29 (fun k hk => by have := hD_l k hk; omega) F32 (fun k hk => by have := hD_l k hk; omega) F35 (fun k hk => by have := hD_l k hk; omega) F38 (fun k hk => by have := hD_l k hk; omega)) rfl rfl rfl ?_
  rintro _ w42 ⟨v40, rfl, h41, G43⟩
  have z44 := V.Fr.size G43
  refine V.ru 1 ?_
  refine V.nt ?_
  refine V.seq ?_
  replace F5 := F5.gr G43
  have hb45 := F5.bl
  have hb45g := F5.gl
  have hb45k := F5.lt
  refine V.region ?_
  refine V.ru 2 ?_
  refine V.split (j := 1) (t := 41) rfl rfl (fun g9_1 => ?_) (fun g9_1 => ?_)
  ·
   try replace g9_1 := V.dec g9_1
   try simp only [V.mk] at g9_1
   refine V.ru 3 ?_
   refine V.yes rfl rfl rfl ?_
   replace F_l := F_l.gr G43
   refine V.elem T_ok F_l rfl rfl sz50 rfl rfl rfl rfl V.lenA V.lenA ?_
   rintro b46 o47 cs48 hx49 hb50 hR68 hA51
   obtain ⟨x52, hx52⟩ : ∃ z', l[((i : Int)).toNat] = z' := ⟨_, rfl⟩
   rw [hx52] at hR68
   obtain ⟨a53, c54, a56, c57, a59, c60, a62, c63, a65, c66, rfl, F55, F58, F61, F64, F67⟩ := hR68
   try simp only [Int.toNat_natCast] at hx52 hx49
   obtain rfl : x23 = x52 := hx23.symm.trans hx52
   refine V.yes rfl rfl rfl ?_
   refine V.loadA T_ok (o0 := o47) (off := 0) hA51 rfl rfl rfl rfl rfl ?_
   refine V.yes rfl rfl rfl ?_
   refine V.call (bput_spec (mm := x23) F5 F55 (fun k hk => by have := hD_l k hk; omega) F58 (fun k hk => by have := hD_l k hk; omega) F61 (fun k hk => by have := hD_l k hk; omega) F64 (fun k hk => by have := hD_l k hk; omega) F67 (fun k hk => by have := hD_l k hk; omega) (by first | (with_reducible assumption) | exact hz)) rfl rfl rfl ?_
   rintro _ w74 ⟨g69, B70, rfl, F71, h72, h73, G75⟩
   obtain ⟨w76, G77, G78⟩ := V.Fr.two G75
   have z79 := V.Fr.size G77
   have z80 := V.Fr.size G78
   refine V.ru 2 ?_
   refine V.nt ?_
   refine V.condT rfl (fun h9 => ?_) (fun h9 => ?_)
   ·
    try replace h9 := V.dec h9
    try simp only [V.mk] at h9
    have hex23 : encE x23 = 0 := putE_0 (by first | exact h9 | exact h9.2)
    have hb81 := F71.bl
    have hb81g := F71.gl
    have hb81k := F71.lt
    refine V.region ?_
    refine V.ru 3 ?_
    replace F_l := F_l.mb G77 hD_l
    replace F_l := F_l.mb G78 hD_l
    refine V.elem T_ok F_l rfl rfl sz50 rfl rfl rfl rfl V.lenA V.lenA ?_
    rintro b82 o83 cs84 hx85 hb86 hR104 hA87
    obtain ⟨x88, hx88⟩ : ∃ z', l[((i : Int)).toNat] = z' := ⟨_, rfl⟩
    rw [hx88] at hR104
    obtain ⟨a89, c90, a92, c93, a95, c96, a98, c99, a101, c102, rfl, F91, F94, F97, F100, F103⟩ := hR104
    try simp only [Int.toNat_natCast] at hx88 hx85
    obtain rfl : x23 = x88 := hx23.symm.trans hx88
    refine V.loadA T_ok (o0 := o83) (off := 0) hA87 rfl rfl rfl rfl rfl ?_
    refine V.mkSlice T_ok zero50 rfl rfl sz50 rfl rfl rfl rfl rfl rfl ?_
    rintro k105 w108 s110 s111 G109 Fk106
    have z112 := V.Fr.size G109
    replace F91 := F91.gr G109
    replace F94 := F94.gr G109
    replace F97 := F97.gr G109
    replace F100 := F100.gr G109
    replace F103 := F103.gr G109
    have F107 : Sl V.Cod.msg w108 (fun k => k = k105 ∨ D_l k ∨ D_l k ∨ D_l k ∨ D_l k ∨ D_l k) (some ⟨k105, 0, none⟩) ([x23] : List MsgV).length ([x23] : List MsgV) := V.Cells.sl Fk106 (V.reps_cons (x := x23) ⟨_, _, _, _, _, _, _, _, _, _, rfl, F91.mono (fun k h => .inr (.inl h)), F94.mono (fun k h => .inr (.inr (.inl h))), F97.mono (fun k h => .inr (.inr (.inr (.inl h)))), F100.mono (fun k h => .inr (.inr (.inr (.inr (.inl h))))), F103.mono (fun k h => .inr (.inr (.inr (.inr (.inr (h))))))⟩ rfl rfl) (.inl rfl) (by simp [maxLen])
    have hDu113 : ∀ k, (fun k => k = k105 ∨ D_l k ∨ D_l k ∨ D_l k ∨ D_l k ∨ D_l k) k → k < w108.heap.size := by intro k h; (try dsimp only at h); rcases h with h | h | h | h | h | h <;> first | omega | (have := h.2; omega) | (have := h.1; omega) | (have := hD_l k h; omega) | (have := hD_l k h; omega) | (have := hD_l k h; omega) | (have := hD_l k h; omega) | (have := hD_l k h; omega) | (have := hD_l k h; omega) | (have := hD_l k h; omega)
    replace rF136 := rF136.gr G43
    replace rF136 := rF136.mv1 G77 (by (try dsimp only [V.In]); first | omega | grind)
    replace rF136 := rF136.mv1 G78 (by (try dsimp only [V.In]); first | omega | grind)
    replace rF136 := rF136.gr G109
    refine V.appendZ rF136 (F107.from Tryz.underlying67) elT67_67 rfl rfl rfl rfl rfl V.lenA (by unfold maxLen; first | omega | (simp only [List.length_take, List.length_drop, List.length_append, List.length_cons, List.length_nil, List.length_replicate, List.length_set, V.length_data, V.S_size]; omega)) (by intro k h; (try dsimp only [V.In] at h ⊢); first | omega | grind) (by intro k h; (try dsimp only [V.In] at h ⊢); first | omega | grind) (by intro k h; (try dsimp only [V.In] at h ⊢); first | omega | grind) ?_
    rintro a114 c115 w117 G118 s119 F116
    clear rF136
    clear F107
    have z120 := V.FrE.size G118
    replace F116 := F116.mono2 (B' := D_l) (E' := (fun j => EH j ∨ V.In w74.heap.size w117.heap.size j)) (by intro k h; (first | exact (h.elim (fun h => h.elim) (fun h => h.elim)) | ((try dsimp only [V.In] at h ⊢); first | omega | grind))) (by intro k h; (try dsimp only [V.In] at h ⊢); first | omega | grind)
    refine V.ru 1 ?_
    refine V.nil ?_
    refine V.bN ?_
    refine V.tN ?_
    refine V.region ?_
    refine V.ru 1 ?_
    refine V.addN rfl rfl rfl rfl rfl V.lenA V.lenA ?_
    refine V.ru 1 ?_
    refine V.nt ?_
    have hr121 : putL (held.map encM) x23 = (held ++ [x23]).map encM := put_held hex23 (by rw [List.length_map]; omega)
    replace F71 := F71.gr G109
    replace F71 := F71.mvE G118 (by intro j h hd; (try dsimp only [V.In] at h hd ⊢); first | omega | grind)
    rw [hr121] at F71
    clear hr121
    
    replace F_l := F_l.gr G109
    replace F_l := F_l.mvE G118 (by intro j h hd; (try dsimp only [V.In] at h hd ⊢); first | omega | grind)
    replace HG := HG.grow G43
    replace HG := HG.n1 G77
    replace HG := HG.n1 G78
    replace HG := HG.grow G109
    replace HG := HG.stepE G118 (by intro i h; (try dsimp only [V.In] at h ⊢); first | omega | grind)
    exact ⟨_, (by omega), HG, (by omega), F_l, ((held ++ ([x23] : List MsgV))), ((fun j => EH j ∨ V.In w74.heap.size w117.heap.size j)), (i + 1), (g69), (B70), a114, c115, rfl, (by omega), (by omega), (by (try simp only [List.length_append, List.length_cons, List.length_nil]); omega), (hall_put hall hex23), ((by intro j h; (try dsimp only [V.In] at h ⊢); first | exact h.elim | grind)), ((by intro j h; (try dsimp only [V.In] at h ⊢); first | exact h.elim | grind)), ((by intro j h; (try dsimp only [V.In] at h ⊢); first | exact h.elim | grind)), ((by omega)), ((by intro j h; grind)), F116, F71, rfl, rfl, rfl, rfl, rfl⟩
   ·
    try replace h9 := V.dec h9
    try simp only [V.mk] at h9
    have hex23 : ¬ encE x23 = 0 := putE_n (by rw [List.length_map]; omega) h9
    refine V.skip ?_
    refine V.bN ?_
    refine V.tN ?_
    refine V.region ?_
    refine V.ru 1 ?_
    refine V.addN rfl rfl rfl rfl rfl V.lenA V.lenA ?_
    refine V.ru 1 ?_
    refine V.nt ?_
    have hb122 := F71.bl
    have hb122g := F71.gl
    have hb122k := F71.lt
    have hr123 : putL (held.map encM) x23 = held.map encM := put_no (by assumption)
    rw [hr123] at F71
    clear hr123
    
    replace F_l := F_l.mb G77 hD_l
    replace F_l := F_l.mb G78 hD_l
    replace rF136 := rF136.gr G43
    replace rF136 := rF136.mv1 G77 (by (try dsimp only [V.In]); first | omega | grind)
    replace rF136 := rF136.mv1 G78 (by (try dsimp only [V.In]); first | omega | grind)
    replace HG := HG.grow G43
    replace HG := HG.n1 G77
    replace HG := HG.n1 G78
    exact ⟨_, (by omega), HG, (by omega), F_l, ((held)), (EH), (i + 1), (g69), (B70), ra136, rc136, rfl, (by omega), (by omega), (by (try simp only [List.length_append, List.length_cons, List.length_nil]); omega), (hall), ((by intro j h; (try dsimp only [V.In] at h ⊢); first | exact h.elim | grind)), ((by intro j h; (try dsimp only [V.In] at h ⊢); first | exact h.elim | grind)), ((by intro j h; (try dsimp only [V.In] at h ⊢); first | exact h.elim | grind)), ((by omega)), ((by intro j h; grind)), rF136, F71, rfl, rfl, rfl, rfl, rfl⟩
  ·
   try replace g9_1 := V.dec g9_1
   try simp only [V.mk] at g9_1
   refine V.ru 8 ?_
   refine V.nt ?_
   refine V.condN rfl rfl ?_
   refine V.skip ?_
   refine V.bN ?_
   refine V.tN ?_
   refine V.region ?_
   refine V.ru 1 ?_
   refine V.addN rfl rfl rfl rfl rfl V.lenA V.lenA ?_
   refine V.ru 1 ?_
   refine V.nt ?_
   
   replace F_l := F_l.gr G43
   replace rF136 := rF136.gr G43
   replace HG := HG.grow G43
   exact ⟨_, (by omega), HG, (by omega), F_l, ((held)), (EH), (i + 1), (g1), (B1), ra136, rc136, rfl, (by omega), (by omega), (by (try simp only [List.length_append, List.length_cons, List.length_nil]); omega), (hall), ((by intro j h; (try dsimp only [V.In] at h ⊢); first | exact h.elim | grind)), ((by intro j h; (try dsimp only [V.In] at h ⊢); first | exact h.elim | grind)), ((by intro j h; (try dsimp only [V.In] at h ⊢); first | exact h.elim | grind)), ((by omega)), ((by intro j h; grind)), rF136, F5, rfl, rfl, rfl, rfl, rfl⟩
 ·
  try replace h6 := V.dec h6
  try simp only [V.mk] at h6
  refine V.exit ?_
  refine V.tX ?_
  refine V.tX ?_
  refine V.bE ?_
  refine V.tN ?_
  refine V.seq ?_
  refine V.seq ?_
  have hb124 := F5.bl
  have hb124g := F5.gl
  have hb124k := F5.lt
  refine V.region ?_
  refine V.ru 1 ?_
  refine V.nt ?_
  refine V.block ?_
  refine V.loopM (fun m e v126 => Fr [] w v126 ∧ v15.heap.size ≤ v126.heap.size ∧ Sl V.Cod.msg v126 D_l a_l c_l l ∧ Bg v126 k1 g1 B1 (held.map encM) ∧ V.RowE V.Cod.msg 50 v126 D_l EH ra136 rc136 held ∧ ∃ (i2 : Nat) , m = 2 * held.length - i2 ∧ i2 ≤ 2 * held.length ∧ e 1 = .int .i64 at_ ∧ e 5 = .pointer (some ⟨k1, 0, none⟩) ∧ e 6 = .slice ra136 held.length rc136 ∧ e 9 = .int .i64 (i2 : Int)) ?_ ?_
  ·
   exact ⟨_, HG, (by omega), F_l, F5, rF136, (0), rfl, (Nat.zero_le _), rfl, rfl, rfl, rfl⟩
  clear HG F_l F5 rF136
  rintro _ e v126 ⟨HG, z127, F_l, F5, rF136, i2, rfl, hi2, he1_1, he1_5, he1_6, he1_9⟩
  refine V.knownC (t := 1) he1_1 ?_
  refine V.knownC (t := 5) he1_5 ?_
  refine V.knownC (t := 6) he1_6 ?_
  refine V.knownC (t := 9) he1_9 ?_
  refine V.seq ?_
  refine V.sr ?_
  refine V.ru 3 ?_
  refine V.mulN rfl rfl rfl rfl rfl V.lenA V.lenA ?_
  refine V.ru 1 ?_
  refine V.nt ?_
  refine V.condT rfl (fun h12 => ?_) (fun h12 => ?_)
  ·
   try replace h12 := V.dec h12
   try simp only [V.mk] at h12
   refine V.skip ?_
   refine V.tN ?_
   refine V.seq ?_
   refine V.block ?_
   refine V.sr ?_
   refine V.ru 4 ?_
   refine V.remN rfl rfl rfl rfl rfl (by omega) (by omega) ?_
   obtain ⟨jj, hjj, hjja, hjjb⟩ : ∃ r_ : Int, (i2 : Int) % (held.length : Int) = r_ ∧ 0 ≤ r_ ∧ r_ < (held.length : Int) := ⟨_, rfl, Int.emod_nonneg _ (by omega), Int.emod_lt_of_pos _ (by omega)⟩
   rw [hjj]
   refine V.call (blook_spec (i := jj) F5) rfl rfl rfl ?_
   rintro _ w143 ⟨a128, c129, a130, c131, a132, c133, a134, c135, a136, c137, rfl, F138, F139, F140, F141, F142, G144⟩
   have z145 := V.Fr.size G144
   refine V.ru 3 ?_
   refine V.alloc zero50 rfl rfl rfl ?_
   rintro k146 w148 s150 s151 G149 Fk147
   have z152 := V.Fr.size G149
   try simp only [V.cellsL, V.spliceL] at Fk147
   refine V.storeO Fk147 rfl rfl rfl rfl sz50 rfl rfl rfl rfl ?_
   rintro w153 G154 z156 Fs155
   clear Fk147
   have z157 := V.Fr.size G154
   have Fk147 := Fs155; clear Fs155
   simp only [V.spliceL, V.cellsL] at Fk147
   refine V.ru 1 ?_
   refine V.nt ?_
   refine V.seq ?_
   obtain ⟨xj, hxj⟩ : ∃ z', held[jj.toNat]'(by omega) = z' := ⟨_, rfl⟩
   obtain ⟨hlm, hlb⟩ := look_held hall (j := jj) ⟨by omega, by omega⟩ (by omega) hxj
   refine V.drawQ mixed (by kernel_rfl) ?_
   refine V.qrun T_ok 3 rfl ?_
   refine V.qsplitF (j := 2) (t := 75) rfl rfl (by (rw [hlb]; rfl)) ?_
   refine V.qyes rfl rfl rfl ?_
   refine V.qloadO T_ok Fk147 rfl rfl rfl rfl rfl ?_
   refine V.qrun T_ok 4 rfl ?_
   refine V.qyes rfl rfl rfl ?_
   refine V.qstep rfl rfl (fun w_ _ => V.rem_run rfl rfl rfl (by omega) (by omega) w_) ?_
   rw [hjj]
   refine V.qyes rfl rfl rfl ?_
   replace rF136 := rF136.gr (G144.trans G149)
   replace rF136 := rF136.mv1 G154 (by (try dsimp only [V.In]); first | omega | grind)
   refine V.qelem T_ok rF136.slB rfl rfl sz50 rfl rfl rfl rfl V.lenA V.lenA ?_
   rintro b158 o159 cs160 hx161 hb162 hR180 hA163
   obtain ⟨x164, hx164⟩ : ∃ z', held[(jj).toNat] = z' := ⟨_, rfl⟩
   rw [hx164] at hR180
   obtain ⟨a165, c166, a168, c169, a171, c172, a174, c175, a177, c178, rfl, F167, F170, F173, F176, F179⟩ := hR180
   try simp only [Int.toNat_natCast] at hx164 hx161
   refine V.qyes rfl rfl rfl ?_
   refine V.qloadA T_ok (o0 := o159) (off := 0) hA163 rfl rfl rfl rfl rfl ?_
   refine V.qyes rfl rfl rfl ?_
   replace F138 := F138.gr G149
   replace F138 := F138.ma G154
   replace F139 := F139.gr G149
   replace F139 := F139.ma G154
   replace F140 := F140.gr G149
   replace F140 := F140.ma G154
   replace F141 := F141.gr G149
   replace F141 := F141.ma G154
   replace F142 := F142.gr G149
   replace F142 := F142.ma G154
   refine V.qcall V.clo (fun w1 g => (msame_spec (a := (lookM (held.map encM) jj)) (b := x164) (F138.sl.gr g) (fun k hk => by have := Fr.size g; have := hk.2; omega) (F139.gr g) (fun k hk => by have := Fr.size g; have := hk.2; omega) (F140.sl.gr g) (fun k hk => by have := Fr.size g; have := hk.2; omega) (F141.sl.gr g) (fun k hk => by have := Fr.size g; have := hk.2; omega) (F142.gr g) (fun k hk => by have := Fr.size g; have := hk.2; omega) (F167.gr g) (fun k hk => by have := Fr.size g; have := hBh k hk; omega) (F170.gr g) (fun k hk => by have := Fr.size g; have := hBh k hk; omega) (F173.gr g) (fun k hk => by have := Fr.size g; have := hBh k hk; omega) (F176.gr g) (fun k hk => by have := Fr.size g; have := hBh k hk; omega) (F179.gr g) (fun k hk => by have := Fr.size g; have := hBh k hk; omega))) rfl rfl rfl ?_
   refine V.qrun T_ok 2 rfl ?_
   refine V.qnil ?_
   rintro w181 G182
   have z183 := V.Fr.size G182
   refine V.tN ?_
   refine V.condN rfl (by (rw [hlm, show xj = x164 from hxj.symm.trans hx164, smM_self]; rfl)) ?_
   refine V.skip ?_
   refine V.bN ?_
   refine V.tN ?_
   refine V.region ?_
   refine V.ru 1 ?_
   refine V.addN rfl rfl rfl rfl rfl V.lenA V.lenA ?_
   refine V.ru 1 ?_
   refine V.nt ?_
   replace F_l := F_l.gr (G144.trans G149)
   replace F_l := F_l.mb G154 hD_l
   replace F_l := F_l.gr G182
   replace F5 := F5.gr (G144.trans G149)
   replace F5 := F5.mv1 G154 (by (try dsimp only [V.In]); first | omega | grind)
   replace F5 := F5.gr G182
   replace rF136 := rF136.gr G182
   replace HG := HG.grow (G144.trans G149)
   replace HG := HG.n1 G154
   replace HG := HG.grow G182
   exact ⟨_, (by omega), HG, (by omega), F_l, F5, rF136, (i2 + 1), rfl, (by omega), rfl, rfl, rfl, rfl⟩
  ·
   try replace h12 := V.dec h12
   try simp only [V.mk] at h12
   refine V.exit ?_
   refine V.tX ?_
   refine V.tX ?_
   refine V.bE ?_
   refine V.tN ?_
   refine V.sr ?_
   refine V.ru 3 ?_
   refine V.call (blook_spec (i := (held.length : Int)) F5) rfl rfl rfl ?_
   rintro _ w199 ⟨a184, c185, a186, c187, a188, c189, a190, c191, a192, c193, rfl, F194, F195, F196, F197, F198, G200⟩
   have z201 := V.Fr.size G200
   refine V.ru 3 ?_
   refine V.alloc zero50 rfl rfl rfl ?_
   rintro k202 w204 s206 s207 G205 Fk203
   have z208 := V.Fr.size G205
   try simp only [V.cellsL, V.spliceL] at Fk203
   refine V.storeO Fk203 rfl rfl rfl rfl sz50 rfl rfl rfl rfl ?_
   rintro w209 G210 z212 Fs211
   clear Fk203
   have z213 := V.Fr.size G210
   have Fk203 := Fs211; clear Fs211
   simp only [V.spliceL, V.cellsL] at Fk203
   refine V.ru 1 ?_
   refine V.nt ?_
   refine V.seq ?_
   refine V.sr ?_
   refine V.ru 2 ?_
   refine V.splitF (j := 1) (t := 95) rfl rfl (by (exact look_out (by rw [List.length_map]; omega))) ?_
   refine V.ru 1 ?_
   refine V.yes rfl rfl rfl ?_
   replace F5 := F5.gr (G200.trans G205)
   replace F5 := F5.mv1 G210 (by (try dsimp only [V.In]); first | omega | grind)
   refine V.call (blen_spec F5) rfl rfl rfl ?_
   rintro _ w214 ⟨rfl, G215⟩
   have z216 := V.Fr.size G215
   refine V.ru 4 ?_
   refine V.nt ?_
   refine V.condN rfl (by (simp)) ?_
   refine V.skip ?_
   refine V.tN ?_
   refine V.seq ?_
   refine V.sr ?_
   refine V.ru 3 ?_
   refine V.orG T_ok 4 2 104 rfl rfl rfl rfl rfl rfl rfl rfl ?_
   refine V.nt ?_
   refine V.condT rfl (fun h20 => ?_) (fun h20 => ?_)
   ·
    try replace h20 := V.dec h20
    try simp only [V.mk] at h20
    refine V.sr ?_
    refine V.ru 2 ?_
    replace F5 := F5.gr G215
    refine V.call (blose_spec (i := at_) F5) rfl rfl rfl ?_
    rintro _ w222 ⟨g217, B218, rfl, F219, h220, h221, G223⟩
    obtain ⟨w224, G225, G226⟩ := V.Fr.two G223
    have z227 := V.Fr.size G225
    have z228 := V.Fr.size G226
    refine V.ru 2 ?_
    refine V.splitT (j := 4) (t := 114) rfl rfl (by (exact decide_eq_true (if_neg (by rw [List.length_map]; omega)))) ?_
    refine V.ru 2 ?_
    refine V.yes rfl rfl rfl ?_
    have hr229 : delL (held.map encM) at_ = held.map encM := if_neg (by rw [List.length_map]; omega)
    rw [hr229] at F219
    clear hr229
    have hb230 := F219.bl
    have hb230g := F219.gl
    have hb230k := F219.lt
    refine V.call (btwice_spec (i := at_) F219) rfl rfl rfl ?_
    rintro _ w236 ⟨g231, B232, rfl, F233, h234, h235, G237⟩
    obtain ⟨w238, G239, G240⟩ := V.Fr.two G237
    have z241 := V.Fr.size G239
    have z242 := V.Fr.size G240
    refine V.ru 3 ?_
    refine V.nt ?_
    refine V.ret ?_
    refine V.tR ?_
    refine V.done rfl ?_
    replace HG := HG.grow (G200.trans G205)
    replace HG := HG.n1 G210
    replace HG := HG.grow G215
    replace HG := HG.n1 G225
    replace HG := HG.n1 G226
    replace HG := HG.n1 G239
    replace HG := HG.n1 G240
    exact ⟨congrArg Value.bool (decide_eq_true (if_neg (by rw [List.length_map]; omega))), HG⟩
   ·
    try replace h20 := V.dec h20
    try simp only [V.mk] at h20
    refine V.skip ?_
    refine V.tN ?_
    refine V.seq ?_
    have hat2 : 0 ≤ at_ ∧ at_ < held.length := by omega
    obtain ⟨xa, hxa⟩ : ∃ z', held[at_.toNat]'(by omega) = z' := ⟨_, rfl⟩
    refine V.region ?_
    refine V.ru 2 ?_
    replace F5 := F5.gr G215
    refine V.call (btwice_spec (i := at_) F5) rfl rfl rfl ?_
    rintro _ w248 ⟨g243, B244, rfl, F245, h246, h247, G249⟩
    obtain ⟨w250, G251, G252⟩ := V.Fr.two G249
    have z253 := V.Fr.size G251
    have z254 := V.Fr.size G252
    refine V.nt ?_
    refine V.seq ?_
    have hr255 : twcL (held.map encM) at_ = (held ++ [xa]).map encM := twc_held hat2 (by omega) (by omega) hxa
    rw [hr255] at F245
    clear hr255
    have hb256 := F245.bl
    have hb256g := F245.gl
    have hb256k := F245.lt
    refine V.region ?_
    refine V.ru 2 ?_
    refine V.call (blose_spec (i := at_) F245) rfl rfl rfl ?_
    rintro _ w262 ⟨g257, B258, rfl, F259, h260, h261, G263⟩
    obtain ⟨w264, G265, G266⟩ := V.Fr.two G263
    have z267 := V.Fr.size G265
    have z268 := V.Fr.size G266
    refine V.nt ?_
    refine V.seq ?_
    refine V.seq ?_
    obtain ⟨hs2, hh2⟩ : ∃ q_, (held ++ [xa]).take at_.toNat ++ (held ++ [xa]).drop (at_ + 1).toNat = q_ := ⟨_, rfl⟩
    have hl2 : hs2.length = held.length := hh2 ▸ looks_len hat2
    have hall2 : ∀ y ∈ hs2, encE y = 0 := hh2 ▸ looks_all hall (hall xa (hxa ▸ List.getElem_mem _))
    have hr269 : delL ((held ++ [xa]).map encM) at_ = hs2.map encM := (del_held (by rw [List.length_append]; simp; omega)).trans (by rw [hh2])
    rw [hr269] at F259
    clear hr269
    have hb270 := F259.bl
    have hb270g := F259.gl
    have hb270k := F259.lt
    refine V.region ?_
    refine V.ru 1 ?_
    refine V.nt ?_
    refine V.block ?_
    replace F_l := F_l.gr (G200.trans G205)
    replace F_l := F_l.mb G210 hD_l
    replace F_l := F_l.gr G215
    replace F_l := F_l.mb G251 hD_l
    replace F_l := F_l.mb G252 hD_l
    replace F_l := F_l.mb G265 hD_l
    replace F_l := F_l.mb G266 hD_l
    replace rF136 := rF136.gr (G200.trans G205)
    replace rF136 := rF136.mv1 G210 (by (try dsimp only [V.In]); first | omega | grind)
    replace rF136 := rF136.gr G215
    replace rF136 := rF136.mv1 G251 (by (try dsimp only [V.In]); first | omega | grind)
    replace rF136 := rF136.mv1 G252 (by (try dsimp only [V.In]); first | omega | grind)
    replace rF136 := rF136.mv1 G265 (by (try dsimp only [V.In]); first | omega | grind)
    replace rF136 := rF136.mv1 G266 (by (try dsimp only [V.In]); first | omega | grind)
    replace F194 := F194.gr G205
    replace F194 := F194.ma G210
    replace F194 := F194.gr G215
    replace F194 := F194.ma G251
    replace F194 := F194.ma G252
    replace F194 := F194.ma G265
    replace F194 := F194.ma G266
    replace F195 := F195.gr G205
    replace F195 := F195.ma G210
    replace F195 := F195.gr G215
    replace F195 := F195.ma G251
    replace F195 := F195.ma G252
    replace F195 := F195.ma G265
    replace F195 := F195.ma G266
    replace F196 := F196.gr G205
    replace F196 := F196.ma G210
    replace F196 := F196.gr G215
    replace F196 := F196.ma G251
    replace F196 := F196.ma G252
    replace F196 := F196.ma G265
    replace F196 := F196.ma G266
    replace F197 := F197.gr G205
    replace F197 := F197.ma G210
    replace F197 := F197.gr G215
    replace F197 := F197.ma G251
    replace F197 := F197.ma G252
    replace F197 := F197.ma G265
    replace F197 := F197.ma G266
    replace F198 := F198.gr G205
    replace F198 := F198.ma G210
    replace F198 := F198.gr G215
    replace F198 := F198.ma G251
    replace F198 := F198.ma G252
    replace F198 := F198.ma G265
    replace F198 := F198.ma G266
    replace Fk203 := Fk203.gr G215
    replace Fk203 := Fk203.ma G251
    replace Fk203 := Fk203.ma G252
    replace Fk203 := Fk203.ma G265
    replace Fk203 := Fk203.ma G266
    replace HG := HG.grow (G200.trans G205)
    replace HG := HG.n1 G210
    replace HG := HG.grow G215
    replace HG := HG.n1 G251
    replace HG := HG.n1 G252
    replace HG := HG.n1 G265
    replace HG := HG.n1 G266
    refine V.loopM (fun m e v272 => Fr [] w v272 ∧ w262.heap.size ≤ v272.heap.size ∧ Sl V.Cod.msg v272 D_l a_l c_l l ∧ V.RowE V.Cod.msg 50 v272 D_l EH ra136 rc136 held ∧ V.Row V.Cod.ent 74 v272 V.None' v126.heap.size w199.heap.size a184 c185 ((lookM (held.map encM) (held.length : Int)).es) ∧ Sl V.Cod.byte v272 (V.In v126.heap.size w199.heap.size) a186 c187 ((lookM (held.map encM) (held.length : Int)).da) ∧ V.Row V.Cod.write 78 v272 V.None' v126.heap.size w199.heap.size a188 c189 ((lookM (held.map encM) (held.length : Int)).c.ws) ∧ V.Row (V.Cod.pair V.Cod.str V.Cod.str) 76 v272 V.None' v126.heap.size w199.heap.size a190 c191 ((lookM (held.map encM) (held.length : Int)).r.ps) ∧ Sl V.Cod.write v272 (V.In v126.heap.size w199.heap.size) a192 c193 ((lookM (held.map encM) (held.length : Int)).r.rc.ws) ∧ Cells v272 k202 [.int .i64 ((lookM (held.map encM) (held.length : Int)).kd), .int .i64 ((lookM (held.map encM) (held.length : Int)).fr), .int .i64 ((lookM (held.map encM) (held.length : Int)).to), .int .i64 ((lookM (held.map encM) (held.length : Int)).rg), .int .i64 ((lookM (held.map encM) (held.length : Int)).te), .int .i64 ((lookM (held.map encM) (held.length : Int)).ix), .int .i64 ((lookM (held.map encM) (held.length : Int)).lt), .int .i64 ((lookM (held.map encM) (held.length : Int)).co), .bool ((lookM (held.map encM) (held.length : Int)).ok), .slice a184 ((lookM (held.map encM) (held.length : Int)).es).length c185, .slice a186 ((lookM (held.map encM) (held.length : Int)).da).length c187, .int .i64 ((lookM (held.map encM) (held.length : Int)).nw), .int .i64 ((lookM (held.map encM) (held.length : Int)).nl), .int .i64 ((lookM (held.map encM) (held.length : Int)).c.kd), .int .i64 ((lookM (held.map encM) (held.length : Int)).c.id), .int .i64 ((lookM (held.map encM) (held.length : Int)).c.le), .int .i64 ((lookM (held.map encM) (held.length : Int)).c.nd), .int .i64 ((lookM (held.map encM) (held.length : Int)).c.ti), .int .i64 ((lookM (held.map encM) (held.length : Int)).c.te), .string ((lookM (held.map encM) (held.length : Int)).c.an), .int .i64 ((lookM (held.map encM) (held.length : Int)).c.sw), .int .i64 ((lookM (held.map encM) (held.length : Int)).c.sl), .int .i64 ((lookM (held.map encM) (held.length : Int)).c.sq), .string ((lookM (held.map encM) (held.length : Int)).c.fr), .string ((lookM (held.map encM) (held.length : Int)).c.to), .string ((lookM (held.map encM) (held.length : Int)).c.va), .bool ((lookM (held.map encM) (held.length : Int)).c.go), .int .i64 ((lookM (held.map encM) (held.length : Int)).c.aw), .int .i64 ((lookM (held.map encM) (held.length : Int)).c.al), .int .i64 ((lookM (held.map encM) (held.length : Int)).c.lw), .int .i64 ((lookM (held.map encM) (held.length : Int)).c.ll), .bool ((lookM (held.map encM) (held.length : Int)).c.cm), .bool ((lookM (held.map encM) (held.length : Int)).c.st), .slice a188 ((lookM (held.map encM) (held.length : Int)).c.ws).length c189, .int .i64 ((lookM (held.map encM) (held.length : Int)).c.pr), .int .i64 ((lookM (held.map encM) (held.length : Int)).r.er), .int .i64 ((lookM (held.map encM) (held.length : Int)).r.aw), .int .i64 ((lookM (held.map encM) (held.length : Int)).r.al), .slice a190 ((lookM (held.map encM) (held.length : Int)).r.ps).length c191, .bool ((lookM (held.map encM) (held.length : Int)).r.fo), .int .i64 ((lookM (held.map encM) (held.length : Int)).r.ti), .int .i64 ((lookM (held.map encM) (held.length : Int)).r.te), .string ((lookM (held.map encM) (held.length : Int)).r.an), .int .i64 ((lookM (held.map encM) (held.length : Int)).r.sw), .int .i64 ((lookM (held.map encM) (held.length : Int)).r.sl), .int .i64 ((lookM (held.map encM) (held.length : Int)).r.rc.id), .int .i64 ((lookM (held.map encM) (held.length : Int)).r.rc.ep), .int .i64 ((lookM (held.map encM) (held.length : Int)).r.rc.st), .int .i64 ((lookM (held.map encM) (held.length : Int)).r.rc.aw), .int .i64 ((lookM (held.map encM) (held.length : Int)).r.rc.al), .int .i64 ((lookM (held.map encM) (held.length : Int)).r.rc.bw), .int .i64 ((lookM (held.map encM) (held.length : Int)).r.rc.bl), .slice a192 ((lookM (held.map encM) (held.length : Int)).r.rc.ws).length c193] 50 ∧ Bg v272 k1 g257 B258 (hs2.map encM) ∧ ∃ (i3 : Nat) , m = held.length - i3 ∧ i3 ≤ held.length ∧ e 1 = .int .i64 at_ ∧ e 5 = .pointer (some ⟨k1, 0, none⟩) ∧ e 6 = .slice ra136 held.length rc136 ∧ e 14 = .int .i64 (i3 : Int)) ?_ ?_
    ·
     exact ⟨_, HG, (by omega), F_l, rF136, F194, F195, F196, F197, F198, Fk203, F259, (0), rfl, (Nat.zero_le _), rfl, rfl, rfl, rfl⟩
    clear HG F_l rF136 F194 F195 F196 F197 F198 Fk203 F259
    rintro _ e v272 ⟨HG, z273, F_l, rF136, F194, F195, F196, F197, F198, Fk203, F259, i3, rfl, hi3, he2_1, he2_5, he2_6, he2_14⟩
    refine V.knownC (t := 1) he2_1 ?_
    refine V.knownC (t := 5) he2_5 ?_
    refine V.knownC (t := 6) he2_6 ?_
    refine V.knownC (t := 14) he2_14 ?_
    refine V.seq ?_
    refine V.sr ?_
    refine V.ru 4 ?_
    refine V.nt ?_
    refine V.condT rfl (fun h25 => ?_) (fun h25 => ?_)
    ·
     try replace h25 := V.dec h25
     try simp only [V.mk] at h25
     refine V.skip ?_
     refine V.tN ?_
     refine V.seq ?_
     refine V.block ?_
     refine V.sr ?_
     refine V.ru 2 ?_
     refine V.elem T_ok rF136.slB rfl rfl sz50 rfl rfl rfl rfl V.lenA V.lenA ?_
     rintro b274 o275 cs276 hx277 hb278 hR296 hA279
     obtain ⟨x280, hx280⟩ : ∃ z', held[(at_).toNat] = z' := ⟨_, rfl⟩
     rw [hx280] at hR296
     obtain ⟨a281, c282, a284, c285, a287, c288, a290, c291, a293, c294, rfl, F283, F286, F289, F292, F295⟩ := hR296
     try simp only [Int.toNat_natCast] at hx280 hx277
     refine V.loadA T_ok (o0 := o275) (off := 0) hA279 rfl rfl rfl rfl rfl ?_
     refine V.alloc zero50 rfl rfl rfl ?_
     rintro k297 w299 s301 s302 G300 Fk298
     have z303 := V.Fr.size G300
     try simp only [V.cellsL, V.spliceL] at Fk298
     refine V.storeO Fk298 rfl rfl rfl rfl sz50 rfl rfl rfl rfl ?_
     rintro w304 G305 z307 Fs306
     clear Fk298
     have z308 := V.Fr.size G305
     have Fk298 := Fs306; clear Fs306
     simp only [V.spliceL, V.cellsL] at Fk298
     refine V.nt ?_
     refine V.seq ?_
     refine V.sr ?_
     refine V.ru 3 ?_
     refine V.nt ?_
     refine V.condT rfl (fun h28 => ?_) (fun h28 => ?_)
     ·
      try replace h28 := V.dec h28
      try simp only [V.mk] at h28
      
      refine V.region ?_
      refine V.ru 2 ?_
      replace rF136 := rF136.gr G300
      replace rF136 := rF136.mv1 G305 (by (try dsimp only [V.In]); first | omega | grind)
      refine V.elem T_ok rF136.slB rfl rfl sz50 rfl rfl rfl rfl V.lenA V.lenA ?_
      rintro b309 o310 cs311 hx312 hb313 hR331 hA314
      obtain ⟨x315, hx315⟩ : ∃ z', held[((i3 : Int)).toNat] = z' := ⟨_, rfl⟩
      rw [hx315] at hR331
      obtain ⟨a316, c317, a319, c320, a322, c323, a325, c326, a328, c329, rfl, F318, F321, F324, F327, F330⟩ := hR331
      try simp only [Int.toNat_natCast] at hx315 hx312
      refine V.loadA T_ok (o0 := o310) (off := 0) hA314 rfl rfl rfl rfl rfl ?_
      refine V.storeO Fk298 rfl rfl rfl rfl sz50 rfl rfl rfl rfl ?_
      rintro w332 G333 z335 Fs334
      clear Fk298
      have z336 := V.Fr.size G333
      have Fk298 := Fs334; clear Fs334
      simp only [V.spliceL, V.cellsL] at Fk298
      refine V.nt ?_
      refine V.seq ?_
      refine V.sr ?_
      refine V.ru 4 ?_
      refine V.andG T_ok 5 3 146 rfl rfl rfl rfl rfl rfl rfl rfl ?_
      refine V.nt ?_
      refine V.condN rfl (by (simp; omega)) ?_
      refine V.skip ?_
      refine V.tN ?_
      refine V.sr ?_
      refine V.ru 2 ?_
      replace F259 := F259.gr G300
      replace F259 := F259.mv1 G305 (by (try dsimp only [V.In]); first | omega | grind)
      replace F259 := F259.mv1 G333 (by (try dsimp only [V.In]); first | omega | grind)
      refine V.call (blook_spec (i := (i3 : Int)) F259) rfl rfl rfl ?_
      rintro _ w352 ⟨a337, c338, a339, c340, a341, c342, a343, c344, a345, c346, rfl, F347, F348, F349, F350, F351, G353⟩
      have z354 := V.Fr.size G353
      refine V.ru 3 ?_
      refine V.alloc zero50 rfl rfl rfl ?_
      rintro k355 w357 s359 s360 G358 Fk356
      have z361 := V.Fr.size G358
      try simp only [V.cellsL, V.spliceL] at Fk356
      refine V.storeO Fk356 rfl rfl rfl rfl sz50 rfl rfl rfl rfl ?_
      rintro w362 G363 z365 Fs364
      clear Fk356
      have z366 := V.Fr.size G363
      have Fk356 := Fs364; clear Fs364
      simp only [V.spliceL, V.cellsL] at Fk356
      refine V.ru 1 ?_
      refine V.nt ?_
      refine V.seq ?_
      obtain ⟨hlm, hlb⟩ := look_held2 hall2 (j := i3) (x := x315) (by rw [← hh2]; exact looks_lt hat2 (by omega) (by omega) (by simpa using hx315))
      refine V.region ?_
      refine V.ru 3 ?_
      refine V.splitF (j := 2) (t := 166) rfl rfl (by (rw [hlb]; rfl)) ?_
      refine V.yes rfl rfl rfl ?_
      refine V.loadO T_ok Fk356 rfl rfl rfl rfl rfl ?_
      refine V.yes rfl rfl rfl ?_
      replace Fk298 := Fk298.gr (G353.trans G358)
      replace Fk298 := Fk298.ma G363
      refine V.loadO T_ok Fk298 rfl rfl rfl rfl rfl ?_
      refine V.yes rfl rfl rfl ?_
      replace F318 := F318.mb G333 hBh
      replace F318 := F318.gr (G353.trans G358)
      replace F318 := F318.mb G363 hBh
      replace F321 := F321.mb G333 hBh
      replace F321 := F321.gr (G353.trans G358)
      replace F321 := F321.mb G363 hBh
      replace F324 := F324.mb G333 hBh
      replace F324 := F324.gr (G353.trans G358)
      replace F324 := F324.mb G363 hBh
      replace F327 := F327.mb G333 hBh
      replace F327 := F327.gr (G353.trans G358)
      replace F327 := F327.mb G363 hBh
      replace F330 := F330.mb G333 hBh
      replace F330 := F330.gr (G353.trans G358)
      replace F330 := F330.mb G363 hBh
      replace F347 := F347.gr G358
      replace F347 := F347.ma G363
      replace F348 := F348.gr G358
      replace F348 := F348.ma G363
      replace F349 := F349.gr G358
      replace F349 := F349.ma G363
      replace F350 := F350.gr G358
      replace F350 := F350.ma G363
      replace F351 := F351.gr G358
      replace F351 := F351.ma G363
      refine V.call (msame_spec (a := (lookM (hs2.map encM) (i3 : Int))) (b := x315) F347.sl (fun k hk => by have := hk.2; omega) F348 (fun k hk => by have := hk.2; omega) F349.sl (fun k hk => by have := hk.2; omega) F350.sl (fun k hk => by have := hk.2; omega) F351 (fun k hk => by have := hk.2; omega) F318 (fun k hk => by have := hBh k hk; omega) F321 (fun k hk => by have := hBh k hk; omega) F324 (fun k hk => by have := hBh k hk; omega) F327 (fun k hk => by have := hBh k hk; omega) F330 (fun k hk => by have := hBh k hk; omega)) rfl rfl rfl ?_
      rintro _ w362_ ⟨rfl, G368⟩
      have z369 := V.Fr.size G368
      refine V.ru 2 ?_
      refine V.nt ?_
      refine V.condN rfl (by (rw [hlm, smM_self]; rfl)) ?_
      refine V.skip ?_
      refine V.bN ?_
      refine V.tN ?_
      refine V.region ?_
      refine V.ru 1 ?_
      refine V.addN rfl rfl rfl rfl rfl V.lenA V.lenA ?_
      refine V.ru 1 ?_
      refine V.nt ?_
      replace F_l := F_l.gr G300
      replace F_l := F_l.mb G305 hD_l
      replace F_l := F_l.mb G333 hD_l
      replace F_l := F_l.gr (G353.trans G358)
      replace F_l := F_l.mb G363 hD_l
      replace F_l := F_l.gr G368
      replace rF136 := rF136.mv1 G333 (by (try dsimp only [V.In]); first | omega | grind)
      replace rF136 := rF136.gr (G353.trans G358)
      replace rF136 := rF136.mv1 G363 (by (try dsimp only [V.In]); first | omega | grind)
      replace rF136 := rF136.gr G368
      replace F194 := F194.gr G300
      replace F194 := F194.ma G305
      replace F194 := F194.ma G333
      replace F194 := F194.gr (G353.trans G358)
      replace F194 := F194.ma G363
      replace F194 := F194.gr G368
      replace F195 := F195.gr G300
      replace F195 := F195.ma G305
      replace F195 := F195.ma G333
      replace F195 := F195.gr (G353.trans G358)
      replace F195 := F195.ma G363
      replace F195 := F195.gr G368
      replace F196 := F196.gr G300
      replace F196 := F196.ma G305
      replace F196 := F196.ma G333
      replace F196 := F196.gr (G353.trans G358)
      replace F196 := F196.ma G363
      replace F196 := F196.gr G368
      replace F197 := F197.gr G300
      replace F197 := F197.ma G305
      replace F197 := F197.ma G333
      replace F197 := F197.gr (G353.trans G358)
      replace F197 := F197.ma G363
      replace F197 := F197.gr G368
      replace F198 := F198.gr G300
      replace F198 := F198.ma G305
      replace F198 := F198.ma G333
      replace F198 := F198.gr (G353.trans G358)
      replace F198 := F198.ma G363
      replace F198 := F198.gr G368
      replace Fk203 := Fk203.gr G300
      replace Fk203 := Fk203.ma G305
      replace Fk203 := Fk203.ma G333
      replace Fk203 := Fk203.gr (G353.trans G358)
      replace Fk203 := Fk203.ma G363
      replace Fk203 := Fk203.gr G368
      replace F259 := F259.gr (G353.trans G358)
      replace F259 := F259.mv1 G363 (by (try dsimp only [V.In]); first | omega | grind)
      replace F259 := F259.gr G368
      replace HG := HG.grow G300
      replace HG := HG.n1 G305
      replace HG := HG.n1 G333
      replace HG := HG.grow (G353.trans G358)
      replace HG := HG.n1 G363
      replace HG := HG.grow G368
      exact ⟨_, (by omega), HG, (by omega), F_l, rF136, F194, F195, F196, F197, F198, Fk203, F259, (i3 + 1), rfl, (by omega), rfl, rfl, rfl, rfl⟩
     ·
      try replace h28 := V.dec h28
      try simp only [V.mk] at h28
      
      refine V.skip ?_
      refine V.tN ?_
      refine V.seq ?_
      refine V.sr ?_
      refine V.ru 4 ?_
      refine V.andG T_ok 5 3 146 rfl rfl rfl rfl rfl rfl rfl rfl ?_
      refine V.nt ?_
      refine V.condT rfl (fun h30 => ?_) (fun h30 => ?_)
      ·
       try replace h30 := V.dec h30
       try simp only [V.mk] at h30
       rw [V.wrap_in (by omega) (by omega)] at h30
       refine V.region ?_
       refine V.ru 2 ?_
       refine V.addN rfl rfl rfl rfl rfl V.lenA V.lenA ?_
       replace rF136 := rF136.gr G300
       replace rF136 := rF136.mv1 G305 (by (try dsimp only [V.In]); first | omega | grind)
       refine V.elem T_ok rF136.slB rfl rfl sz50 rfl rfl rfl rfl V.lenA V.lenA ?_
       rintro b370 o371 cs372 hx373 hb374 hR392 hA375
       obtain ⟨x376, hx376⟩ : ∃ z', held[((i3 : Int) + 1).toNat] = z' := ⟨_, rfl⟩
       rw [hx376] at hR392
       obtain ⟨a377, c378, a380, c381, a383, c384, a386, c387, a389, c390, rfl, F379, F382, F385, F388, F391⟩ := hR392
       try simp only [Int.toNat_natCast] at hx376 hx373
       refine V.loadA T_ok (o0 := o371) (off := 0) hA375 rfl rfl rfl rfl rfl ?_
       refine V.storeO Fk298 rfl rfl rfl rfl sz50 rfl rfl rfl rfl ?_
       rintro w393 G394 z396 Fs395
       clear Fk298
       have z397 := V.Fr.size G394
       have Fk298 := Fs395; clear Fs395
       simp only [V.spliceL, V.cellsL] at Fk298
       refine V.nt ?_
       refine V.sr ?_
       refine V.ru 2 ?_
       replace F259 := F259.gr G300
       replace F259 := F259.mv1 G305 (by (try dsimp only [V.In]); first | omega | grind)
       replace F259 := F259.mv1 G394 (by (try dsimp only [V.In]); first | omega | grind)
       refine V.call (blook_spec (i := (i3 : Int)) F259) rfl rfl rfl ?_
       rintro _ w413 ⟨a398, c399, a400, c401, a402, c403, a404, c405, a406, c407, rfl, F408, F409, F410, F411, F412, G414⟩
       have z415 := V.Fr.size G414
       refine V.ru 3 ?_
       refine V.alloc zero50 rfl rfl rfl ?_
       rintro k416 w418 s420 s421 G419 Fk417
       have z422 := V.Fr.size G419
       try simp only [V.cellsL, V.spliceL] at Fk417
       refine V.storeO Fk417 rfl rfl rfl rfl sz50 rfl rfl rfl rfl ?_
       rintro w423 G424 z426 Fs425
       clear Fk417
       have z427 := V.Fr.size G424
       have Fk417 := Fs425; clear Fs425
       simp only [V.spliceL, V.cellsL] at Fk417
       refine V.ru 1 ?_
       refine V.nt ?_
       refine V.seq ?_
       obtain ⟨hlm, hlb⟩ := look_held2 hall2 (j := i3) (x := x376) (by rw [← hh2]; exact looks_mid hat2 (by omega) (by omega) hx376)
       refine V.region ?_
       refine V.ru 3 ?_
       refine V.splitF (j := 2) (t := 166) rfl rfl (by (rw [hlb]; rfl)) ?_
       refine V.yes rfl rfl rfl ?_
       refine V.loadO T_ok Fk417 rfl rfl rfl rfl rfl ?_
       refine V.yes rfl rfl rfl ?_
       replace Fk298 := Fk298.gr (G414.trans G419)
       replace Fk298 := Fk298.ma G424
       refine V.loadO T_ok Fk298 rfl rfl rfl rfl rfl ?_
       refine V.yes rfl rfl rfl ?_
       replace F379 := F379.mb G394 hBh
       replace F379 := F379.gr (G414.trans G419)
       replace F379 := F379.mb G424 hBh
       replace F382 := F382.mb G394 hBh
       replace F382 := F382.gr (G414.trans G419)
       replace F382 := F382.mb G424 hBh
       replace F385 := F385.mb G394 hBh
       replace F385 := F385.gr (G414.trans G419)
       replace F385 := F385.mb G424 hBh
       replace F388 := F388.mb G394 hBh
       replace F388 := F388.gr (G414.trans G419)
       replace F388 := F388.mb G424 hBh
       replace F391 := F391.mb G394 hBh
       replace F391 := F391.gr (G414.trans G419)
       replace F391 := F391.mb G424 hBh
       replace F408 := F408.gr G419
       replace F408 := F408.ma G424
       replace F409 := F409.gr G419
       replace F409 := F409.ma G424
       replace F410 := F410.gr G419
       replace F410 := F410.ma G424
       replace F411 := F411.gr G419
       replace F411 := F411.ma G424
       replace F412 := F412.gr G419
       replace F412 := F412.ma G424
       refine V.call (msame_spec (a := (lookM (hs2.map encM) (i3 : Int))) (b := x376) F408.sl (fun k hk => by have := hk.2; omega) F409 (fun k hk => by have := hk.2; omega) F410.sl (fun k hk => by have := hk.2; omega) F411.sl (fun k hk => by have := hk.2; omega) F412 (fun k hk => by have := hk.2; omega) F379 (fun k hk => by have := hBh k hk; omega) F382 (fun k hk => by have := hBh k hk; omega) F385 (fun k hk => by have := hBh k hk; omega) F388 (fun k hk => by have := hBh k hk; omega) F391 (fun k hk => by have := hBh k hk; omega)) rfl rfl rfl ?_
       rintro _ w423_ ⟨rfl, G429⟩
       have z430 := V.Fr.size G429
       refine V.ru 2 ?_
       refine V.nt ?_
       refine V.condN rfl (by (rw [hlm, smM_self]; rfl)) ?_
       refine V.skip ?_
       refine V.bN ?_
       refine V.tN ?_
       refine V.region ?_
       refine V.ru 1 ?_
       refine V.addN rfl rfl rfl rfl rfl V.lenA V.lenA ?_
       refine V.ru 1 ?_
       refine V.nt ?_
       replace F_l := F_l.gr G300
       replace F_l := F_l.mb G305 hD_l
       replace F_l := F_l.mb G394 hD_l
       replace F_l := F_l.gr (G414.trans G419)
       replace F_l := F_l.mb G424 hD_l
       replace F_l := F_l.gr G429
       replace rF136 := rF136.mv1 G394 (by (try dsimp only [V.In]); first | omega | grind)
       replace rF136 := rF136.gr (G414.trans G419)
       replace rF136 := rF136.mv1 G424 (by (try dsimp only [V.In]); first | omega | grind)
       replace rF136 := rF136.gr G429
       replace F194 := F194.gr G300
       replace F194 := F194.ma G305
       replace F194 := F194.ma G394
       replace F194 := F194.gr (G414.trans G419)
       replace F194 := F194.ma G424
       replace F194 := F194.gr G429
       replace F195 := F195.gr G300
       replace F195 := F195.ma G305
       replace F195 := F195.ma G394
       replace F195 := F195.gr (G414.trans G419)
       replace F195 := F195.ma G424
       replace F195 := F195.gr G429
       replace F196 := F196.gr G300
       replace F196 := F196.ma G305
       replace F196 := F196.ma G394
       replace F196 := F196.gr (G414.trans G419)
       replace F196 := F196.ma G424
       replace F196 := F196.gr G429
       replace F197 := F197.gr G300
       replace F197 := F197.ma G305
       replace F197 := F197.ma G394
       replace F197 := F197.gr (G414.trans G419)
       replace F197 := F197.ma G424
       replace F197 := F197.gr G429
       replace F198 := F198.gr G300
       replace F198 := F198.ma G305
       replace F198 := F198.ma G394
       replace F198 := F198.gr (G414.trans G419)
       replace F198 := F198.ma G424
       replace F198 := F198.gr G429
       replace Fk203 := Fk203.gr G300
       replace Fk203 := Fk203.ma G305
       replace Fk203 := Fk203.ma G394
       replace Fk203 := Fk203.gr (G414.trans G419)
       replace Fk203 := Fk203.ma G424
       replace Fk203 := Fk203.gr G429
       replace F259 := F259.gr (G414.trans G419)
       replace F259 := F259.mv1 G424 (by (try dsimp only [V.In]); first | omega | grind)
       replace F259 := F259.gr G429
       replace HG := HG.grow G300
       replace HG := HG.n1 G305
       replace HG := HG.n1 G394
       replace HG := HG.grow (G414.trans G419)
       replace HG := HG.n1 G424
       replace HG := HG.grow G429
       exact ⟨_, (by omega), HG, (by omega), F_l, rF136, F194, F195, F196, F197, F198, Fk203, F259, (i3 + 1), rfl, (by omega), rfl, rfl, rfl, rfl⟩
      ·
       try replace h30 := V.dec h30
       try simp only [V.mk] at h30
       rw [V.wrap_in (by omega) (by omega)] at h30
       refine V.skip ?_
       refine V.tN ?_
       refine V.sr ?_
       refine V.ru 2 ?_
       replace F259 := F259.gr G300
       replace F259 := F259.mv1 G305 (by (try dsimp only [V.In]); first | omega | grind)
       refine V.call (blook_spec (i := (i3 : Int)) F259) rfl rfl rfl ?_
       rintro _ w446 ⟨a431, c432, a433, c434, a435, c436, a437, c438, a439, c440, rfl, F441, F442, F443, F444, F445, G447⟩
       have z448 := V.Fr.size G447
       refine V.ru 3 ?_
       refine V.alloc zero50 rfl rfl rfl ?_
       rintro k449 w451 s453 s454 G452 Fk450
       have z455 := V.Fr.size G452
       try simp only [V.cellsL, V.spliceL] at Fk450
       refine V.storeO Fk450 rfl rfl rfl rfl sz50 rfl rfl rfl rfl ?_
       rintro w456 G457 z459 Fs458
       clear Fk450
       have z460 := V.Fr.size G457
       have Fk450 := Fs458; clear Fs458
       simp only [V.spliceL, V.cellsL] at Fk450
       refine V.ru 1 ?_
       refine V.nt ?_
       refine V.seq ?_
       obtain ⟨hlm, hlb⟩ := look_held2 hall2 (j := i3) (x := x280) (by rw [← hh2]; exact (looks_end hat2 (by omega) (by omega)).trans (congrArg some (hxa.symm.trans hx280)))
       refine V.region ?_
       refine V.ru 3 ?_
       refine V.splitF (j := 2) (t := 166) rfl rfl (by (rw [hlb]; rfl)) ?_
       refine V.yes rfl rfl rfl ?_
       refine V.loadO T_ok Fk450 rfl rfl rfl rfl rfl ?_
       refine V.yes rfl rfl rfl ?_
       replace Fk298 := Fk298.gr (G447.trans G452)
       replace Fk298 := Fk298.ma G457
       refine V.loadO T_ok Fk298 rfl rfl rfl rfl rfl ?_
       refine V.yes rfl rfl rfl ?_
       replace F283 := F283.gr G300
       replace F283 := F283.mb G305 hBh
       replace F283 := F283.gr (G447.trans G452)
       replace F283 := F283.mb G457 hBh
       replace F286 := F286.gr G300
       replace F286 := F286.mb G305 hBh
       replace F286 := F286.gr (G447.trans G452)
       replace F286 := F286.mb G457 hBh
       replace F289 := F289.gr G300
       replace F289 := F289.mb G305 hBh
       replace F289 := F289.gr (G447.trans G452)
       replace F289 := F289.mb G457 hBh
       replace F292 := F292.gr G300
       replace F292 := F292.mb G305 hBh
       replace F292 := F292.gr (G447.trans G452)
       replace F292 := F292.mb G457 hBh
       replace F295 := F295.gr G300
       replace F295 := F295.mb G305 hBh
       replace F295 := F295.gr (G447.trans G452)
       replace F295 := F295.mb G457 hBh
       replace F441 := F441.gr G452
       replace F441 := F441.ma G457
       replace F442 := F442.gr G452
       replace F442 := F442.ma G457
       replace F443 := F443.gr G452
       replace F443 := F443.ma G457
       replace F444 := F444.gr G452
       replace F444 := F444.ma G457
       replace F445 := F445.gr G452
       replace F445 := F445.ma G457
       refine V.call (msame_spec (a := (lookM (hs2.map encM) (i3 : Int))) (b := x280) F441.sl (fun k hk => by have := hk.2; omega) F442 (fun k hk => by have := hk.2; omega) F443.sl (fun k hk => by have := hk.2; omega) F444.sl (fun k hk => by have := hk.2; omega) F445 (fun k hk => by have := hk.2; omega) F283 (fun k hk => by have := hBh k hk; omega) F286 (fun k hk => by have := hBh k hk; omega) F289 (fun k hk => by have := hBh k hk; omega) F292 (fun k hk => by have := hBh k hk; omega) F295 (fun k hk => by have := hBh k hk; omega)) rfl rfl rfl ?_
       rintro _ w456_ ⟨rfl, G462⟩
       have z463 := V.Fr.size G462
       refine V.ru 2 ?_
       refine V.nt ?_
       refine V.condN rfl (by (rw [hlm, smM_self]; rfl)) ?_
       refine V.skip ?_
       refine V.bN ?_
       refine V.tN ?_
       refine V.region ?_
       refine V.ru 1 ?_
       refine V.addN rfl rfl rfl rfl rfl V.lenA V.lenA ?_
       refine V.ru 1 ?_
       refine V.nt ?_
       replace F_l := F_l.gr G300
       replace F_l := F_l.mb G305 hD_l
       replace F_l := F_l.gr (G447.trans G452)
       replace F_l := F_l.mb G457 hD_l
       replace F_l := F_l.gr G462
       replace rF136 := rF136.gr G300
       replace rF136 := rF136.mv1 G305 (by (try dsimp only [V.In]); first | omega | grind)
       replace rF136 := rF136.gr (G447.trans G452)
       replace rF136 := rF136.mv1 G457 (by (try dsimp only [V.In]); first | omega | grind)
       replace rF136 := rF136.gr G462
       replace F194 := F194.gr G300
       replace F194 := F194.ma G305
       replace F194 := F194.gr (G447.trans G452)
       replace F194 := F194.ma G457
       replace F194 := F194.gr G462
       replace F195 := F195.gr G300
       replace F195 := F195.ma G305
       replace F195 := F195.gr (G447.trans G452)
       replace F195 := F195.ma G457
       replace F195 := F195.gr G462
       replace F196 := F196.gr G300
       replace F196 := F196.ma G305
       replace F196 := F196.gr (G447.trans G452)
       replace F196 := F196.ma G457
       replace F196 := F196.gr G462
       replace F197 := F197.gr G300
       replace F197 := F197.ma G305
       replace F197 := F197.gr (G447.trans G452)
       replace F197 := F197.ma G457
       replace F197 := F197.gr G462
       replace F198 := F198.gr G300
       replace F198 := F198.ma G305
       replace F198 := F198.gr (G447.trans G452)
       replace F198 := F198.ma G457
       replace F198 := F198.gr G462
       replace Fk203 := Fk203.gr G300
       replace Fk203 := Fk203.ma G305
       replace Fk203 := Fk203.gr (G447.trans G452)
       replace Fk203 := Fk203.ma G457
       replace Fk203 := Fk203.gr G462
       replace F259 := F259.gr (G447.trans G452)
       replace F259 := F259.mv1 G457 (by (try dsimp only [V.In]); first | omega | grind)
       replace F259 := F259.gr G462
       replace HG := HG.grow G300
       replace HG := HG.n1 G305
       replace HG := HG.grow (G447.trans G452)
       replace HG := HG.n1 G457
       replace HG := HG.grow G462
       exact ⟨_, (by omega), HG, (by omega), F_l, rF136, F194, F195, F196, F197, F198, Fk203, F259, (i3 + 1), rfl, (by omega), rfl, rfl, rfl, rfl⟩
    ·
     try replace h25 := V.dec h25
     try simp only [V.mk] at h25
     refine V.exit ?_
     refine V.tX ?_
     refine V.tX ?_
     refine V.bE ?_
     refine V.tN ?_
     refine V.sr ?_
     refine V.ru 1 ?_
     refine V.call (blen_spec F259) rfl rfl rfl ?_
     rintro _ w464 ⟨rfl, G465⟩
     have z466 := V.Fr.size G465
     refine V.ru 4 ?_
     refine V.nt ?_
     refine V.ret ?_
     refine V.done rfl ?_
     replace HG := HG.grow G465
     exact ⟨congrArg Value.bool (decide_eq_true (by rw [List.length_map, hl2])), HG⟩

end Go.Proofs.YtmmgmkklakkooaaGreat
