/- Proved here: walks: what functions of this seat's program return and what they leave of memory, each as a contract. Conditions: stated at each theorem. -/
import Derived.Test.YtaekbikdeeaphaaMle2
namespace Go.Proofs.Ytaekbikdeeaphaa
set_option linter.unusedVariables false
set_option linter.unusedSimpArgs false
open Go
open V (Bytes Meets Env Sl Own Gr Fr Cells S)
theorem firstNo_le (d : LogV) (prev : Int) (es : List (Int × List UInt8)) : firstNo d prev es ≤ es.length := by
  unfold firstNo; exact Nat.le_trans List.findIdx_le_length (by simp)
theorem firstNo_mat {d : LogV} {prev : Int} {es : List (Int × List UInt8)} {j : Nat} (h : j < firstNo d prev es) : mat d prev es j = true := by
  have hl := firstNo_le d prev es
  unfold firstNo at h
  have := List.not_of_lt_findIdx h
  simpa using this
theorem layV_l {d : LogV} {prev : Int} {es : List (Int × List UInt8)} : (layV d prev es).base = d.base ∧ (layV d prev es).term = d.term := by unfold layV; split <;> exact ⟨rfl, rfl⟩
theorem trm_in {d : LogV} {i : Int} (h : d.base < i ∧ i ≤ d.base + d.l.length) {x : Int × List UInt8} {n : Nat} (hn : n = (i - d.base - 1).toNat) (hx : d.l[n]? = some x) : trmV d i = x.1 := by
  subst hn; unfold trmV; rw [if_pos h, List.getD_eq_getElem?_getD, hx]; rfl
theorem lay_len {d : LogV} {prev : Int} {es : List (Int × List UInt8)} (h : firstNo d prev es < es.length) (hp : d.base ≤ prev ∧ prev ≤ d.base + d.l.length) : (layV d prev es).l.length = (prev - d.base).toNat + es.length ∧ prev + (firstNo d prev es : Nat) ≤ d.base + d.l.length := by
  have hin := mat_in (d := d) (prev := prev) (e := es) (k := firstNo d prev es) (fun j hj => firstNo_mat hj) hp.1 hp.2
  unfold layV; rw [if_pos h]
  simp only [List.length_append, List.length_take, List.length_drop]
  omega
theorem lay_at? {d : LogV} {prev : Int} {es : List (Int × List UInt8)} (h : firstNo d prev es < es.length) (hp : d.base ≤ prev ∧ prev ≤ d.base + d.l.length) (n : Nat) :
    (layV d prev es).l[n]? = if n < (prev + (firstNo d prev es : Nat) - d.base).toNat then d.l[n]? else es[n - (prev - d.base).toNat]? := by
  have hin := (lay_len h hp).2
  unfold layV; rw [if_pos h]
  rw [List.getElem?_append]
  have hl : (d.l.take (prev + (firstNo d prev es : Nat) - d.base).toNat).length = (prev + (firstNo d prev es : Nat) - d.base).toNat := by rw [List.length_take]; omega
  rw [hl]
  split
  · rw [List.getElem?_take]; rw [if_pos (by assumption)]
  · rw [List.getElem?_drop]; congr 1; omega
theorem lay_same {d : LogV} {prev : Int} {es : List (Int × List UInt8)} (h : ¬ firstNo d prev es < es.length) : layV d prev es = d := by unfold layV; rw [if_neg h]
/-- what is laid is there -/
theorem lay_mat {d : LogV} {prev : Int} {es : List (Int × List UInt8)} (hp : d.base ≤ prev ∧ prev ≤ d.base + d.l.length) {j : Nat} (hj : j < es.length) : mat (layV d prev es) prev es j = true := by
  by_cases h : firstNo d prev es < es.length
  · obtain ⟨hl, hin⟩ := lay_len h hp
    obtain ⟨hb, ht⟩ := layV_l (d := d) (prev := prev) (es := es)
    have hr : (layV d prev es).base < prev + 1 + j ∧ prev + 1 + j ≤ (layV d prev es).base + (layV d prev es).l.length := by rw [hb, hl]; omega
    have hg := lay_at? h hp ((prev + 1 + (j : Int) - d.base - 1).toNat)
    unfold mat
    rw [isI.2 ⟨by omega, hr.2⟩, Bool.true_and, decide_eq_true_eq]
    rcases Nat.lt_or_ge j (firstNo d prev es) with h2 | h2
    · rw [if_pos (by omega)] at hg
      have hm := firstNo_mat h2
      unfold mat at hm
      simp only [Bool.and_eq_true, decide_eq_true_eq] at hm
      rw [← hm.2]
      have hlt : (prev + 1 + (j : Int) - d.base - 1).toNat < d.l.length := by omega
      rw [List.getElem?_eq_getElem hlt] at hg
      rw [trm_in hr (by rw [hb]) hg, trm_in (d := d) (i := prev + 1 + j) (by omega) rfl (List.getElem?_eq_getElem hlt)]
    · rw [if_neg (by omega)] at hg
      have e1 : (prev + 1 + (j : Int) - d.base - 1).toNat - (prev - d.base).toNat = j := by omega
      rw [e1, List.getElem?_eq_getElem hj] at hg
      rw [trm_in hr (by rw [hb]) hg, List.getD_eq_getElem?_getD, List.getElem?_eq_getElem hj]; rfl
  · rw [lay_same h]
    exact firstNo_mat (by have := firstNo_le d prev es; omega)
theorem lay_again {d : LogV} {prev : Int} {es : List (Int × List UInt8)} (hp : d.base ≤ prev ∧ prev ≤ d.base + d.l.length) : layI (layV d prev es) prev es = 0 ∧ layV (layV d prev es) prev es = layV d prev es :=
  lay_no (fun _ hj => lay_mat hp hj)
theorem lay_prev {d : LogV} {prev : Int} {es : List (Int × List UInt8)} (hp : d.base ≤ prev ∧ prev ≤ d.base + d.l.length) : trmV (layV d prev es) prev = trmV d prev ∧ (layV d prev es).base ≤ prev ∧ prev ≤ (layV d prev es).base + (layV d prev es).l.length := by
  by_cases h : firstNo d prev es < es.length
  · obtain ⟨hl, hin⟩ := lay_len h hp
    obtain ⟨hb, ht⟩ := layV_l (d := d) (prev := prev) (es := es)
    refine ⟨?_, by omega, by omega⟩
    rcases Int.lt_or_le d.base prev with h2 | h2
    · have hg := lay_at? h hp ((prev - d.base - 1).toNat)
      rw [if_pos (by omega)] at hg
      have hlt : (prev - d.base - 1).toNat < d.l.length := by omega
      rw [List.getElem?_eq_getElem hlt] at hg
      rw [trm_in (by rw [hb, hl]; omega) (by rw [hb]) hg, trm_in (d := d) (i := prev) (by omega) rfl (List.getElem?_eq_getElem hlt)]
    · have e : prev = d.base := by omega
      rw [e, trm_base]
      have e2 : d.base = (layV d d.base es).base := by rw [layV_l.1]
      rw [show trmV (layV d d.base es) d.base = trmV (layV d d.base es) (layV d d.base es).base from congrArg _ e2, trm_base, layV_l.2]
  · rw [lay_same h]; exact ⟨rfl, hp⟩
/-- what was up to there is as it was -/
theorem lay_take {d : LogV} {prev : Int} {es : List (Int × List UInt8)} (hp : d.base ≤ prev ∧ prev ≤ d.base + d.l.length) (m : Nat) (hm : m ≤ (prev - d.base).toNat) : (layV d prev es).l.take m = d.l.take m := by
  by_cases h : firstNo d prev es < es.length
  · refine List.ext_getElem? fun n => ?_
    rw [List.getElem?_take, List.getElem?_take]
    split
    · rw [lay_at? h hp, if_pos (by omega)]
    · rfl
  · rw [lay_same h]
theorem lay_there {d : LogV} {prev : Int} {es : List (Int × List UInt8)} (hp : d.base ≤ prev ∧ prev ≤ d.base + d.l.length) : (fromV (layV d prev es) (prev + 1) (es.length : Int)).length = es.length ∧ ∀ j (h1 : j < (fromV (layV d prev es) (prev + 1) (es.length : Int)).length) (h2 : j < es.length), (fromV (layV d prev es) (prev + 1) (es.length : Int))[j].1 = es[j].1 := by
  by_cases h0 : es.length = 0
  · have : fromV (layV d prev es) (prev + 1) (es.length : Int) = [] := by unfold fromV; rw [if_neg (by omega)]
    rw [this]; exact ⟨by simp [h0], fun j h1 => absurd h1 (by simp)⟩
  · have hb := (layV_l (d := d) (prev := prev) (es := es)).1
    have hlast := lay_mat (es := es) hp (j := es.length - 1) (by omega)
    unfold mat at hlast
    simp only [Bool.and_eq_true, isI] at hlast
    have hb2 := hlast.1.2
    have hfr : fromV (layV d prev es) (prev + 1) (es.length : Int) = ((layV d prev es).l.drop (prev - d.base).toNat).take es.length := by
      unfold fromV; rw [if_pos ⟨hasI.2 (by omega), by omega⟩, hb, show (prev + 1 - d.base - 1).toNat = (prev - d.base).toNat by omega, Int.toNat_natCast]
    rw [hfr]
    have hlen : (((layV d prev es).l.drop (prev - d.base).toNat).take es.length).length = es.length := by rw [List.length_take, List.length_drop]; omega
    refine ⟨hlen, fun j h1 h2 => ?_⟩
    have hm := lay_mat (es := es) hp h2
    unfold mat at hm
    simp only [Bool.and_eq_true, decide_eq_true_eq, isI] at hm
    have hlt : (prev - d.base).toNat + j < (layV d prev es).l.length := by omega
    rw [List.getElem_take, List.getElem_drop]
    have e := trm_in (d := layV d prev es) (i := prev + 1 + j) (n := (prev - d.base).toNat + j) (by rw [hb] at hm ⊢; omega) (by rw [hb]; omega) (List.getElem?_eq_getElem hlt)
    rw [← e, hm.2, List.getD_eq_getElem?_getD, List.getElem?_eq_getElem h2]; rfl
theorem lay_first {d : LogV} {prev : Int} {es : List (Int × List UInt8)} : layI d prev es = 0 ∨ (prev < layI d prev es ∧ layI d prev es ≤ prev + es.length) := by
  unfold layI; split
  · exact .inr ⟨by omega, by omega⟩
  · exact .inl rfl
theorem spl_bad {d : LogV} {prev : Int} {es : List (Int × List UInt8)} (h : d.base ≤ prev) : splOk d prev (trmV d prev + 1) = false ∧ splI d prev (trmV d prev + 1) es = 0 ∧ splV d prev (trmV d prev + 1) es = d := by
  have h1 : splOk d prev (trmV d prev + 1) = false := by unfold splOk; simp; omega
  have h2 : ¬ prev < d.base := by omega
  refine ⟨h1, ?_, ?_⟩
  · unfold splI; rw [if_neg h2, h1]; rfl
  · unfold splV; rw [if_neg h2, h1]; rfl
theorem spl_good {d : LogV} {prev t : Int} {es : List (Int × List UInt8)} (hp : d.base ≤ prev ∧ prev ≤ d.base + d.l.length) (ht : trmV d prev = t) : splOk d prev t = true ∧ splI d prev t es = layI d prev es ∧ splV d prev t es = layV d prev es := by
  have h1 : splOk d prev t = true := by unfold splOk; rw [isI.2 hp]; simp [ht]
  have h2 : ¬ prev < d.base := by omega
  refine ⟨h1, ?_, ?_⟩
  · unfold splI; rw [if_neg h2, if_pos h1]
  · unfold splV; rw [if_neg h2, if_pos h1]
theorem from_take {d d2 : LogV} {m : Int} (hb : d2.base = d.base) (hm : d.base + m ≤ d.base + d.l.length) (hm2 : d.base + m ≤ d.base + d2.l.length) (h : d2.l.take m.toNat = d.l.take m.toNat) : fromV d2 (d.base + 1) m = fromV d (d.base + 1) m := by
  unfold fromV
  by_cases h0 : 0 < m
  · rw [if_pos ⟨hasI.2 (by rw [hb]; omega), h0⟩, if_pos ⟨hasI.2 (by omega), h0⟩, hb]
    rw [show (d.base + 1 - d.base - 1).toNat = 0 by omega, List.drop_zero, List.drop_zero]; exact h
  · rw [if_neg (fun h => h0 h.2), if_neg (fun h => h0 h.2)]
theorem trm_le {d : LogV} {M : Int} (h0 : 0 ≤ d.term ∧ d.term ≤ M) (h : ∀ x ∈ d.l, 0 ≤ x.1 ∧ x.1 ≤ M) (i : Int) : 0 ≤ trmV d i ∧ trmV d i ≤ M := by
  unfold trmV
  split
  · rename_i hi
    have hn : ((i - d.base) - 1).toNat < d.l.length := by omega
    rw [List.getD_eq_getElem?_getD, List.getElem?_eq_getElem hn]
    exact h _ (List.getElem_mem hn)
  · split <;> omega
theorem lay_lenle {d : LogV} {prev : Int} {es : List (Int × List UInt8)} : (layV d prev es).l.length ≤ d.l.length + es.length := by
  unfold layV; split
  · simp only [List.length_append, List.length_take, List.length_drop]; omega
  · omega
theorem app_term (d : LogV) (t : Int) (x : List UInt8) : (appV d t x).term = d.term := by unfold appV; split <;> rfl
theorem app_all {d : LogV} {t : Int} {x : List UInt8} (h0 : d.term = 0) (h : ∀ y ∈ d.l, 0 ≤ y.1 ∧ y.1 ≤ 1099511627776) : ∀ y ∈ (appV d t x).l, 0 ≤ y.1 ∧ y.1 ≤ 1099511627776 := by
  unfold appV; split
  · rename_i h2; unfold appOk at h2
    intro y hy
    rcases List.mem_append.1 hy with h3 | h3
    · exact h y h3
    · rw [List.mem_singleton.1 h3]
      refine ⟨?_, h2.2.1⟩
      have hl : 0 ≤ lastT d := by
        unfold lastT; split
        · omega
        · rename_i hne
          have hn : d.l.length - 1 < d.l.length := by omega
          rw [List.getD_eq_getElem?_getD, List.getElem?_eq_getElem hn]
          exact (h _ (List.getElem_mem hn)).1
      exact Int.le_trans hl h2.1
  · exact h
theorem all_small {es : List (Int × List UInt8)} (h : ∀ j (h1 : j < es.length), es[j].2.length ≤ 100) : ∀ x ∈ es, x.2.length ≤ 1000000 := by
  intro x hx
  obtain ⟨j, hj, rfl⟩ := List.mem_iff_getElem.1 hx
  have := h j hj; omega

set_option maxHeartbeats 300000 in
set_option maxRecDepth 10000 in
theorem entriesSpliced_walk {w : World}  {D_own : Nat → Prop} {c_own : Nat} {a_own : Option Addr} {own : List (Int × List UInt8)} (F_own : Sl V.Cod.ent w D_own a_own c_own own) (hD_own : ∀ k, D_own k → k < w.heap.size) {prev : Int} {D_es : Nat → Prop} {c_es : Nat} {a_es : Option Addr} {es : List (Int × List UInt8)} (F_es : Sl V.Cod.ent w D_es a_es c_es es) (hD_es : ∀ k, D_es k → k < w.heap.size) (hb1 : -9223372036854775808 ≤ prev ∧ prev ≤ 9223372036854775807) :
    Meets Try.prog 4 [.slice a_own own.length c_own, .int .i64 prev, .slice a_es es.length c_es] w fun r w' => r = .bool true ∧ Gr w w' := by
 have HG := V.Fr.refl [] w
 refine V.enter (n := 223) Try.func4 rfl rfl (by decide) rfl ?_
 refine V.seq ?_
 refine V.region ?_
 refine V.run T_ok 1 rfl ?_
 refine V.nil ?_
 refine V.tN ?_
 refine V.seq ?_
 refine V.region ?_
 refine V.call (new_spec (b := 0) (t := 0) (by decide)) rfl rfl rfl ?_
 rintro _ w8 ⟨k1, g2, B3, rfl, ⟨h4l, h4u⟩, F5, h6, h7, G9⟩
 have z10 := V.Fr.size G9
 try replace F_own := F_own.gr G9
 try replace F_es := F_es.gr G9
 replace HG := HG.grow G9
 clear G9
 refine V.run T_ok 5 rfl ?_
 refine V.nil ?_
 refine V.tN ?_
 refine V.seq ?_
 refine V.seq ?_
 refine V.region ?_
 refine V.run T_ok 6 rfl ?_
 refine V.nil ?_
 refine V.tN ?_
 refine V.condN rfl rfl ?_
 refine V.skip ?_
 refine V.tN ?_
 refine V.seq ?_
 refine V.seq ?_
 refine V.region ?_
 refine V.run T_ok 1 rfl ?_
 refine V.nil ?_
 refine V.tN ?_
 refine V.block ?_
 have hl63p := F_own.len63
 refine V.loopM (fun m e v12 => Fr [] w v12 ∧ w8.heap.size ≤ v12.heap.size ∧ Sl V.Cod.ent v12 D_own a_own c_own own ∧ Sl V.Cod.ent v12 D_es a_es c_es es ∧ ∃ (ip : Nat) (curp : LogV) (gp : Nat) (Bp : Nat → Prop) , m = own.length - ip ∧ ip ≤ own.length ∧ ip ≤ 20 ∧ curp.l.length ≤ ip ∧ curp.base = 0 ∧ lastT curp ≤ 1099511627776 ∧ curp.term = 0 ∧ (∀ y ∈ curp.l, 0 ≤ y.1 ∧ y.1 ≤ 1099511627776) ∧ w.heap.size ≤ gp ∧ (∀ j, Bp j → w.heap.size ≤ j) ∧ Lg v12 k1 gp Bp curp ∧ e 0 = .slice a_own own.length c_own ∧ e 1 = .int .i64 prev ∧ e 2 = .slice a_es es.length c_es ∧ e 7 = .pointer (some ⟨k1, 0, none⟩) ∧ e 9 = .int .i64 (ip : Int)) ?_ ?_
 ·
  exact ⟨_, HG, (by omega), F_own, F_es, (0), (⟨0, 0, []⟩), (g2), (B3), rfl, (Nat.zero_le _), ((by omega)), ((by simp)), (rfl), ((by decide)), (rfl), ((fun y h => by cases h)), ((by omega)), ((by intro j h; grind)), F5, rfl, rfl, rfl, rfl, rfl⟩
 clear HG F_own F_es F5
 rintro _ e v12 ⟨HG, z13, F_own, F_es, ip, curp, gp, Bp, rfl, hip, hi2p, hclp, hcbp, hltp, hctp, hall, hglp, hBlp, F5, he0_0, he0_1, he0_2, he0_7, he0_9⟩
 refine V.knownC (t := 0) he0_0 ?_
 refine V.knownC (t := 1) he0_1 ?_
 refine V.knownC (t := 2) he0_2 ?_
 refine V.knownC (t := 7) he0_7 ?_
 refine V.knownC (t := 9) he0_9 ?_
 refine V.seq ?_
 refine V.seq ?_
 refine V.region ?_
 refine V.run T_ok 5 rfl ?_
 refine V.andG T_ok 2 4 39 rfl rfl rfl rfl rfl rfl rfl rfl ?_
 refine V.nil ?_
 refine V.tN ?_
 refine V.condT rfl (fun h5 => ?_) (fun h5 => ?_)
 ·
  try replace h5 := V.dec h5
  try simp only [V.mk0, V.mk1, V.mk2, V.mk3] at h5
  refine V.skip ?_
  refine V.tN ?_
  refine V.seq ?_
  refine V.block ?_
  refine V.seq ?_
  refine V.region ?_
  refine V.run T_ok 2 rfl ?_
  refine V.elem T_ok F_own rfl rfl sz29 rfl rfl rfl rfl (by first | omega | (simp only [List.length_take, List.length_drop, List.length_append, List.length_cons, List.length_nil, List.length_replicate, List.length_set, V.length_data, V.S_size]; omega)) (by first | omega | (simp only [List.length_take, List.length_drop, List.length_append, List.length_cons, List.length_nil, List.length_replicate, List.length_set, V.length_data, V.S_size]; omega)) ?_
  rintro b14 o15 cs16 hx17 hb18 hR24 hA19
  obtain ⟨x20, hx20⟩ : ∃ z', own[((ip : Int)).toNat] = z' := ⟨_, rfl⟩
  rw [hx20] at hR24
  obtain ⟨_, _, rfl, rfl, ⟨a21, c22, rfl, F23⟩⟩ := hR24
  try simp only [Int.toNat_natCast] at hx20 hx17
  refine V.run T_ok 1 rfl ?_
  refine V.loadA T_ok (o0 := o15) (off := 1) hA19 rfl rfl rfl rfl rfl ?_
  refine V.run T_ok 2 rfl ?_
  refine V.nil ?_
  refine V.tN ?_
  refine V.condT rfl (fun h7 => ?_) (fun h7 => ?_)
  ·
   try replace h7 := V.dec h7
   try simp only [V.mk0, V.mk1, V.mk2, V.mk3] at h7
   refine V.region ?_
   refine V.run T_ok 3 rfl ?_
   refine V.elem T_ok F_own rfl rfl sz29 rfl rfl rfl rfl (by first | omega | (simp only [List.length_take, List.length_drop, List.length_append, List.length_cons, List.length_nil, List.length_replicate, List.length_set, V.length_data, V.S_size]; omega)) (by first | omega | (simp only [List.length_take, List.length_drop, List.length_append, List.length_cons, List.length_nil, List.length_replicate, List.length_set, V.length_data, V.S_size]; omega)) ?_
   rintro b25 o26 cs27 hx28 hb29 hR35 hA30
   obtain ⟨x31, hx31⟩ : ∃ z', own[((ip : Int)).toNat] = z' := ⟨_, rfl⟩
   rw [hx31] at hR35
   obtain ⟨_, _, rfl, rfl, ⟨a32, c33, rfl, F34⟩⟩ := hR35
   try simp only [Int.toNat_natCast] at hx31 hx28
   obtain rfl : x20 = x31 := hx20.symm.trans hx31
   refine V.loadA T_ok (o0 := o26) (off := 0) hA30 rfl rfl rfl rfl rfl ?_
   refine V.call (append_spec (t := x20.1) F5 F34 (fun k hk => by have := hD_own k hk; omega) (by first | omega | simp | decide)) rfl rfl rfl ?_
   rintro _ w41 ⟨g36, B37, rfl, F38, h39, h40, G42⟩
   obtain ⟨w43, G44, G45⟩ := V.Fr.two G42
   clear G42
   have z46 := V.Fr.size G44
   first | replace F_own := F_own.mb G44 hD_own | clear F_own | skip
   first | replace F_es := F_es.mb G44 hD_es | clear F_es | skip
   first | replace F5 := F5.mv1 G44 (by (try dsimp only [V.In]); first | omega | grind) | clear F5 | skip
   first | replace F23 := F23.mb G44 hD_own | clear F23 | skip
   first | replace F34 := F34.mb G44 hD_own | clear F34 | skip
   replace HG := HG.n1 G44
   clear G44
   have z47 := V.Fr.size G45
   first | replace F_own := F_own.mb G45 hD_own | clear F_own | skip
   first | replace F_es := F_es.mb G45 hD_es | clear F_es | skip
   first | replace F5 := F5.mv1 G45 (by (try dsimp only [V.In]); first | omega | grind) | clear F5 | skip
   first | replace F23 := F23.mb G45 hD_own | clear F23 | skip
   first | replace F34 := F34.mb G45 hD_own | clear F34 | skip
   replace HG := HG.n1 G45
   clear G45
   refine V.nil ?_
   refine V.bN ?_
   refine V.tN ?_
   refine V.region ?_
   refine V.run T_ok 1 rfl ?_
   refine V.addN rfl rfl rfl rfl rfl (by first | omega | (simp only [List.length_take, List.length_drop, List.length_append, List.length_cons, List.length_nil, List.length_replicate, List.length_set, V.length_data, V.S_size]; omega)) (by first | omega | (simp only [List.length_take, List.length_drop, List.length_append, List.length_cons, List.length_nil, List.length_replicate, List.length_set, V.length_data, V.S_size]; omega)) ?_
   refine V.run T_ok 1 rfl ?_
   refine V.nil ?_
   refine V.tN ?_
   have hab := app_base curp x20.1 x20.2
   have hal := app_len curp x20.1 x20.2
   have hat := app_lastT (t := x20.1) (x := x20.2) hltp
   have ham := app_term curp x20.1 x20.2
   have haa := app_all (t := x20.1) (x := x20.2) hctp hall
   exact ⟨_, (by omega), HG, (by omega), F_own, F_es, (ip + 1), (appV curp x20.1 x20.2), (g36), (B37), rfl, (by omega), (by omega), ((by omega)), ((by omega)), ((by omega)), ((by omega)), (haa), ((by omega)), ((by intro j h; grind)), F38, rfl, rfl, rfl, rfl, rfl⟩
  ·
   try replace h7 := V.dec h7
   try simp only [V.mk0, V.mk1, V.mk2, V.mk3] at h7
   refine V.skip ?_
   refine V.bN ?_
   refine V.tN ?_
   refine V.region ?_
   refine V.run T_ok 1 rfl ?_
   refine V.addN rfl rfl rfl rfl rfl (by first | omega | (simp only [List.length_take, List.length_drop, List.length_append, List.length_cons, List.length_nil, List.length_replicate, List.length_set, V.length_data, V.S_size]; omega)) (by first | omega | (simp only [List.length_take, List.length_drop, List.length_append, List.length_cons, List.length_nil, List.length_replicate, List.length_set, V.length_data, V.S_size]; omega)) ?_
   refine V.run T_ok 1 rfl ?_
   refine V.nil ?_
   refine V.tN ?_
   have haa := hall
   exact ⟨_, (by omega), HG, (by omega), F_own, F_es, (ip + 1), (curp), (gp), (Bp), rfl, (by omega), (by omega), ((by omega)), ((by omega)), ((by omega)), ((by omega)), (haa), ((by omega)), ((by intro j h; grind)), F5, rfl, rfl, rfl, rfl, rfl⟩
 ·
  try replace h5 := V.dec h5
  try simp only [V.mk0, V.mk1, V.mk2, V.mk3] at h5
  refine V.exit ?_
  refine V.tX ?_
  refine V.tX ?_
  refine V.bE ?_
  refine V.tN ?_
  refine V.seq ?_
  refine V.seq ?_
  refine V.region ?_
  refine V.run T_ok 1 rfl ?_
  refine V.nil ?_
  refine V.tN ?_
  refine V.block ?_
  have hel := F_es.len63
  refine V.loopM (fun m e v49 => v12 = v49 ∧ ∃ (i : Nat) , m = es.length - i ∧ i ≤ es.length ∧ i ≤ 20 ∧ (∀ j (h1 : j < es.length), j < i → es[j].2.length ≤ 100) ∧ e 1 = .int .i64 prev ∧ e 2 = .slice a_es es.length c_es ∧ e 7 = .pointer (some ⟨k1, 0, none⟩) ∧ e 10 = .int .i64 (i : Int)) ?_ ?_
  ·
   exact ⟨_, rfl, (0), rfl, (Nat.zero_le _), (Nat.zero_le _), (fun j _ h => absurd h (Nat.not_lt_zero _)), rfl, rfl, rfl, rfl⟩
  rintro _ e v49 ⟨rfl, i, rfl, hi, hi20, hsm, he1_1, he1_2, he1_7, he1_10⟩
  refine V.knownC (t := 1) he1_1 ?_
  refine V.knownC (t := 2) he1_2 ?_
  refine V.knownC (t := 7) he1_7 ?_
  refine V.knownC (t := 10) he1_10 ?_
  refine V.seq ?_
  refine V.seq ?_
  refine V.region ?_
  refine V.run T_ok 4 rfl ?_
  refine V.nil ?_
  refine V.tN ?_
  refine V.condT rfl (fun h10 => ?_) (fun h10 => ?_)
  ·
   try replace h10 := V.dec h10
   try simp only [V.mk0, V.mk1, V.mk2, V.mk3] at h10
   refine V.skip ?_
   refine V.tN ?_
   refine V.seq ?_
   refine V.block ?_
   refine V.seq ?_
   refine V.region ?_
   refine V.run T_ok 3 rfl ?_
   refine V.split (j := 2) (t := 66) rfl rfl (fun g12_2 => ?_) (fun g12_2 => ?_)
   ·
    try replace g12_2 := V.dec g12_2
    try simp only [V.mk0, V.mk1, V.mk2, V.mk3] at g12_2
    refine V.run T_ok 8 rfl ?_
    refine V.nil ?_
    refine V.tN ?_
    refine V.condY rfl rfl ?_
    refine V.seq ?_
    refine V.region ?_
    refine V.call (alive_spec) rfl rfl rfl ?_
    rintro _ w50 ⟨rfl, G51⟩
    have z52 := V.Fr.size G51
    try replace F_own := F_own.gr G51
    try replace F_es := F_es.gr G51
    try replace F5 := F5.gr G51
    replace HG := HG.grow G51
    clear G51
    refine V.run T_ok 1 rfl ?_
    refine V.nil ?_
    refine V.tN ?_
    refine V.ret ?_
    refine V.bR ?_
    refine V.tR ?_
    refine V.tR ?_
    refine V.bR ?_
    refine V.tR ?_
    refine V.done rfl ?_
    exact ⟨(by first | rfl | simp only [List.length_set]), HG⟩
   ·
    try replace g12_2 := V.dec g12_2
    try simp only [V.mk0, V.mk1, V.mk2, V.mk3] at g12_2
    refine V.run T_ok 2 rfl ?_
    refine V.yes rfl rfl rfl ?_
    refine V.elem T_ok F_es rfl rfl sz29 rfl rfl rfl rfl (by first | omega | (simp only [List.length_take, List.length_drop, List.length_append, List.length_cons, List.length_nil, List.length_replicate, List.length_set, V.length_data, V.S_size]; omega)) (by first | omega | (simp only [List.length_take, List.length_drop, List.length_append, List.length_cons, List.length_nil, List.length_replicate, List.length_set, V.length_data, V.S_size]; omega)) ?_
    rintro b53 o54 cs55 hx56 hb57 hR63 hA58
    obtain ⟨x59, hx59⟩ : ∃ z', es[((i : Int)).toNat] = z' := ⟨_, rfl⟩
    rw [hx59] at hR63
    obtain ⟨_, _, rfl, rfl, ⟨a60, c61, rfl, F62⟩⟩ := hR63
    try simp only [Int.toNat_natCast] at hx59 hx56
    refine V.run T_ok 1 rfl ?_
    refine V.yes rfl rfl rfl ?_
    refine V.loadA T_ok (o0 := o54) (off := 1) hA58 rfl rfl rfl rfl rfl ?_
    refine V.run T_ok 3 rfl ?_
    refine V.nil ?_
    refine V.tN ?_
    refine V.condT rfl (fun h12 => ?_) (fun h12 => ?_)
    ·
     try replace h12 := V.dec h12
     try simp only [V.mk0, V.mk1, V.mk2, V.mk3] at h12
     refine V.seq ?_
     refine V.region ?_
     refine V.call (alive_spec) rfl rfl rfl ?_
     rintro _ w64 ⟨rfl, G65⟩
     have z66 := V.Fr.size G65
     try replace F_own := F_own.gr G65
     try replace F_es := F_es.gr G65
     try replace F5 := F5.gr G65
     try replace F62 := F62.gr G65
     replace HG := HG.grow G65
     clear G65
     refine V.run T_ok 1 rfl ?_
     refine V.nil ?_
     refine V.tN ?_
     refine V.ret ?_
     refine V.bR ?_
     refine V.tR ?_
     refine V.tR ?_
     refine V.bR ?_
     refine V.tR ?_
     refine V.done rfl ?_
     exact ⟨(by first | rfl | simp only [List.length_set]), HG⟩
    ·
     try replace h12 := V.dec h12
     try simp only [V.mk0, V.mk1, V.mk2, V.mk3] at h12
     refine V.skip ?_
     refine V.bN ?_
     refine V.tN ?_
     refine V.region ?_
     refine V.run T_ok 1 rfl ?_
     refine V.addN rfl rfl rfl rfl rfl (by first | omega | (simp only [List.length_take, List.length_drop, List.length_append, List.length_cons, List.length_nil, List.length_replicate, List.length_set, V.length_data, V.S_size]; omega)) (by first | omega | (simp only [List.length_take, List.length_drop, List.length_append, List.length_cons, List.length_nil, List.length_replicate, List.length_set, V.length_data, V.S_size]; omega)) ?_
     refine V.run T_ok 1 rfl ?_
     refine V.nil ?_
     refine V.tN ?_
     exact ⟨_, (by omega), rfl, (i + 1), rfl, (by omega), (by omega), (fun j h1 h2 => by rcases Nat.lt_or_ge j i with h | h; exact hsm j h1 h; obtain rfl : j = i := (by omega); rw [hx59]; omega), rfl, rfl, rfl, rfl⟩
  ·
   try replace h10 := V.dec h10
   try simp only [V.mk0, V.mk1, V.mk2, V.mk3] at h10
   refine V.exit ?_
   refine V.tX ?_
   refine V.tX ?_
   refine V.bE ?_
   refine V.tN ?_
   refine V.seq ?_
   have hde := all_small (fun j h1 => hsm j h1 (by omega))
   have hnkl := F5.nk
   have hkl1 := F5.lt
   have hgl1 := F5.gl
   have hBl1 := F5.bl
   have hlz : lastI curp = curp.base + curp.l.length := rfl
   refine V.region ?_
   refine V.run T_ok 1 rfl ?_
   refine V.call (last_spec F5) rfl rfl rfl ?_
   rintro _ w67 ⟨rfl, G68⟩
   have z69 := V.Fr.size G68
   try replace F_own := F_own.gr G68
   try replace F_es := F_es.gr G68
   try replace F5 := F5.gr G68
   replace HG := HG.grow G68
   clear G68
   refine V.run T_ok 5 rfl ?_
   refine V.nil ?_
   refine V.tN ?_
   refine V.seq ?_
   refine V.region ?_
   refine V.run T_ok 1 rfl ?_
   refine V.call (copy_spec F5) rfl rfl rfl ?_
   rintro _ w77 ⟨k70, g71, B72, rfl, ⟨h73l, h73u⟩, F74, h75, h76, G78⟩
   have z79 := V.Fr.size G78
   try replace F_own := F_own.gr G78
   try replace F_es := F_es.gr G78
   try replace F5 := F5.gr G78
   replace HG := HG.grow G78
   clear G78
   refine V.run T_ok 1 rfl ?_
   refine V.nil ?_
   refine V.tN ?_
   refine V.seq ?_
   refine V.region ?_
   refine V.run T_ok 2 rfl ?_
   refine V.call (term_spec (i := prev) F5) rfl rfl rfl ?_
   rintro _ w80 ⟨rfl, G81⟩
   have z82 := V.Fr.size G81
   try replace F_own := F_own.gr G81
   try replace F_es := F_es.gr G81
   try replace F5 := F5.gr G81
   try replace F74 := F74.gr G81
   replace HG := HG.grow G81
   clear G81
   refine V.run T_ok 5 rfl ?_
   refine V.nil ?_
   refine V.tN ?_
   refine V.seq ?_
   have htb := trm_le (M := 1099511627776) (by omega) hall prev
   refine V.region ?_
   refine V.run T_ok 3 rfl ?_
   refine V.addN rfl rfl rfl rfl rfl (by first | omega | (simp only [List.length_take, List.length_drop, List.length_append, List.length_cons, List.length_nil, List.length_replicate, List.length_set, V.length_data, V.S_size]; omega)) (by first | omega | (simp only [List.length_take, List.length_drop, List.length_append, List.length_cons, List.length_nil, List.length_replicate, List.length_set, V.length_data, V.S_size]; omega)) ?_
   refine V.run T_ok 1 rfl ?_
   refine V.call (splice_spec (prev := prev) (t := ((trmV curp prev) + 1)) F5 F_es (fun k hk => by have := hD_es k hk; omega) (by first | omega | simp | decide) (by first | omega | simp | decide) (by first | assumption | simp)) rfl rfl rfl ?_
   rintro _ w88 ⟨g83, B84, rfl, F85, h86, h87, G89⟩
   have z90 := V.Fr.size G89
   first | replace F_own := F_own.mb G89 hD_own | clear F_own | skip
   first | replace F_es := F_es.mb G89 hD_es | clear F_es | skip
   first | replace F5 := F5.mv1 G89 (by (try dsimp only [V.In]); first | omega | grind) | clear F5 | skip
   first | replace F74 := F74.mv1 G89 (by (try dsimp only [V.In]); first | omega | grind) | clear F74 | skip
   replace HG := HG.n1 G89
   clear G89
   refine V.run T_ok 5 rfl ?_
   refine V.nil ?_
   refine V.tN ?_
   refine V.seq ?_
   refine V.seq ?_
   have hA : 0 ≤ prev → splOk curp prev (trmV curp prev + 1) = false ∧ splI curp prev (trmV curp prev + 1) es = 0 ∧ splV curp prev (trmV curp prev + 1) es = curp := fun h => spl_bad (by omega)
   refine V.region ?_
   refine V.run T_ok 6 rfl ?_
   refine V.split (j := 5) (t := 103) rfl rfl (fun g18_5 => ?_) (fun g18_5 => ?_)
   ·
    try replace g18_5 := V.dec g18_5
    try simp only [V.mk0, V.mk1, V.mk2, V.mk3] at g18_5
    refine V.run T_ok 2 rfl ?_
    refine V.split (j := 7) (t := 105) rfl rfl (fun g18_7 => ?_) (fun g18_7 => ?_)
    ·
     try replace g18_7 := V.dec g18_7
     try simp only [V.mk0, V.mk1, V.mk2, V.mk3] at g18_7
     refine V.run T_ok 17 rfl ?_
     refine V.nil ?_
     refine V.tN ?_
     refine V.condY rfl rfl ?_
     refine V.seq ?_
     refine V.region ?_
     refine V.run T_ok 1 rfl ?_
     refine V.nil ?_
     refine V.tN ?_
     refine V.ret ?_
     refine V.tR ?_
     refine V.done rfl ?_
     exfalso
     obtain ⟨hA1, hA2, hA3⟩ := hA (by omega)
     simp_all
    ·
     try replace g18_7 := V.dec g18_7
     try simp only [V.mk0, V.mk1, V.mk2, V.mk3] at g18_7
     refine V.run T_ok 6 rfl ?_
     refine V.split (j := 13) (t := 111) rfl rfl (fun g18_13 => ?_) (fun g18_13 => ?_)
     ·
      try replace g18_13 := V.dec g18_13
      try simp only [V.mk0, V.mk1, V.mk2, V.mk3] at g18_13
      refine V.run T_ok 11 rfl ?_
      refine V.nil ?_
      refine V.tN ?_
      refine V.condY rfl rfl ?_
      refine V.seq ?_
      refine V.region ?_
      refine V.run T_ok 1 rfl ?_
      refine V.nil ?_
      refine V.tN ?_
      refine V.ret ?_
      refine V.tR ?_
      refine V.done rfl ?_
      exfalso
      obtain ⟨hA1, hA2, hA3⟩ := hA (by omega)
      simp_all
     ·
      try replace g18_13 := V.dec g18_13
      try simp only [V.mk0, V.mk1, V.mk2, V.mk3] at g18_13
      refine V.run T_ok 1 rfl ?_
      refine V.yes rfl rfl rfl ?_
      refine V.call (from_spec (i := 1) (most := 1000) F85) rfl rfl rfl ?_
      rintro _ w94 ⟨a91, c92, rfl, F93, G95⟩
      have z96 := V.Fr.size G95
      try replace F_own := F_own.gr G95
      try replace F_es := F_es.gr G95
      try replace F74 := F74.gr G95
      try replace F85 := F85.gr G95
      replace HG := HG.grow G95
      clear G95
      refine V.run T_ok 1 rfl ?_
      refine V.yes rfl rfl rfl ?_
      refine V.call (from_spec (i := 1) (most := 1000) F74) rfl rfl rfl ?_
      rintro _ w100 ⟨a97, c98, rfl, F99, G101⟩
      have z102 := V.Fr.size G101
      try replace F_own := F_own.gr G101
      try replace F_es := F_es.gr G101
      try replace F74 := F74.gr G101
      try replace F85 := F85.gr G101
      try replace F93 := F93.gr G101
      replace HG := HG.grow G101
      clear G101
      refine V.yes rfl rfl rfl ?_
      refine V.call (alike_spec (Sl.entOf F93.sl) (Sl.entOf F99.sl)) rfl rfl rfl ?_
      rintro _ w103 ⟨rfl, G104⟩
      have z105 := V.Fr.size G104
      try replace F_own := F_own.gr G104
      try replace F_es := F_es.gr G104
      try replace F74 := F74.gr G104
      try replace F85 := F85.gr G104
      try replace F93 := F93.gr G104
      try replace F99 := F99.gr G104
      replace HG := HG.grow G104
      clear G104
      refine V.run T_ok 2 rfl ?_
      refine V.split (j := 20) (t := 118) rfl rfl (fun g18_20 => ?_) (fun g18_20 => ?_)
      ·
       try replace g18_20 := V.dec g18_20
       try simp only [V.mk0, V.mk1, V.mk2, V.mk3] at g18_20
       refine V.run T_ok 4 rfl ?_
       refine V.nil ?_
       refine V.tN ?_
       refine V.condT rfl (fun h18 => ?_) (fun h18 => ?_)
       ·
        try replace h18 := V.dec h18
        try simp only [V.mk0, V.mk1, V.mk2, V.mk3] at h18
        refine V.seq ?_
        refine V.region ?_
        refine V.run T_ok 1 rfl ?_
        refine V.nil ?_
        refine V.tN ?_
        refine V.ret ?_
        refine V.tR ?_
        refine V.done rfl ?_
        exfalso
        obtain ⟨hA1, hA2, hA3⟩ := hA (by omega)
        simp_all
       ·
        try replace h18 := V.dec h18
        try simp only [V.mk0, V.mk1, V.mk2, V.mk3] at h18
        refine V.skip ?_
        refine V.tN ?_
        refine V.seq ?_
        refine V.seq ?_
        refine V.region ?_
        refine V.run T_ok 3 rfl ?_
        refine V.orG T_ok 3 2 125 rfl rfl rfl rfl rfl rfl rfl rfl ?_
        refine V.run T_ok 1 rfl ?_
        refine V.orG T_ok 2 7 130 rfl rfl rfl rfl rfl rfl rfl rfl ?_
        refine V.nil ?_
        refine V.tN ?_
        refine V.condT rfl (fun h20 => ?_) (fun h20 => ?_)
        ·
         try replace h20 := V.dec h20
         try simp only [V.mk0, V.mk1, V.mk2, V.mk3] at h20
         refine V.seq ?_
         have hnis : isV curp prev = false := Bool.eq_false_iff.2 (fun h => by have := isI.1 h; grind)
         refine V.region ?_
         refine V.call (alive_spec) rfl rfl rfl ?_
         rintro _ w106 ⟨rfl, G107⟩
         have z108 := V.Fr.size G107
         try replace F_own := F_own.gr G107
         try replace F_es := F_es.gr G107
         try replace F74 := F74.gr G107
         try replace F85 := F85.gr G107
         try replace F93 := F93.gr G107
         try replace F99 := F99.gr G107
         replace HG := HG.grow G107
         clear G107
         refine V.run T_ok 5 rfl ?_
         refine V.nil ?_
         refine V.tN ?_
         refine V.ret ?_
         refine V.tR ?_
         refine V.done rfl ?_
         exact ⟨congrArg Value.bool (by rw [hnis]; rfl), HG⟩
        ·
         try replace h20 := V.dec h20
         try simp only [V.mk0, V.mk1, V.mk2, V.mk3] at h20
         refine V.skip ?_
         refine V.tN ?_
         refine V.seq ?_
         obtain ⟨hA1, hA2, hA3⟩ := hA (by omega)
         have hp : curp.base ≤ prev ∧ prev ≤ curp.base + curp.l.length := isI.1 (by grind)
         have hr109 : splV curp prev ((trmV curp prev) + 1) es = curp := hA3
         rw [hr109] at F85
         clear hr109
         refine V.region ?_
         refine V.run T_ok 4 rfl ?_
         refine V.call (splice_spec (prev := prev) (t := (trmV curp prev)) F85 F_es (fun k hk => by have := hD_es k hk; omega) (by first | omega | simp | decide) (by first | omega | simp | decide) (by first | assumption | simp)) rfl rfl rfl ?_
         rintro _ w115 ⟨g110, B111, rfl, F112, h113, h114, G116⟩
         have z117 := V.Fr.size G116
         first | replace F_own := F_own.mb G116 hD_own | clear F_own | skip
         first | replace F_es := F_es.mb G116 hD_es | clear F_es | skip
         first | replace F74 := F74.mv1 G116 (by (try dsimp only [V.In]); first | omega | grind) | clear F74 | skip
         first | replace F85 := F85.mv1 G116 (by (try dsimp only [V.In]); first | omega | grind) | clear F85 | skip
         first | replace F93 := F93.ma G116 | clear F93 | skip
         first | replace F99 := F99.ma G116 | clear F99 | skip
         replace HG := HG.n1 G116
         clear G116
         refine V.run T_ok 5 rfl ?_
         refine V.nil ?_
         refine V.tN ?_
         refine V.seq ?_
         have hG := spl_good (es := es) hp rfl
         have hr118 : splV curp prev (trmV curp prev) es = layV curp prev es := hG.2.2
         rw [hr118] at F112
         clear hr118
         have hT := lay_there (es := es) hp
         have hP := lay_prev (es := es) hp
         have hL := lay_again (es := es) hp
         have hll := lay_lenle (d := curp) (prev := prev) (es := es)
         have hlb : (layV curp prev es).base = 0 := by rw [layV_l.1, hcbp]
         have hF : fromV (layV curp prev es) 1 prev = fromV curp 1 prev := by have h := from_take (d := curp) (d2 := layV curp prev es) (m := prev) layV_l.1 (by omega) (by omega) (lay_take hp _ (by omega)); rw [hcbp] at h; exact h
         refine V.region ?_
         refine V.run T_ok 2 rfl ?_
         refine V.call (from_spec (i := 1) (most := prev) F112) rfl rfl rfl ?_
         rintro _ w122 ⟨a119, c120, rfl, F121, G123⟩
         have z124 := V.Fr.size G123
         try replace F_own := F_own.gr G123
         try replace F_es := F_es.gr G123
         try replace F74 := F74.gr G123
         try replace F93 := F93.gr G123
         try replace F99 := F99.gr G123
         try replace F112 := F112.gr G123
         replace HG := HG.grow G123
         clear G123
         refine V.run T_ok 2 rfl ?_
         refine V.call (from_spec (i := 1) (most := prev) F74) rfl rfl rfl ?_
         rintro _ w128 ⟨a125, c126, rfl, F127, G129⟩
         have z130 := V.Fr.size G129
         try replace F_own := F_own.gr G129
         try replace F_es := F_es.gr G129
         try replace F74 := F74.gr G129
         try replace F93 := F93.gr G129
         try replace F99 := F99.gr G129
         try replace F112 := F112.gr G129
         try replace F121 := F121.gr G129
         replace HG := HG.grow G129
         clear G129
         refine V.call (alike_spec (Sl.entOf F121.sl) (Sl.entOf F127.sl)) rfl rfl rfl ?_
         rintro _ w131 ⟨rfl, G132⟩
         have z133 := V.Fr.size G132
         try replace F_own := F_own.gr G132
         try replace F_es := F_es.gr G132
         try replace F74 := F74.gr G132
         try replace F93 := F93.gr G132
         try replace F99 := F99.gr G132
         try replace F112 := F112.gr G132
         try replace F121 := F121.gr G132
         try replace F127 := F127.gr G132
         replace HG := HG.grow G132
         clear G132
         refine V.run T_ok 1 rfl ?_
         refine V.nil ?_
         refine V.tN ?_
         refine V.seq ?_
         refine V.region ?_
         refine V.run T_ok 2 rfl ?_
         refine V.addN rfl rfl rfl rfl rfl (by first | omega | (simp only [List.length_take, List.length_drop, List.length_append, List.length_cons, List.length_nil, List.length_replicate, List.length_set, V.length_data, V.S_size]; omega)) (by first | omega | (simp only [List.length_take, List.length_drop, List.length_append, List.length_cons, List.length_nil, List.length_replicate, List.length_set, V.length_data, V.S_size]; omega)) ?_
         refine V.run T_ok 2 rfl ?_
         refine V.call (from_spec (i := (prev + 1)) (most := (es.length : Int)) F112) rfl rfl rfl ?_
         rintro _ w137 ⟨a134, c135, rfl, F136, G138⟩
         have z139 := V.Fr.size G138
         try replace F_own := F_own.gr G138
         try replace F_es := F_es.gr G138
         try replace F74 := F74.gr G138
         try replace F93 := F93.gr G138
         try replace F99 := F99.gr G138
         try replace F112 := F112.gr G138
         try replace F121 := F121.gr G138
         try replace F127 := F127.gr G138
         replace HG := HG.grow G138
         clear G138
         refine V.run T_ok 1 rfl ?_
         refine V.nil ?_
         refine V.tN ?_
         refine V.seq ?_
         refine V.seq ?_
         refine V.region ?_
         refine V.run T_ok 3 rfl ?_
         refine V.splitF (j := 2) (t := 162) rfl rfl (by (rw [hG.1]; rfl)) ?_
         refine V.run T_ok 4 rfl ?_
         refine V.splitF (j := 6) (t := 166) rfl rfl (by (rw [hF]; simp)) ?_
         refine V.run T_ok 6 rfl ?_
         refine V.nil ?_
         refine V.tN ?_
         refine V.condN rfl (by (exact decide_eq_false (by rw [hT.1]; simp))) ?_
         refine V.skip ?_
         refine V.tN ?_
         refine V.seq ?_
         refine V.seq ?_
         refine V.region ?_
         refine V.run T_ok 1 rfl ?_
         refine V.nil ?_
         refine V.tN ?_
         refine V.block ?_
         refine V.loopM (fun m e v141 => Fr [] w v141 ∧ w137.heap.size ≤ v141.heap.size ∧ Sl V.Cod.ent v141 D_own a_own c_own own ∧ Sl V.Cod.ent v141 D_es a_es c_es es ∧ Lg v141 k70 g71 B72 (curp) ∧ V.Row V.Cod.oent 29 v141 V.None' w88.heap.size w94.heap.size a91 c92 (fromV (splV curp prev ((trmV curp prev) + 1) es) 1 1000) ∧ V.Row V.Cod.oent 29 v141 V.None' w94.heap.size w100.heap.size a97 c98 (fromV curp 1 1000) ∧ Lg v141 k1 g110 B111 (layV curp prev es) ∧ V.Row V.Cod.oent 29 v141 V.None' w115.heap.size w122.heap.size a119 c120 (fromV (layV curp prev es) 1 prev) ∧ V.Row V.Cod.oent 29 v141 V.None' w122.heap.size w128.heap.size a125 c126 (fromV curp 1 prev) ∧ V.Row V.Cod.oent 29 v141 V.None' w131.heap.size w137.heap.size a134 c135 (fromV (layV curp prev es) (prev + 1) (es.length : Int)) ∧ ∃ (i2 : Nat) , m = es.length - i2 ∧ i2 ≤ es.length ∧ e 1 = .int .i64 prev ∧ e 2 = .slice a_es es.length c_es ∧ e 7 = .pointer (some ⟨k1, 0, none⟩) ∧ e 14 = .int .i64 (trmV curp prev) ∧ e 19 = .int .i64 (splI curp prev (trmV curp prev) es) ∧ e 21 = .slice a134 (fromV (layV curp prev es) (prev + 1) (es.length : Int)).length c135 ∧ e 22 = .int .i64 (i2 : Int)) ?_ ?_
         ·
          exact ⟨_, HG, (by omega), F_own, F_es, F74, F93, F99, F112, F121, F127, F136, (0), rfl, (Nat.zero_le _), rfl, rfl, rfl, rfl, rfl, rfl, rfl⟩
         clear HG F_own F_es F74 F93 F99 F112 F121 F127 F136
         rintro _ e v141 ⟨HG, z142, F_own, F_es, F74, F93, F99, F112, F121, F127, F136, i2, rfl, hi2, he2_1, he2_2, he2_7, he2_14, he2_19, he2_21, he2_22⟩
         refine V.knownC (t := 1) he2_1 ?_
         refine V.knownC (t := 2) he2_2 ?_
         refine V.knownC (t := 7) he2_7 ?_
         refine V.knownC (t := 14) he2_14 ?_
         refine V.knownC (t := 19) he2_19 ?_
         refine V.knownC (t := 21) he2_21 ?_
         refine V.knownC (t := 22) he2_22 ?_
         refine V.seq ?_
         refine V.seq ?_
         refine V.region ?_
         refine V.run T_ok 4 rfl ?_
         refine V.nil ?_
         refine V.tN ?_
         refine V.condT rfl (fun h28 => ?_) (fun h28 => ?_)
         ·
          try replace h28 := V.dec h28
          try simp only [V.mk0, V.mk1, V.mk2, V.mk3] at h28
          refine V.skip ?_
          refine V.tN ?_
          refine V.seq ?_
          refine V.block ?_
          refine V.seq ?_
          refine V.drawQ mixed (by kernel_rfl) ?_
          refine V.qrun T_ok 2 rfl ?_
          refine V.qelem T_ok F136.sl rfl rfl sz29 rfl rfl rfl rfl (by first | omega | (simp only [List.length_take, List.length_drop, List.length_append, List.length_cons, List.length_nil, List.length_replicate, List.length_set, V.length_data, V.S_size]; omega)) (by first | omega | (simp only [List.length_take, List.length_drop, List.length_append, List.length_cons, List.length_nil, List.length_replicate, List.length_set, V.length_data, V.S_size]; omega)) ?_
          rintro b143 o144 cs145 hx146 hb147 hR153 hA148
          obtain ⟨x149, hx149⟩ : ∃ z', (fromV (layV curp prev es) (prev + 1) (es.length : Int))[((i2 : Int)).toNat] = z' := ⟨_, rfl⟩
          rw [hx149] at hR153
          obtain ⟨_, _, rfl, rfl, ⟨a150, c151, rfl, F152⟩⟩ := hR153
          try simp only [Int.toNat_natCast] at hx149 hx146
          refine V.qrun T_ok 1 rfl ?_
          refine V.qloadA T_ok (o0 := o144) (off := 0) hA148 rfl rfl rfl rfl rfl ?_
          refine V.qrun T_ok 2 rfl ?_
          refine V.qelem T_ok F_es rfl rfl sz29 rfl rfl rfl rfl (by first | omega | (simp only [List.length_take, List.length_drop, List.length_append, List.length_cons, List.length_nil, List.length_replicate, List.length_set, V.length_data, V.S_size]; omega)) (by first | omega | (simp only [List.length_take, List.length_drop, List.length_append, List.length_cons, List.length_nil, List.length_replicate, List.length_set, V.length_data, V.S_size]; omega)) ?_
          rintro b154 o155 cs156 hx157 hb158 hR164 hA159
          obtain ⟨x160, hx160⟩ : ∃ z', es[((i2 : Int)).toNat] = z' := ⟨_, rfl⟩
          rw [hx160] at hR164
          obtain ⟨_, _, rfl, rfl, ⟨a161, c162, rfl, F163⟩⟩ := hR164
          try simp only [Int.toNat_natCast] at hx160 hx157
          refine V.qrun T_ok 1 rfl ?_
          refine V.qloadA T_ok (o0 := o155) (off := 0) hA159 rfl rfl rfl rfl rfl ?_
          refine V.qrun T_ok 1 rfl ?_
          refine V.qnil ?_
          rintro w165 G166
          have z167 := V.Fr.size G166
          try replace F_own := F_own.gr G166
          try replace F_es := F_es.gr G166
          try replace F74 := F74.gr G166
          try replace F93 := F93.gr G166
          try replace F99 := F99.gr G166
          try replace F112 := F112.gr G166
          try replace F121 := F121.gr G166
          try replace F127 := F127.gr G166
          try replace F136 := F136.gr G166
          try replace F152 := F152.gr G166
          try replace F163 := F163.gr G166
          replace HG := HG.grow G166
          clear G166
          refine V.tN ?_
          refine V.condT rfl (fun h30 => ?_) (fun h30 => ?_)
          ·
           try replace h30 := V.dec h30
           try simp only [V.mk0, V.mk1, V.mk2, V.mk3] at h30
           refine V.seq ?_
           refine V.region ?_
           refine V.run T_ok 1 rfl ?_
           refine V.nil ?_
           refine V.tN ?_
           refine V.ret ?_
           refine V.bR ?_
           refine V.tR ?_
           refine V.tR ?_
           refine V.bR ?_
           refine V.tR ?_
           refine V.done rfl ?_
           exfalso
           have := hT.2 i2 (by omega) (by omega)
           rw [hx149, hx160] at this
           omega
          ·
           try replace h30 := V.dec h30
           try simp only [V.mk0, V.mk1, V.mk2, V.mk3] at h30
           refine V.skip ?_
           refine V.bN ?_
           refine V.tN ?_
           refine V.region ?_
           refine V.run T_ok 1 rfl ?_
           refine V.addN rfl rfl rfl rfl rfl (by first | omega | (simp only [List.length_take, List.length_drop, List.length_append, List.length_cons, List.length_nil, List.length_replicate, List.length_set, V.length_data, V.S_size]; omega)) (by first | omega | (simp only [List.length_take, List.length_drop, List.length_append, List.length_cons, List.length_nil, List.length_replicate, List.length_set, V.length_data, V.S_size]; omega)) ?_
           refine V.run T_ok 1 rfl ?_
           refine V.nil ?_
           refine V.tN ?_
           exact ⟨_, (by omega), HG, (by omega), F_own, F_es, F74, F93, F99, F112, F121, F127, F136, (i2 + 1), rfl, (by omega), rfl, rfl, rfl, rfl, rfl, rfl, rfl⟩
         ·
          try replace h28 := V.dec h28
          try simp only [V.mk0, V.mk1, V.mk2, V.mk3] at h28
          refine V.exit ?_
          refine V.tX ?_
          refine V.tX ?_
          refine V.bE ?_
          refine V.tN ?_
          refine V.seq ?_
          refine V.region ?_
          refine V.run T_ok 4 rfl ?_
          refine V.call (splice_spec (prev := prev) (t := (trmV curp prev)) F112 F_es (fun k hk => by have := hD_es k hk; omega) (by first | omega | simp | decide) (by first | omega | simp | decide) (by first | assumption | simp)) rfl rfl rfl ?_
          rintro _ w173 ⟨g168, B169, rfl, F170, h171, h172, G174⟩
          have z175 := V.Fr.size G174
          first | replace F_own := F_own.mb G174 hD_own | clear F_own | skip
          first | replace F_es := F_es.mb G174 hD_es | clear F_es | skip
          first | replace F74 := F74.mv1 G174 (by (try dsimp only [V.In]); first | omega | grind) | clear F74 | skip
          first | replace F93 := F93.ma G174 | clear F93 | skip
          first | replace F99 := F99.ma G174 | clear F99 | skip
          first | replace F112 := F112.mv1 G174 (by (try dsimp only [V.In]); first | omega | grind) | clear F112 | skip
          first | replace F121 := F121.ma G174 | clear F121 | skip
          first | replace F127 := F127.ma G174 | clear F127 | skip
          first | replace F136 := F136.ma G174 | clear F136 | skip
          replace HG := HG.n1 G174
          clear G174
          refine V.run T_ok 5 rfl ?_
          refine V.nil ?_
          refine V.tN ?_
          refine V.seq ?_
          have hG2 := spl_good (d := layV curp prev es) (es := es) hP.2 hP.1
          have hfi := lay_first (d := curp) (prev := prev) (es := es)
          refine V.region ?_
          refine V.call (alive_spec) rfl rfl rfl ?_
          rintro _ w176 ⟨rfl, G177⟩
          have z178 := V.Fr.size G177
          try replace F_own := F_own.gr G177
          try replace F_es := F_es.gr G177
          try replace F74 := F74.gr G177
          try replace F93 := F93.gr G177
          try replace F99 := F99.gr G177
          try replace F121 := F121.gr G177
          try replace F127 := F127.gr G177
          try replace F136 := F136.gr G177
          try replace F170 := F170.gr G177
          replace HG := HG.grow G177
          clear G177
          refine V.run T_ok 4 rfl ?_
          refine V.splitT (j := 4) (t := 202) rfl rfl (by (rw [hG2.1])) ?_
          refine V.run T_ok 4 rfl ?_
          refine V.splitT (j := 8) (t := 206) rfl rfl (by (rw [hG2.2.1, hL.1]; rfl)) ?_
          refine V.run T_ok 3 rfl ?_
          refine V.split (j := 11) (t := 209) rfl rfl (fun g33_11 => ?_) (fun g33_11 => ?_)
          ·
           try replace g33_11 := V.dec g33_11
           try simp only [V.mk0, V.mk1, V.mk2, V.mk3] at g33_11
           refine V.run T_ok 14 rfl ?_
           refine V.nil ?_
           refine V.tN ?_
           refine V.ret ?_
           refine V.done rfl ?_
           exact ⟨congrArg Value.bool (by first | rfl | (rw [hG.2.1] at *; grind)), HG⟩
          ·
           try replace g33_11 := V.dec g33_11
           try simp only [V.mk0, V.mk1, V.mk2, V.mk3] at g33_11
           refine V.run T_ok 4 rfl ?_
           refine V.split (j := 15) (t := 213) rfl rfl (fun g33_15 => ?_) (fun g33_15 => ?_)
           ·
            try replace g33_15 := V.dec g33_15
            try simp only [V.mk0, V.mk1, V.mk2, V.mk3] at g33_15
            refine V.run T_ok 4 rfl ?_
            refine V.yes rfl rfl rfl ?_
            refine V.addN rfl rfl rfl rfl rfl (by first | omega | (simp only [List.length_take, List.length_drop, List.length_append, List.length_cons, List.length_nil, List.length_replicate, List.length_set, V.length_data, V.S_size]; omega)) (by first | omega | (simp only [List.length_take, List.length_drop, List.length_append, List.length_cons, List.length_nil, List.length_replicate, List.length_set, V.length_data, V.S_size]; omega)) ?_
            refine V.run T_ok 5 rfl ?_
            refine V.nil ?_
            refine V.tN ?_
            refine V.ret ?_
            refine V.done rfl ?_
            exact ⟨congrArg Value.bool (by first | rfl | (rw [hG.2.1] at *; grind)), HG⟩
           ·
            try replace g33_15 := V.dec g33_15
            try simp only [V.mk0, V.mk1, V.mk2, V.mk3] at g33_15
            refine V.run T_ok 10 rfl ?_
            refine V.nil ?_
            refine V.tN ?_
            refine V.ret ?_
            refine V.done rfl ?_
            exact ⟨congrArg Value.bool (by first | rfl | (rw [hG.2.1] at *; grind)), HG⟩
      ·
       try replace g18_20 := V.dec g18_20
       try simp only [V.mk0, V.mk1, V.mk2, V.mk3] at g18_20
       refine V.run T_ok 4 rfl ?_
       refine V.nil ?_
       refine V.tN ?_
       refine V.condN rfl rfl ?_
       refine V.skip ?_
       refine V.tN ?_
       refine V.seq ?_
       refine V.seq ?_
       refine V.region ?_
       refine V.run T_ok 3 rfl ?_
       refine V.orG T_ok 3 2 125 rfl rfl rfl rfl rfl rfl rfl rfl ?_
       refine V.run T_ok 1 rfl ?_
       refine V.orG T_ok 2 7 130 rfl rfl rfl rfl rfl rfl rfl rfl ?_
       refine V.nil ?_
       refine V.tN ?_
       refine V.condT rfl (fun h20 => ?_) (fun h20 => ?_)
       ·
        try replace h20 := V.dec h20
        try simp only [V.mk0, V.mk1, V.mk2, V.mk3] at h20
        refine V.seq ?_
        have hnis : isV curp prev = false := Bool.eq_false_iff.2 (fun h => by have := isI.1 h; grind)
        refine V.region ?_
        refine V.call (alive_spec) rfl rfl rfl ?_
        rintro _ w179 ⟨rfl, G180⟩
        have z181 := V.Fr.size G180
        try replace F_own := F_own.gr G180
        try replace F_es := F_es.gr G180
        try replace F74 := F74.gr G180
        try replace F85 := F85.gr G180
        try replace F93 := F93.gr G180
        try replace F99 := F99.gr G180
        replace HG := HG.grow G180
        clear G180
        refine V.run T_ok 5 rfl ?_
        refine V.nil ?_
        refine V.tN ?_
        refine V.ret ?_
        refine V.tR ?_
        refine V.done rfl ?_
        exact ⟨congrArg Value.bool (by rw [hnis]; rfl), HG⟩
       ·
        try replace h20 := V.dec h20
        try simp only [V.mk0, V.mk1, V.mk2, V.mk3] at h20
        refine V.skip ?_
        refine V.tN ?_
        refine V.seq ?_
        obtain ⟨hA1, hA2, hA3⟩ := hA (by omega)
        have hp : curp.base ≤ prev ∧ prev ≤ curp.base + curp.l.length := isI.1 (by grind)
        have hr182 : splV curp prev ((trmV curp prev) + 1) es = curp := hA3
        rw [hr182] at F85
        clear hr182
        refine V.region ?_
        refine V.run T_ok 4 rfl ?_
        refine V.call (splice_spec (prev := prev) (t := (trmV curp prev)) F85 F_es (fun k hk => by have := hD_es k hk; omega) (by first | omega | simp | decide) (by first | omega | simp | decide) (by first | assumption | simp)) rfl rfl rfl ?_
        rintro _ w188 ⟨g183, B184, rfl, F185, h186, h187, G189⟩
        have z190 := V.Fr.size G189
        first | replace F_own := F_own.mb G189 hD_own | clear F_own | skip
        first | replace F_es := F_es.mb G189 hD_es | clear F_es | skip
        first | replace F74 := F74.mv1 G189 (by (try dsimp only [V.In]); first | omega | grind) | clear F74 | skip
        first | replace F85 := F85.mv1 G189 (by (try dsimp only [V.In]); first | omega | grind) | clear F85 | skip
        first | replace F93 := F93.ma G189 | clear F93 | skip
        first | replace F99 := F99.ma G189 | clear F99 | skip
        replace HG := HG.n1 G189
        clear G189
        refine V.run T_ok 5 rfl ?_
        refine V.nil ?_
        refine V.tN ?_
        refine V.seq ?_
        have hG := spl_good (es := es) hp rfl
        have hr191 : splV curp prev (trmV curp prev) es = layV curp prev es := hG.2.2
        rw [hr191] at F185
        clear hr191
        have hT := lay_there (es := es) hp
        have hP := lay_prev (es := es) hp
        have hL := lay_again (es := es) hp
        have hll := lay_lenle (d := curp) (prev := prev) (es := es)
        have hlb : (layV curp prev es).base = 0 := by rw [layV_l.1, hcbp]
        have hF : fromV (layV curp prev es) 1 prev = fromV curp 1 prev := by have h := from_take (d := curp) (d2 := layV curp prev es) (m := prev) layV_l.1 (by omega) (by omega) (lay_take hp _ (by omega)); rw [hcbp] at h; exact h
        refine V.region ?_
        refine V.run T_ok 2 rfl ?_
        refine V.call (from_spec (i := 1) (most := prev) F185) rfl rfl rfl ?_
        rintro _ w195 ⟨a192, c193, rfl, F194, G196⟩
        have z197 := V.Fr.size G196
        try replace F_own := F_own.gr G196
        try replace F_es := F_es.gr G196
        try replace F74 := F74.gr G196
        try replace F93 := F93.gr G196
        try replace F99 := F99.gr G196
        try replace F185 := F185.gr G196
        replace HG := HG.grow G196
        clear G196
        refine V.run T_ok 2 rfl ?_
        refine V.call (from_spec (i := 1) (most := prev) F74) rfl rfl rfl ?_
        rintro _ w201 ⟨a198, c199, rfl, F200, G202⟩
        have z203 := V.Fr.size G202
        try replace F_own := F_own.gr G202
        try replace F_es := F_es.gr G202
        try replace F74 := F74.gr G202
        try replace F93 := F93.gr G202
        try replace F99 := F99.gr G202
        try replace F185 := F185.gr G202
        try replace F194 := F194.gr G202
        replace HG := HG.grow G202
        clear G202
        refine V.call (alike_spec (Sl.entOf F194.sl) (Sl.entOf F200.sl)) rfl rfl rfl ?_
        rintro _ w204 ⟨rfl, G205⟩
        have z206 := V.Fr.size G205
        try replace F_own := F_own.gr G205
        try replace F_es := F_es.gr G205
        try replace F74 := F74.gr G205
        try replace F93 := F93.gr G205
        try replace F99 := F99.gr G205
        try replace F185 := F185.gr G205
        try replace F194 := F194.gr G205
        try replace F200 := F200.gr G205
        replace HG := HG.grow G205
        clear G205
        refine V.run T_ok 1 rfl ?_
        refine V.nil ?_
        refine V.tN ?_
        refine V.seq ?_
        refine V.region ?_
        refine V.run T_ok 2 rfl ?_
        refine V.addN rfl rfl rfl rfl rfl (by first | omega | (simp only [List.length_take, List.length_drop, List.length_append, List.length_cons, List.length_nil, List.length_replicate, List.length_set, V.length_data, V.S_size]; omega)) (by first | omega | (simp only [List.length_take, List.length_drop, List.length_append, List.length_cons, List.length_nil, List.length_replicate, List.length_set, V.length_data, V.S_size]; omega)) ?_
        refine V.run T_ok 2 rfl ?_
        refine V.call (from_spec (i := (prev + 1)) (most := (es.length : Int)) F185) rfl rfl rfl ?_
        rintro _ w210 ⟨a207, c208, rfl, F209, G211⟩
        have z212 := V.Fr.size G211
        try replace F_own := F_own.gr G211
        try replace F_es := F_es.gr G211
        try replace F74 := F74.gr G211
        try replace F93 := F93.gr G211
        try replace F99 := F99.gr G211
        try replace F185 := F185.gr G211
        try replace F194 := F194.gr G211
        try replace F200 := F200.gr G211
        replace HG := HG.grow G211
        clear G211
        refine V.run T_ok 1 rfl ?_
        refine V.nil ?_
        refine V.tN ?_
        refine V.seq ?_
        refine V.seq ?_
        refine V.region ?_
        refine V.run T_ok 3 rfl ?_
        refine V.splitF (j := 2) (t := 162) rfl rfl (by (rw [hG.1]; rfl)) ?_
        refine V.run T_ok 4 rfl ?_
        refine V.splitF (j := 6) (t := 166) rfl rfl (by (rw [hF]; simp)) ?_
        refine V.run T_ok 6 rfl ?_
        refine V.nil ?_
        refine V.tN ?_
        refine V.condN rfl (by (exact decide_eq_false (by rw [hT.1]; simp))) ?_
        refine V.skip ?_
        refine V.tN ?_
        refine V.seq ?_
        refine V.seq ?_
        refine V.region ?_
        refine V.run T_ok 1 rfl ?_
        refine V.nil ?_
        refine V.tN ?_
        refine V.block ?_
        refine V.loopM (fun m e v214 => Fr [] w v214 ∧ w210.heap.size ≤ v214.heap.size ∧ Sl V.Cod.ent v214 D_own a_own c_own own ∧ Sl V.Cod.ent v214 D_es a_es c_es es ∧ Lg v214 k70 g71 B72 (curp) ∧ V.Row V.Cod.oent 29 v214 V.None' w88.heap.size w94.heap.size a91 c92 (fromV (splV curp prev ((trmV curp prev) + 1) es) 1 1000) ∧ V.Row V.Cod.oent 29 v214 V.None' w94.heap.size w100.heap.size a97 c98 (fromV curp 1 1000) ∧ Lg v214 k1 g183 B184 (layV curp prev es) ∧ V.Row V.Cod.oent 29 v214 V.None' w188.heap.size w195.heap.size a192 c193 (fromV (layV curp prev es) 1 prev) ∧ V.Row V.Cod.oent 29 v214 V.None' w195.heap.size w201.heap.size a198 c199 (fromV curp 1 prev) ∧ V.Row V.Cod.oent 29 v214 V.None' w204.heap.size w210.heap.size a207 c208 (fromV (layV curp prev es) (prev + 1) (es.length : Int)) ∧ ∃ (i2 : Nat) , m = es.length - i2 ∧ i2 ≤ es.length ∧ e 1 = .int .i64 prev ∧ e 2 = .slice a_es es.length c_es ∧ e 7 = .pointer (some ⟨k1, 0, none⟩) ∧ e 14 = .int .i64 (trmV curp prev) ∧ e 19 = .int .i64 (splI curp prev (trmV curp prev) es) ∧ e 21 = .slice a207 (fromV (layV curp prev es) (prev + 1) (es.length : Int)).length c208 ∧ e 22 = .int .i64 (i2 : Int)) ?_ ?_
        ·
         exact ⟨_, HG, (by omega), F_own, F_es, F74, F93, F99, F185, F194, F200, F209, (0), rfl, (Nat.zero_le _), rfl, rfl, rfl, rfl, rfl, rfl, rfl⟩
        clear HG F_own F_es F74 F93 F99 F185 F194 F200 F209
        rintro _ e v214 ⟨HG, z215, F_own, F_es, F74, F93, F99, F185, F194, F200, F209, i2, rfl, hi2, he2_1, he2_2, he2_7, he2_14, he2_19, he2_21, he2_22⟩
        refine V.knownC (t := 1) he2_1 ?_
        refine V.knownC (t := 2) he2_2 ?_
        refine V.knownC (t := 7) he2_7 ?_
        refine V.knownC (t := 14) he2_14 ?_
        refine V.knownC (t := 19) he2_19 ?_
        refine V.knownC (t := 21) he2_21 ?_
        refine V.knownC (t := 22) he2_22 ?_
        refine V.seq ?_
        refine V.seq ?_
        refine V.region ?_
        refine V.run T_ok 4 rfl ?_
        refine V.nil ?_
        refine V.tN ?_
        refine V.condT rfl (fun h28 => ?_) (fun h28 => ?_)
        ·
         try replace h28 := V.dec h28
         try simp only [V.mk0, V.mk1, V.mk2, V.mk3] at h28
         refine V.skip ?_
         refine V.tN ?_
         refine V.seq ?_
         refine V.block ?_
         refine V.seq ?_
         refine V.drawQ mixed (by kernel_rfl) ?_
         refine V.qrun T_ok 2 rfl ?_
         refine V.qelem T_ok F209.sl rfl rfl sz29 rfl rfl rfl rfl (by first | omega | (simp only [List.length_take, List.length_drop, List.length_append, List.length_cons, List.length_nil, List.length_replicate, List.length_set, V.length_data, V.S_size]; omega)) (by first | omega | (simp only [List.length_take, List.length_drop, List.length_append, List.length_cons, List.length_nil, List.length_replicate, List.length_set, V.length_data, V.S_size]; omega)) ?_
         rintro b216 o217 cs218 hx219 hb220 hR226 hA221
         obtain ⟨x222, hx222⟩ : ∃ z', (fromV (layV curp prev es) (prev + 1) (es.length : Int))[((i2 : Int)).toNat] = z' := ⟨_, rfl⟩
         rw [hx222] at hR226
         obtain ⟨_, _, rfl, rfl, ⟨a223, c224, rfl, F225⟩⟩ := hR226
         try simp only [Int.toNat_natCast] at hx222 hx219
         refine V.qrun T_ok 1 rfl ?_
         refine V.qloadA T_ok (o0 := o217) (off := 0) hA221 rfl rfl rfl rfl rfl ?_
         refine V.qrun T_ok 2 rfl ?_
         refine V.qelem T_ok F_es rfl rfl sz29 rfl rfl rfl rfl (by first | omega | (simp only [List.length_take, List.length_drop, List.length_append, List.length_cons, List.length_nil, List.length_replicate, List.length_set, V.length_data, V.S_size]; omega)) (by first | omega | (simp only [List.length_take, List.length_drop, List.length_append, List.length_cons, List.length_nil, List.length_replicate, List.length_set, V.length_data, V.S_size]; omega)) ?_
         rintro b227 o228 cs229 hx230 hb231 hR237 hA232
         obtain ⟨x233, hx233⟩ : ∃ z', es[((i2 : Int)).toNat] = z' := ⟨_, rfl⟩
         rw [hx233] at hR237
         obtain ⟨_, _, rfl, rfl, ⟨a234, c235, rfl, F236⟩⟩ := hR237
         try simp only [Int.toNat_natCast] at hx233 hx230
         refine V.qrun T_ok 1 rfl ?_
         refine V.qloadA T_ok (o0 := o228) (off := 0) hA232 rfl rfl rfl rfl rfl ?_
         refine V.qrun T_ok 1 rfl ?_
         refine V.qnil ?_
         rintro w238 G239
         have z240 := V.Fr.size G239
         try replace F_own := F_own.gr G239
         try replace F_es := F_es.gr G239
         try replace F74 := F74.gr G239
         try replace F93 := F93.gr G239
         try replace F99 := F99.gr G239
         try replace F185 := F185.gr G239
         try replace F194 := F194.gr G239
         try replace F200 := F200.gr G239
         try replace F209 := F209.gr G239
         try replace F225 := F225.gr G239
         try replace F236 := F236.gr G239
         replace HG := HG.grow G239
         clear G239
         refine V.tN ?_
         refine V.condT rfl (fun h30 => ?_) (fun h30 => ?_)
         ·
          try replace h30 := V.dec h30
          try simp only [V.mk0, V.mk1, V.mk2, V.mk3] at h30
          refine V.seq ?_
          refine V.region ?_
          refine V.run T_ok 1 rfl ?_
          refine V.nil ?_
          refine V.tN ?_
          refine V.ret ?_
          refine V.bR ?_
          refine V.tR ?_
          refine V.tR ?_
          refine V.bR ?_
          refine V.tR ?_
          refine V.done rfl ?_
          exfalso
          have := hT.2 i2 (by omega) (by omega)
          rw [hx222, hx233] at this
          omega
         ·
          try replace h30 := V.dec h30
          try simp only [V.mk0, V.mk1, V.mk2, V.mk3] at h30
          refine V.skip ?_
          refine V.bN ?_
          refine V.tN ?_
          refine V.region ?_
          refine V.run T_ok 1 rfl ?_
          refine V.addN rfl rfl rfl rfl rfl (by first | omega | (simp only [List.length_take, List.length_drop, List.length_append, List.length_cons, List.length_nil, List.length_replicate, List.length_set, V.length_data, V.S_size]; omega)) (by first | omega | (simp only [List.length_take, List.length_drop, List.length_append, List.length_cons, List.length_nil, List.length_replicate, List.length_set, V.length_data, V.S_size]; omega)) ?_
          refine V.run T_ok 1 rfl ?_
          refine V.nil ?_
          refine V.tN ?_
          exact ⟨_, (by omega), HG, (by omega), F_own, F_es, F74, F93, F99, F185, F194, F200, F209, (i2 + 1), rfl, (by omega), rfl, rfl, rfl, rfl, rfl, rfl, rfl⟩
        ·
         try replace h28 := V.dec h28
         try simp only [V.mk0, V.mk1, V.mk2, V.mk3] at h28
         refine V.exit ?_
         refine V.tX ?_
         refine V.tX ?_
         refine V.bE ?_
         refine V.tN ?_
         refine V.seq ?_
         refine V.region ?_
         refine V.run T_ok 4 rfl ?_
         refine V.call (splice_spec (prev := prev) (t := (trmV curp prev)) F185 F_es (fun k hk => by have := hD_es k hk; omega) (by first | omega | simp | decide) (by first | omega | simp | decide) (by first | assumption | simp)) rfl rfl rfl ?_
         rintro _ w246 ⟨g241, B242, rfl, F243, h244, h245, G247⟩
         have z248 := V.Fr.size G247
         first | replace F_own := F_own.mb G247 hD_own | clear F_own | skip
         first | replace F_es := F_es.mb G247 hD_es | clear F_es | skip
         first | replace F74 := F74.mv1 G247 (by (try dsimp only [V.In]); first | omega | grind) | clear F74 | skip
         first | replace F93 := F93.ma G247 | clear F93 | skip
         first | replace F99 := F99.ma G247 | clear F99 | skip
         first | replace F185 := F185.mv1 G247 (by (try dsimp only [V.In]); first | omega | grind) | clear F185 | skip
         first | replace F194 := F194.ma G247 | clear F194 | skip
         first | replace F200 := F200.ma G247 | clear F200 | skip
         first | replace F209 := F209.ma G247 | clear F209 | skip
         replace HG := HG.n1 G247
         clear G247
         refine V.run T_ok 5 rfl ?_
         refine V.nil ?_
         refine V.tN ?_
         refine V.seq ?_
         have hG2 := spl_good (d := layV curp prev es) (es := es) hP.2 hP.1
         have hfi := lay_first (d := curp) (prev := prev) (es := es)
         refine V.region ?_
         refine V.call (alive_spec) rfl rfl rfl ?_
         rintro _ w249 ⟨rfl, G250⟩
         have z251 := V.Fr.size G250
         try replace F_own := F_own.gr G250
         try replace F_es := F_es.gr G250
         try replace F74 := F74.gr G250
         try replace F93 := F93.gr G250
         try replace F99 := F99.gr G250
         try replace F194 := F194.gr G250
         try replace F200 := F200.gr G250
         try replace F209 := F209.gr G250
         try replace F243 := F243.gr G250
         replace HG := HG.grow G250
         clear G250
         refine V.run T_ok 4 rfl ?_
         refine V.splitT (j := 4) (t := 202) rfl rfl (by (rw [hG2.1])) ?_
         refine V.run T_ok 4 rfl ?_
         refine V.splitT (j := 8) (t := 206) rfl rfl (by (rw [hG2.2.1, hL.1]; rfl)) ?_
         refine V.run T_ok 3 rfl ?_
         refine V.split (j := 11) (t := 209) rfl rfl (fun g33_11 => ?_) (fun g33_11 => ?_)
         ·
          try replace g33_11 := V.dec g33_11
          try simp only [V.mk0, V.mk1, V.mk2, V.mk3] at g33_11
          refine V.run T_ok 14 rfl ?_
          refine V.nil ?_
          refine V.tN ?_
          refine V.ret ?_
          refine V.done rfl ?_
          exact ⟨congrArg Value.bool (by first | rfl | (rw [hG.2.1] at *; grind)), HG⟩
         ·
          try replace g33_11 := V.dec g33_11
          try simp only [V.mk0, V.mk1, V.mk2, V.mk3] at g33_11
          refine V.run T_ok 4 rfl ?_
          refine V.split (j := 15) (t := 213) rfl rfl (fun g33_15 => ?_) (fun g33_15 => ?_)
          ·
           try replace g33_15 := V.dec g33_15
           try simp only [V.mk0, V.mk1, V.mk2, V.mk3] at g33_15
           refine V.run T_ok 4 rfl ?_
           refine V.yes rfl rfl rfl ?_
           refine V.addN rfl rfl rfl rfl rfl (by first | omega | (simp only [List.length_take, List.length_drop, List.length_append, List.length_cons, List.length_nil, List.length_replicate, List.length_set, V.length_data, V.S_size]; omega)) (by first | omega | (simp only [List.length_take, List.length_drop, List.length_append, List.length_cons, List.length_nil, List.length_replicate, List.length_set, V.length_data, V.S_size]; omega)) ?_
           refine V.run T_ok 5 rfl ?_
           refine V.nil ?_
           refine V.tN ?_
           refine V.ret ?_
           refine V.done rfl ?_
           exact ⟨congrArg Value.bool (by first | rfl | (rw [hG.2.1] at *; grind)), HG⟩
          ·
           try replace g33_15 := V.dec g33_15
           try simp only [V.mk0, V.mk1, V.mk2, V.mk3] at g33_15
           refine V.run T_ok 10 rfl ?_
           refine V.nil ?_
           refine V.tN ?_
           refine V.ret ?_
           refine V.done rfl ?_
           exact ⟨congrArg Value.bool (by first | rfl | (rw [hG.2.1] at *; grind)), HG⟩
   ·
    try replace g18_5 := V.dec g18_5
    try simp only [V.mk0, V.mk1, V.mk2, V.mk3] at g18_5
    refine V.run T_ok 9 rfl ?_
    refine V.yes rfl rfl rfl ?_
    refine V.call (from_spec (i := 1) (most := 1000) F85) rfl rfl rfl ?_
    rintro _ w255 ⟨a252, c253, rfl, F254, G256⟩
    have z257 := V.Fr.size G256
    try replace F_own := F_own.gr G256
    try replace F_es := F_es.gr G256
    try replace F74 := F74.gr G256
    try replace F85 := F85.gr G256
    replace HG := HG.grow G256
    clear G256
    refine V.run T_ok 1 rfl ?_
    refine V.yes rfl rfl rfl ?_
    refine V.call (from_spec (i := 1) (most := 1000) F74) rfl rfl rfl ?_
    rintro _ w261 ⟨a258, c259, rfl, F260, G262⟩
    have z263 := V.Fr.size G262
    try replace F_own := F_own.gr G262
    try replace F_es := F_es.gr G262
    try replace F74 := F74.gr G262
    try replace F85 := F85.gr G262
    try replace F254 := F254.gr G262
    replace HG := HG.grow G262
    clear G262
    refine V.yes rfl rfl rfl ?_
    refine V.call (alike_spec (Sl.entOf F254.sl) (Sl.entOf F260.sl)) rfl rfl rfl ?_
    rintro _ w264 ⟨rfl, G265⟩
    have z266 := V.Fr.size G265
    try replace F_own := F_own.gr G265
    try replace F_es := F_es.gr G265
    try replace F74 := F74.gr G265
    try replace F85 := F85.gr G265
    try replace F254 := F254.gr G265
    try replace F260 := F260.gr G265
    replace HG := HG.grow G265
    clear G265
    refine V.run T_ok 2 rfl ?_
    refine V.split (j := 20) (t := 118) rfl rfl (fun g18_20 => ?_) (fun g18_20 => ?_)
    ·
     try replace g18_20 := V.dec g18_20
     try simp only [V.mk0, V.mk1, V.mk2, V.mk3] at g18_20
     refine V.run T_ok 4 rfl ?_
     refine V.nil ?_
     refine V.tN ?_
     refine V.condT rfl (fun h18 => ?_) (fun h18 => ?_)
     ·
      try replace h18 := V.dec h18
      try simp only [V.mk0, V.mk1, V.mk2, V.mk3] at h18
      refine V.seq ?_
      refine V.region ?_
      refine V.run T_ok 1 rfl ?_
      refine V.nil ?_
      refine V.tN ?_
      refine V.ret ?_
      refine V.tR ?_
      refine V.done rfl ?_
      exfalso
      obtain ⟨hA1, hA2, hA3⟩ := hA (by omega)
      simp_all
     ·
      try replace h18 := V.dec h18
      try simp only [V.mk0, V.mk1, V.mk2, V.mk3] at h18
      refine V.skip ?_
      refine V.tN ?_
      refine V.seq ?_
      refine V.seq ?_
      refine V.region ?_
      refine V.run T_ok 3 rfl ?_
      refine V.orG T_ok 3 2 125 rfl rfl rfl rfl rfl rfl rfl rfl ?_
      refine V.run T_ok 1 rfl ?_
      refine V.orG T_ok 2 7 130 rfl rfl rfl rfl rfl rfl rfl rfl ?_
      refine V.nil ?_
      refine V.tN ?_
      refine V.condT rfl (fun h20 => ?_) (fun h20 => ?_)
      ·
       try replace h20 := V.dec h20
       try simp only [V.mk0, V.mk1, V.mk2, V.mk3] at h20
       refine V.seq ?_
       have hnis : isV curp prev = false := Bool.eq_false_iff.2 (fun h => by have := isI.1 h; grind)
       refine V.region ?_
       refine V.call (alive_spec) rfl rfl rfl ?_
       rintro _ w267 ⟨rfl, G268⟩
       have z269 := V.Fr.size G268
       try replace F_own := F_own.gr G268
       try replace F_es := F_es.gr G268
       try replace F74 := F74.gr G268
       try replace F85 := F85.gr G268
       try replace F254 := F254.gr G268
       try replace F260 := F260.gr G268
       replace HG := HG.grow G268
       clear G268
       refine V.run T_ok 5 rfl ?_
       refine V.nil ?_
       refine V.tN ?_
       refine V.ret ?_
       refine V.tR ?_
       refine V.done rfl ?_
       exact ⟨congrArg Value.bool (by rw [hnis]; rfl), HG⟩
      ·
       try replace h20 := V.dec h20
       try simp only [V.mk0, V.mk1, V.mk2, V.mk3] at h20
       refine V.skip ?_
       refine V.tN ?_
       refine V.seq ?_
       obtain ⟨hA1, hA2, hA3⟩ := hA (by omega)
       have hp : curp.base ≤ prev ∧ prev ≤ curp.base + curp.l.length := isI.1 (by grind)
       have hr270 : splV curp prev ((trmV curp prev) + 1) es = curp := hA3
       rw [hr270] at F85
       clear hr270
       refine V.region ?_
       refine V.run T_ok 4 rfl ?_
       refine V.call (splice_spec (prev := prev) (t := (trmV curp prev)) F85 F_es (fun k hk => by have := hD_es k hk; omega) (by first | omega | simp | decide) (by first | omega | simp | decide) (by first | assumption | simp)) rfl rfl rfl ?_
       rintro _ w276 ⟨g271, B272, rfl, F273, h274, h275, G277⟩
       have z278 := V.Fr.size G277
       first | replace F_own := F_own.mb G277 hD_own | clear F_own | skip
       first | replace F_es := F_es.mb G277 hD_es | clear F_es | skip
       first | replace F74 := F74.mv1 G277 (by (try dsimp only [V.In]); first | omega | grind) | clear F74 | skip
       first | replace F85 := F85.mv1 G277 (by (try dsimp only [V.In]); first | omega | grind) | clear F85 | skip
       first | replace F254 := F254.ma G277 | clear F254 | skip
       first | replace F260 := F260.ma G277 | clear F260 | skip
       replace HG := HG.n1 G277
       clear G277
       refine V.run T_ok 5 rfl ?_
       refine V.nil ?_
       refine V.tN ?_
       refine V.seq ?_
       have hG := spl_good (es := es) hp rfl
       have hr279 : splV curp prev (trmV curp prev) es = layV curp prev es := hG.2.2
       rw [hr279] at F273
       clear hr279
       have hT := lay_there (es := es) hp
       have hP := lay_prev (es := es) hp
       have hL := lay_again (es := es) hp
       have hll := lay_lenle (d := curp) (prev := prev) (es := es)
       have hlb : (layV curp prev es).base = 0 := by rw [layV_l.1, hcbp]
       have hF : fromV (layV curp prev es) 1 prev = fromV curp 1 prev := by have h := from_take (d := curp) (d2 := layV curp prev es) (m := prev) layV_l.1 (by omega) (by omega) (lay_take hp _ (by omega)); rw [hcbp] at h; exact h
       refine V.region ?_
       refine V.run T_ok 2 rfl ?_
       refine V.call (from_spec (i := 1) (most := prev) F273) rfl rfl rfl ?_
       rintro _ w283 ⟨a280, c281, rfl, F282, G284⟩
       have z285 := V.Fr.size G284
       try replace F_own := F_own.gr G284
       try replace F_es := F_es.gr G284
       try replace F74 := F74.gr G284
       try replace F254 := F254.gr G284
       try replace F260 := F260.gr G284
       try replace F273 := F273.gr G284
       replace HG := HG.grow G284
       clear G284
       refine V.run T_ok 2 rfl ?_
       refine V.call (from_spec (i := 1) (most := prev) F74) rfl rfl rfl ?_
       rintro _ w289 ⟨a286, c287, rfl, F288, G290⟩
       have z291 := V.Fr.size G290
       try replace F_own := F_own.gr G290
       try replace F_es := F_es.gr G290
       try replace F74 := F74.gr G290
       try replace F254 := F254.gr G290
       try replace F260 := F260.gr G290
       try replace F273 := F273.gr G290
       try replace F282 := F282.gr G290
       replace HG := HG.grow G290
       clear G290
       refine V.call (alike_spec (Sl.entOf F282.sl) (Sl.entOf F288.sl)) rfl rfl rfl ?_
       rintro _ w292 ⟨rfl, G293⟩
       have z294 := V.Fr.size G293
       try replace F_own := F_own.gr G293
       try replace F_es := F_es.gr G293
       try replace F74 := F74.gr G293
       try replace F254 := F254.gr G293
       try replace F260 := F260.gr G293
       try replace F273 := F273.gr G293
       try replace F282 := F282.gr G293
       try replace F288 := F288.gr G293
       replace HG := HG.grow G293
       clear G293
       refine V.run T_ok 1 rfl ?_
       refine V.nil ?_
       refine V.tN ?_
       refine V.seq ?_
       refine V.region ?_
       refine V.run T_ok 2 rfl ?_
       refine V.addN rfl rfl rfl rfl rfl (by first | omega | (simp only [List.length_take, List.length_drop, List.length_append, List.length_cons, List.length_nil, List.length_replicate, List.length_set, V.length_data, V.S_size]; omega)) (by first | omega | (simp only [List.length_take, List.length_drop, List.length_append, List.length_cons, List.length_nil, List.length_replicate, List.length_set, V.length_data, V.S_size]; omega)) ?_
       refine V.run T_ok 2 rfl ?_
       refine V.call (from_spec (i := (prev + 1)) (most := (es.length : Int)) F273) rfl rfl rfl ?_
       rintro _ w298 ⟨a295, c296, rfl, F297, G299⟩
       have z300 := V.Fr.size G299
       try replace F_own := F_own.gr G299
       try replace F_es := F_es.gr G299
       try replace F74 := F74.gr G299
       try replace F254 := F254.gr G299
       try replace F260 := F260.gr G299
       try replace F273 := F273.gr G299
       try replace F282 := F282.gr G299
       try replace F288 := F288.gr G299
       replace HG := HG.grow G299
       clear G299
       refine V.run T_ok 1 rfl ?_
       refine V.nil ?_
       refine V.tN ?_
       refine V.seq ?_
       refine V.seq ?_
       refine V.region ?_
       refine V.run T_ok 3 rfl ?_
       refine V.splitF (j := 2) (t := 162) rfl rfl (by (rw [hG.1]; rfl)) ?_
       refine V.run T_ok 4 rfl ?_
       refine V.splitF (j := 6) (t := 166) rfl rfl (by (rw [hF]; simp)) ?_
       refine V.run T_ok 6 rfl ?_
       refine V.nil ?_
       refine V.tN ?_
       refine V.condN rfl (by (exact decide_eq_false (by rw [hT.1]; simp))) ?_
       refine V.skip ?_
       refine V.tN ?_
       refine V.seq ?_
       refine V.seq ?_
       refine V.region ?_
       refine V.run T_ok 1 rfl ?_
       refine V.nil ?_
       refine V.tN ?_
       refine V.block ?_
       refine V.loopM (fun m e v302 => Fr [] w v302 ∧ w298.heap.size ≤ v302.heap.size ∧ Sl V.Cod.ent v302 D_own a_own c_own own ∧ Sl V.Cod.ent v302 D_es a_es c_es es ∧ Lg v302 k70 g71 B72 (curp) ∧ V.Row V.Cod.oent 29 v302 V.None' w88.heap.size w255.heap.size a252 c253 (fromV (splV curp prev ((trmV curp prev) + 1) es) 1 1000) ∧ V.Row V.Cod.oent 29 v302 V.None' w255.heap.size w261.heap.size a258 c259 (fromV curp 1 1000) ∧ Lg v302 k1 g271 B272 (layV curp prev es) ∧ V.Row V.Cod.oent 29 v302 V.None' w276.heap.size w283.heap.size a280 c281 (fromV (layV curp prev es) 1 prev) ∧ V.Row V.Cod.oent 29 v302 V.None' w283.heap.size w289.heap.size a286 c287 (fromV curp 1 prev) ∧ V.Row V.Cod.oent 29 v302 V.None' w292.heap.size w298.heap.size a295 c296 (fromV (layV curp prev es) (prev + 1) (es.length : Int)) ∧ ∃ (i2 : Nat) , m = es.length - i2 ∧ i2 ≤ es.length ∧ e 1 = .int .i64 prev ∧ e 2 = .slice a_es es.length c_es ∧ e 7 = .pointer (some ⟨k1, 0, none⟩) ∧ e 14 = .int .i64 (trmV curp prev) ∧ e 19 = .int .i64 (splI curp prev (trmV curp prev) es) ∧ e 21 = .slice a295 (fromV (layV curp prev es) (prev + 1) (es.length : Int)).length c296 ∧ e 22 = .int .i64 (i2 : Int)) ?_ ?_
       ·
        exact ⟨_, HG, (by omega), F_own, F_es, F74, F254, F260, F273, F282, F288, F297, (0), rfl, (Nat.zero_le _), rfl, rfl, rfl, rfl, rfl, rfl, rfl⟩
       clear HG F_own F_es F74 F254 F260 F273 F282 F288 F297
       rintro _ e v302 ⟨HG, z303, F_own, F_es, F74, F254, F260, F273, F282, F288, F297, i2, rfl, hi2, he2_1, he2_2, he2_7, he2_14, he2_19, he2_21, he2_22⟩
       refine V.knownC (t := 1) he2_1 ?_
       refine V.knownC (t := 2) he2_2 ?_
       refine V.knownC (t := 7) he2_7 ?_
       refine V.knownC (t := 14) he2_14 ?_
       refine V.knownC (t := 19) he2_19 ?_
       refine V.knownC (t := 21) he2_21 ?_
       refine V.knownC (t := 22) he2_22 ?_
       refine V.seq ?_
       refine V.seq ?_
       refine V.region ?_
       refine V.run T_ok 4 rfl ?_
       refine V.nil ?_
       refine V.tN ?_
       refine V.condT rfl (fun h28 => ?_) (fun h28 => ?_)
       ·
        try replace h28 := V.dec h28
        try simp only [V.mk0, V.mk1, V.mk2, V.mk3] at h28
        refine V.skip ?_
        refine V.tN ?_
        refine V.seq ?_
        refine V.block ?_
        refine V.seq ?_
        refine V.drawQ mixed (by kernel_rfl) ?_
        refine V.qrun T_ok 2 rfl ?_
        refine V.qelem T_ok F297.sl rfl rfl sz29 rfl rfl rfl rfl (by first | omega | (simp only [List.length_take, List.length_drop, List.length_append, List.length_cons, List.length_nil, List.length_replicate, List.length_set, V.length_data, V.S_size]; omega)) (by first | omega | (simp only [List.length_take, List.length_drop, List.length_append, List.length_cons, List.length_nil, List.length_replicate, List.length_set, V.length_data, V.S_size]; omega)) ?_
        rintro b304 o305 cs306 hx307 hb308 hR314 hA309
        obtain ⟨x310, hx310⟩ : ∃ z', (fromV (layV curp prev es) (prev + 1) (es.length : Int))[((i2 : Int)).toNat] = z' := ⟨_, rfl⟩
        rw [hx310] at hR314
        obtain ⟨_, _, rfl, rfl, ⟨a311, c312, rfl, F313⟩⟩ := hR314
        try simp only [Int.toNat_natCast] at hx310 hx307
        refine V.qrun T_ok 1 rfl ?_
        refine V.qloadA T_ok (o0 := o305) (off := 0) hA309 rfl rfl rfl rfl rfl ?_
        refine V.qrun T_ok 2 rfl ?_
        refine V.qelem T_ok F_es rfl rfl sz29 rfl rfl rfl rfl (by first | omega | (simp only [List.length_take, List.length_drop, List.length_append, List.length_cons, List.length_nil, List.length_replicate, List.length_set, V.length_data, V.S_size]; omega)) (by first | omega | (simp only [List.length_take, List.length_drop, List.length_append, List.length_cons, List.length_nil, List.length_replicate, List.length_set, V.length_data, V.S_size]; omega)) ?_
        rintro b315 o316 cs317 hx318 hb319 hR325 hA320
        obtain ⟨x321, hx321⟩ : ∃ z', es[((i2 : Int)).toNat] = z' := ⟨_, rfl⟩
        rw [hx321] at hR325
        obtain ⟨_, _, rfl, rfl, ⟨a322, c323, rfl, F324⟩⟩ := hR325
        try simp only [Int.toNat_natCast] at hx321 hx318
        refine V.qrun T_ok 1 rfl ?_
        refine V.qloadA T_ok (o0 := o316) (off := 0) hA320 rfl rfl rfl rfl rfl ?_
        refine V.qrun T_ok 1 rfl ?_
        refine V.qnil ?_
        rintro w326 G327
        have z328 := V.Fr.size G327
        try replace F_own := F_own.gr G327
        try replace F_es := F_es.gr G327
        try replace F74 := F74.gr G327
        try replace F254 := F254.gr G327
        try replace F260 := F260.gr G327
        try replace F273 := F273.gr G327
        try replace F282 := F282.gr G327
        try replace F288 := F288.gr G327
        try replace F297 := F297.gr G327
        try replace F313 := F313.gr G327
        try replace F324 := F324.gr G327
        replace HG := HG.grow G327
        clear G327
        refine V.tN ?_
        refine V.condT rfl (fun h30 => ?_) (fun h30 => ?_)
        ·
         try replace h30 := V.dec h30
         try simp only [V.mk0, V.mk1, V.mk2, V.mk3] at h30
         refine V.seq ?_
         refine V.region ?_
         refine V.run T_ok 1 rfl ?_
         refine V.nil ?_
         refine V.tN ?_
         refine V.ret ?_
         refine V.bR ?_
         refine V.tR ?_
         refine V.tR ?_
         refine V.bR ?_
         refine V.tR ?_
         refine V.done rfl ?_
         exfalso
         have := hT.2 i2 (by omega) (by omega)
         rw [hx310, hx321] at this
         omega
        ·
         try replace h30 := V.dec h30
         try simp only [V.mk0, V.mk1, V.mk2, V.mk3] at h30
         refine V.skip ?_
         refine V.bN ?_
         refine V.tN ?_
         refine V.region ?_
         refine V.run T_ok 1 rfl ?_
         refine V.addN rfl rfl rfl rfl rfl (by first | omega | (simp only [List.length_take, List.length_drop, List.length_append, List.length_cons, List.length_nil, List.length_replicate, List.length_set, V.length_data, V.S_size]; omega)) (by first | omega | (simp only [List.length_take, List.length_drop, List.length_append, List.length_cons, List.length_nil, List.length_replicate, List.length_set, V.length_data, V.S_size]; omega)) ?_
         refine V.run T_ok 1 rfl ?_
         refine V.nil ?_
         refine V.tN ?_
         exact ⟨_, (by omega), HG, (by omega), F_own, F_es, F74, F254, F260, F273, F282, F288, F297, (i2 + 1), rfl, (by omega), rfl, rfl, rfl, rfl, rfl, rfl, rfl⟩
       ·
        try replace h28 := V.dec h28
        try simp only [V.mk0, V.mk1, V.mk2, V.mk3] at h28
        refine V.exit ?_
        refine V.tX ?_
        refine V.tX ?_
        refine V.bE ?_
        refine V.tN ?_
        refine V.seq ?_
        refine V.region ?_
        refine V.run T_ok 4 rfl ?_
        refine V.call (splice_spec (prev := prev) (t := (trmV curp prev)) F273 F_es (fun k hk => by have := hD_es k hk; omega) (by first | omega | simp | decide) (by first | omega | simp | decide) (by first | assumption | simp)) rfl rfl rfl ?_
        rintro _ w334 ⟨g329, B330, rfl, F331, h332, h333, G335⟩
        have z336 := V.Fr.size G335
        first | replace F_own := F_own.mb G335 hD_own | clear F_own | skip
        first | replace F_es := F_es.mb G335 hD_es | clear F_es | skip
        first | replace F74 := F74.mv1 G335 (by (try dsimp only [V.In]); first | omega | grind) | clear F74 | skip
        first | replace F254 := F254.ma G335 | clear F254 | skip
        first | replace F260 := F260.ma G335 | clear F260 | skip
        first | replace F273 := F273.mv1 G335 (by (try dsimp only [V.In]); first | omega | grind) | clear F273 | skip
        first | replace F282 := F282.ma G335 | clear F282 | skip
        first | replace F288 := F288.ma G335 | clear F288 | skip
        first | replace F297 := F297.ma G335 | clear F297 | skip
        replace HG := HG.n1 G335
        clear G335
        refine V.run T_ok 5 rfl ?_
        refine V.nil ?_
        refine V.tN ?_
        refine V.seq ?_
        have hG2 := spl_good (d := layV curp prev es) (es := es) hP.2 hP.1
        have hfi := lay_first (d := curp) (prev := prev) (es := es)
        refine V.region ?_
        refine V.call (alive_spec) rfl rfl rfl ?_
        rintro _ w337 ⟨rfl, G338⟩
        have z339 := V.Fr.size G338
        try replace F_own := F_own.gr G338
        try replace F_es := F_es.gr G338
        try replace F74 := F74.gr G338
        try replace F254 := F254.gr G338
        try replace F260 := F260.gr G338
        try replace F282 := F282.gr G338
        try replace F288 := F288.gr G338
        try replace F297 := F297.gr G338
        try replace F331 := F331.gr G338
        replace HG := HG.grow G338
        clear G338
        refine V.run T_ok 4 rfl ?_
        refine V.splitT (j := 4) (t := 202) rfl rfl (by (rw [hG2.1])) ?_
        refine V.run T_ok 4 rfl ?_
        refine V.splitT (j := 8) (t := 206) rfl rfl (by (rw [hG2.2.1, hL.1]; rfl)) ?_
        refine V.run T_ok 3 rfl ?_
        refine V.split (j := 11) (t := 209) rfl rfl (fun g33_11 => ?_) (fun g33_11 => ?_)
        ·
         try replace g33_11 := V.dec g33_11
         try simp only [V.mk0, V.mk1, V.mk2, V.mk3] at g33_11
         refine V.run T_ok 14 rfl ?_
         refine V.nil ?_
         refine V.tN ?_
         refine V.ret ?_
         refine V.done rfl ?_
         exact ⟨congrArg Value.bool (by first | rfl | (rw [hG.2.1] at *; grind)), HG⟩
        ·
         try replace g33_11 := V.dec g33_11
         try simp only [V.mk0, V.mk1, V.mk2, V.mk3] at g33_11
         refine V.run T_ok 4 rfl ?_
         refine V.split (j := 15) (t := 213) rfl rfl (fun g33_15 => ?_) (fun g33_15 => ?_)
         ·
          try replace g33_15 := V.dec g33_15
          try simp only [V.mk0, V.mk1, V.mk2, V.mk3] at g33_15
          refine V.run T_ok 4 rfl ?_
          refine V.yes rfl rfl rfl ?_
          refine V.addN rfl rfl rfl rfl rfl (by first | omega | (simp only [List.length_take, List.length_drop, List.length_append, List.length_cons, List.length_nil, List.length_replicate, List.length_set, V.length_data, V.S_size]; omega)) (by first | omega | (simp only [List.length_take, List.length_drop, List.length_append, List.length_cons, List.length_nil, List.length_replicate, List.length_set, V.length_data, V.S_size]; omega)) ?_
          refine V.run T_ok 5 rfl ?_
          refine V.nil ?_
          refine V.tN ?_
          refine V.ret ?_
          refine V.done rfl ?_
          exact ⟨congrArg Value.bool (by first | rfl | (rw [hG.2.1] at *; grind)), HG⟩
         ·
          try replace g33_15 := V.dec g33_15
          try simp only [V.mk0, V.mk1, V.mk2, V.mk3] at g33_15
          refine V.run T_ok 10 rfl ?_
          refine V.nil ?_
          refine V.tN ?_
          refine V.ret ?_
          refine V.done rfl ?_
          exact ⟨congrArg Value.bool (by first | rfl | (rw [hG.2.1] at *; grind)), HG⟩
    ·
     try replace g18_20 := V.dec g18_20
     try simp only [V.mk0, V.mk1, V.mk2, V.mk3] at g18_20
     refine V.run T_ok 4 rfl ?_
     refine V.nil ?_
     refine V.tN ?_
     refine V.condN rfl rfl ?_
     refine V.skip ?_
     refine V.tN ?_
     refine V.seq ?_
     refine V.seq ?_
     refine V.region ?_
     refine V.run T_ok 3 rfl ?_
     refine V.orG T_ok 3 2 125 rfl rfl rfl rfl rfl rfl rfl rfl ?_
     refine V.run T_ok 1 rfl ?_
     refine V.orG T_ok 2 7 130 rfl rfl rfl rfl rfl rfl rfl rfl ?_
     refine V.nil ?_
     refine V.tN ?_
     refine V.condT rfl (fun h20 => ?_) (fun h20 => ?_)
     ·
      try replace h20 := V.dec h20
      try simp only [V.mk0, V.mk1, V.mk2, V.mk3] at h20
      refine V.seq ?_
      have hnis : isV curp prev = false := Bool.eq_false_iff.2 (fun h => by have := isI.1 h; grind)
      refine V.region ?_
      refine V.call (alive_spec) rfl rfl rfl ?_
      rintro _ w340 ⟨rfl, G341⟩
      have z342 := V.Fr.size G341
      try replace F_own := F_own.gr G341
      try replace F_es := F_es.gr G341
      try replace F74 := F74.gr G341
      try replace F85 := F85.gr G341
      try replace F254 := F254.gr G341
      try replace F260 := F260.gr G341
      replace HG := HG.grow G341
      clear G341
      refine V.run T_ok 5 rfl ?_
      refine V.nil ?_
      refine V.tN ?_
      refine V.ret ?_
      refine V.tR ?_
      refine V.done rfl ?_
      exact ⟨congrArg Value.bool (by rw [hnis]; rfl), HG⟩
     ·
      try replace h20 := V.dec h20
      try simp only [V.mk0, V.mk1, V.mk2, V.mk3] at h20
      refine V.skip ?_
      refine V.tN ?_
      refine V.seq ?_
      obtain ⟨hA1, hA2, hA3⟩ := hA (by omega)
      have hp : curp.base ≤ prev ∧ prev ≤ curp.base + curp.l.length := isI.1 (by grind)
      have hr343 : splV curp prev ((trmV curp prev) + 1) es = curp := hA3
      rw [hr343] at F85
      clear hr343
      refine V.region ?_
      refine V.run T_ok 4 rfl ?_
      refine V.call (splice_spec (prev := prev) (t := (trmV curp prev)) F85 F_es (fun k hk => by have := hD_es k hk; omega) (by first | omega | simp | decide) (by first | omega | simp | decide) (by first | assumption | simp)) rfl rfl rfl ?_
      rintro _ w349 ⟨g344, B345, rfl, F346, h347, h348, G350⟩
      have z351 := V.Fr.size G350
      first | replace F_own := F_own.mb G350 hD_own | clear F_own | skip
      first | replace F_es := F_es.mb G350 hD_es | clear F_es | skip
      first | replace F74 := F74.mv1 G350 (by (try dsimp only [V.In]); first | omega | grind) | clear F74 | skip
      first | replace F85 := F85.mv1 G350 (by (try dsimp only [V.In]); first | omega | grind) | clear F85 | skip
      first | replace F254 := F254.ma G350 | clear F254 | skip
      first | replace F260 := F260.ma G350 | clear F260 | skip
      replace HG := HG.n1 G350
      clear G350
      refine V.run T_ok 5 rfl ?_
      refine V.nil ?_
      refine V.tN ?_
      refine V.seq ?_
      have hG := spl_good (es := es) hp rfl
      have hr352 : splV curp prev (trmV curp prev) es = layV curp prev es := hG.2.2
      rw [hr352] at F346
      clear hr352
      have hT := lay_there (es := es) hp
      have hP := lay_prev (es := es) hp
      have hL := lay_again (es := es) hp
      have hll := lay_lenle (d := curp) (prev := prev) (es := es)
      have hlb : (layV curp prev es).base = 0 := by rw [layV_l.1, hcbp]
      have hF : fromV (layV curp prev es) 1 prev = fromV curp 1 prev := by have h := from_take (d := curp) (d2 := layV curp prev es) (m := prev) layV_l.1 (by omega) (by omega) (lay_take hp _ (by omega)); rw [hcbp] at h; exact h
      refine V.region ?_
      refine V.run T_ok 2 rfl ?_
      refine V.call (from_spec (i := 1) (most := prev) F346) rfl rfl rfl ?_
      rintro _ w356 ⟨a353, c354, rfl, F355, G357⟩
      have z358 := V.Fr.size G357
      try replace F_own := F_own.gr G357
      try replace F_es := F_es.gr G357
      try replace F74 := F74.gr G357
      try replace F254 := F254.gr G357
      try replace F260 := F260.gr G357
      try replace F346 := F346.gr G357
      replace HG := HG.grow G357
      clear G357
      refine V.run T_ok 2 rfl ?_
      refine V.call (from_spec (i := 1) (most := prev) F74) rfl rfl rfl ?_
      rintro _ w362 ⟨a359, c360, rfl, F361, G363⟩
      have z364 := V.Fr.size G363
      try replace F_own := F_own.gr G363
      try replace F_es := F_es.gr G363
      try replace F74 := F74.gr G363
      try replace F254 := F254.gr G363
      try replace F260 := F260.gr G363
      try replace F346 := F346.gr G363
      try replace F355 := F355.gr G363
      replace HG := HG.grow G363
      clear G363
      refine V.call (alike_spec (Sl.entOf F355.sl) (Sl.entOf F361.sl)) rfl rfl rfl ?_
      rintro _ w365 ⟨rfl, G366⟩
      have z367 := V.Fr.size G366
      try replace F_own := F_own.gr G366
      try replace F_es := F_es.gr G366
      try replace F74 := F74.gr G366
      try replace F254 := F254.gr G366
      try replace F260 := F260.gr G366
      try replace F346 := F346.gr G366
      try replace F355 := F355.gr G366
      try replace F361 := F361.gr G366
      replace HG := HG.grow G366
      clear G366
      refine V.run T_ok 1 rfl ?_
      refine V.nil ?_
      refine V.tN ?_
      refine V.seq ?_
      refine V.region ?_
      refine V.run T_ok 2 rfl ?_
      refine V.addN rfl rfl rfl rfl rfl (by first | omega | (simp only [List.length_take, List.length_drop, List.length_append, List.length_cons, List.length_nil, List.length_replicate, List.length_set, V.length_data, V.S_size]; omega)) (by first | omega | (simp only [List.length_take, List.length_drop, List.length_append, List.length_cons, List.length_nil, List.length_replicate, List.length_set, V.length_data, V.S_size]; omega)) ?_
      refine V.run T_ok 2 rfl ?_
      refine V.call (from_spec (i := (prev + 1)) (most := (es.length : Int)) F346) rfl rfl rfl ?_
      rintro _ w371 ⟨a368, c369, rfl, F370, G372⟩
      have z373 := V.Fr.size G372
      try replace F_own := F_own.gr G372
      try replace F_es := F_es.gr G372
      try replace F74 := F74.gr G372
      try replace F254 := F254.gr G372
      try replace F260 := F260.gr G372
      try replace F346 := F346.gr G372
      try replace F355 := F355.gr G372
      try replace F361 := F361.gr G372
      replace HG := HG.grow G372
      clear G372
      refine V.run T_ok 1 rfl ?_
      refine V.nil ?_
      refine V.tN ?_
      refine V.seq ?_
      refine V.seq ?_
      refine V.region ?_
      refine V.run T_ok 3 rfl ?_
      refine V.splitF (j := 2) (t := 162) rfl rfl (by (rw [hG.1]; rfl)) ?_
      refine V.run T_ok 4 rfl ?_
      refine V.splitF (j := 6) (t := 166) rfl rfl (by (rw [hF]; simp)) ?_
      refine V.run T_ok 6 rfl ?_
      refine V.nil ?_
      refine V.tN ?_
      refine V.condN rfl (by (exact decide_eq_false (by rw [hT.1]; simp))) ?_
      refine V.skip ?_
      refine V.tN ?_
      refine V.seq ?_
      refine V.seq ?_
      refine V.region ?_
      refine V.run T_ok 1 rfl ?_
      refine V.nil ?_
      refine V.tN ?_
      refine V.block ?_
      refine V.loopM (fun m e v375 => Fr [] w v375 ∧ w371.heap.size ≤ v375.heap.size ∧ Sl V.Cod.ent v375 D_own a_own c_own own ∧ Sl V.Cod.ent v375 D_es a_es c_es es ∧ Lg v375 k70 g71 B72 (curp) ∧ V.Row V.Cod.oent 29 v375 V.None' w88.heap.size w255.heap.size a252 c253 (fromV (splV curp prev ((trmV curp prev) + 1) es) 1 1000) ∧ V.Row V.Cod.oent 29 v375 V.None' w255.heap.size w261.heap.size a258 c259 (fromV curp 1 1000) ∧ Lg v375 k1 g344 B345 (layV curp prev es) ∧ V.Row V.Cod.oent 29 v375 V.None' w349.heap.size w356.heap.size a353 c354 (fromV (layV curp prev es) 1 prev) ∧ V.Row V.Cod.oent 29 v375 V.None' w356.heap.size w362.heap.size a359 c360 (fromV curp 1 prev) ∧ V.Row V.Cod.oent 29 v375 V.None' w365.heap.size w371.heap.size a368 c369 (fromV (layV curp prev es) (prev + 1) (es.length : Int)) ∧ ∃ (i2 : Nat) , m = es.length - i2 ∧ i2 ≤ es.length ∧ e 1 = .int .i64 prev ∧ e 2 = .slice a_es es.length c_es ∧ e 7 = .pointer (some ⟨k1, 0, none⟩) ∧ e 14 = .int .i64 (trmV curp prev) ∧ e 19 = .int .i64 (splI curp prev (trmV curp prev) es) ∧ e 21 = .slice a368 (fromV (layV curp prev es) (prev + 1) (es.length : Int)).length c369 ∧ e 22 = .int .i64 (i2 : Int)) ?_ ?_
      ·
       exact ⟨_, HG, (by omega), F_own, F_es, F74, F254, F260, F346, F355, F361, F370, (0), rfl, (Nat.zero_le _), rfl, rfl, rfl, rfl, rfl, rfl, rfl⟩
      clear HG F_own F_es F74 F254 F260 F346 F355 F361 F370
      rintro _ e v375 ⟨HG, z376, F_own, F_es, F74, F254, F260, F346, F355, F361, F370, i2, rfl, hi2, he2_1, he2_2, he2_7, he2_14, he2_19, he2_21, he2_22⟩
      refine V.knownC (t := 1) he2_1 ?_
      refine V.knownC (t := 2) he2_2 ?_
      refine V.knownC (t := 7) he2_7 ?_
      refine V.knownC (t := 14) he2_14 ?_
      refine V.knownC (t := 19) he2_19 ?_
      refine V.knownC (t := 21) he2_21 ?_
      refine V.knownC (t := 22) he2_22 ?_
      refine V.seq ?_
      refine V.seq ?_
      refine V.region ?_
      refine V.run T_ok 4 rfl ?_
      refine V.nil ?_
      refine V.tN ?_
      refine V.condT rfl (fun h28 => ?_) (fun h28 => ?_)
      ·
       try replace h28 := V.dec h28
       try simp only [V.mk0, V.mk1, V.mk2, V.mk3] at h28
       refine V.skip ?_
       refine V.tN ?_
       refine V.seq ?_
       refine V.block ?_
       refine V.seq ?_
       refine V.drawQ mixed (by kernel_rfl) ?_
       refine V.qrun T_ok 2 rfl ?_
       refine V.qelem T_ok F370.sl rfl rfl sz29 rfl rfl rfl rfl (by first | omega | (simp only [List.length_take, List.length_drop, List.length_append, List.length_cons, List.length_nil, List.length_replicate, List.length_set, V.length_data, V.S_size]; omega)) (by first | omega | (simp only [List.length_take, List.length_drop, List.length_append, List.length_cons, List.length_nil, List.length_replicate, List.length_set, V.length_data, V.S_size]; omega)) ?_
       rintro b377 o378 cs379 hx380 hb381 hR387 hA382
       obtain ⟨x383, hx383⟩ : ∃ z', (fromV (layV curp prev es) (prev + 1) (es.length : Int))[((i2 : Int)).toNat] = z' := ⟨_, rfl⟩
       rw [hx383] at hR387
       obtain ⟨_, _, rfl, rfl, ⟨a384, c385, rfl, F386⟩⟩ := hR387
       try simp only [Int.toNat_natCast] at hx383 hx380
       refine V.qrun T_ok 1 rfl ?_
       refine V.qloadA T_ok (o0 := o378) (off := 0) hA382 rfl rfl rfl rfl rfl ?_
       refine V.qrun T_ok 2 rfl ?_
       refine V.qelem T_ok F_es rfl rfl sz29 rfl rfl rfl rfl (by first | omega | (simp only [List.length_take, List.length_drop, List.length_append, List.length_cons, List.length_nil, List.length_replicate, List.length_set, V.length_data, V.S_size]; omega)) (by first | omega | (simp only [List.length_take, List.length_drop, List.length_append, List.length_cons, List.length_nil, List.length_replicate, List.length_set, V.length_data, V.S_size]; omega)) ?_
       rintro b388 o389 cs390 hx391 hb392 hR398 hA393
       obtain ⟨x394, hx394⟩ : ∃ z', es[((i2 : Int)).toNat] = z' := ⟨_, rfl⟩
       rw [hx394] at hR398
       obtain ⟨_, _, rfl, rfl, ⟨a395, c396, rfl, F397⟩⟩ := hR398
       try simp only [Int.toNat_natCast] at hx394 hx391
       refine V.qrun T_ok 1 rfl ?_
       refine V.qloadA T_ok (o0 := o389) (off := 0) hA393 rfl rfl rfl rfl rfl ?_
       refine V.qrun T_ok 1 rfl ?_
       refine V.qnil ?_
       rintro w399 G400
       have z401 := V.Fr.size G400
       try replace F_own := F_own.gr G400
       try replace F_es := F_es.gr G400
       try replace F74 := F74.gr G400
       try replace F254 := F254.gr G400
       try replace F260 := F260.gr G400
       try replace F346 := F346.gr G400
       try replace F355 := F355.gr G400
       try replace F361 := F361.gr G400
       try replace F370 := F370.gr G400
       try replace F386 := F386.gr G400
       try replace F397 := F397.gr G400
       replace HG := HG.grow G400
       clear G400
       refine V.tN ?_
       refine V.condT rfl (fun h30 => ?_) (fun h30 => ?_)
       ·
        try replace h30 := V.dec h30
        try simp only [V.mk0, V.mk1, V.mk2, V.mk3] at h30
        refine V.seq ?_
        refine V.region ?_
        refine V.run T_ok 1 rfl ?_
        refine V.nil ?_
        refine V.tN ?_
        refine V.ret ?_
        refine V.bR ?_
        refine V.tR ?_
        refine V.tR ?_
        refine V.bR ?_
        refine V.tR ?_
        refine V.done rfl ?_
        exfalso
        have := hT.2 i2 (by omega) (by omega)
        rw [hx383, hx394] at this
        omega
       ·
        try replace h30 := V.dec h30
        try simp only [V.mk0, V.mk1, V.mk2, V.mk3] at h30
        refine V.skip ?_
        refine V.bN ?_
        refine V.tN ?_
        refine V.region ?_
        refine V.run T_ok 1 rfl ?_
        refine V.addN rfl rfl rfl rfl rfl (by first | omega | (simp only [List.length_take, List.length_drop, List.length_append, List.length_cons, List.length_nil, List.length_replicate, List.length_set, V.length_data, V.S_size]; omega)) (by first | omega | (simp only [List.length_take, List.length_drop, List.length_append, List.length_cons, List.length_nil, List.length_replicate, List.length_set, V.length_data, V.S_size]; omega)) ?_
        refine V.run T_ok 1 rfl ?_
        refine V.nil ?_
        refine V.tN ?_
        exact ⟨_, (by omega), HG, (by omega), F_own, F_es, F74, F254, F260, F346, F355, F361, F370, (i2 + 1), rfl, (by omega), rfl, rfl, rfl, rfl, rfl, rfl, rfl⟩
      ·
       try replace h28 := V.dec h28
       try simp only [V.mk0, V.mk1, V.mk2, V.mk3] at h28
       refine V.exit ?_
       refine V.tX ?_
       refine V.tX ?_
       refine V.bE ?_
       refine V.tN ?_
       refine V.seq ?_
       refine V.region ?_
       refine V.run T_ok 4 rfl ?_
       refine V.call (splice_spec (prev := prev) (t := (trmV curp prev)) F346 F_es (fun k hk => by have := hD_es k hk; omega) (by first | omega | simp | decide) (by first | omega | simp | decide) (by first | assumption | simp)) rfl rfl rfl ?_
       rintro _ w407 ⟨g402, B403, rfl, F404, h405, h406, G408⟩
       have z409 := V.Fr.size G408
       first | replace F_own := F_own.mb G408 hD_own | clear F_own | skip
       first | replace F_es := F_es.mb G408 hD_es | clear F_es | skip
       first | replace F74 := F74.mv1 G408 (by (try dsimp only [V.In]); first | omega | grind) | clear F74 | skip
       first | replace F254 := F254.ma G408 | clear F254 | skip
       first | replace F260 := F260.ma G408 | clear F260 | skip
       first | replace F346 := F346.mv1 G408 (by (try dsimp only [V.In]); first | omega | grind) | clear F346 | skip
       first | replace F355 := F355.ma G408 | clear F355 | skip
       first | replace F361 := F361.ma G408 | clear F361 | skip
       first | replace F370 := F370.ma G408 | clear F370 | skip
       replace HG := HG.n1 G408
       clear G408
       refine V.run T_ok 5 rfl ?_
       refine V.nil ?_
       refine V.tN ?_
       refine V.seq ?_
       have hG2 := spl_good (d := layV curp prev es) (es := es) hP.2 hP.1
       have hfi := lay_first (d := curp) (prev := prev) (es := es)
       refine V.region ?_
       refine V.call (alive_spec) rfl rfl rfl ?_
       rintro _ w410 ⟨rfl, G411⟩
       have z412 := V.Fr.size G411
       try replace F_own := F_own.gr G411
       try replace F_es := F_es.gr G411
       try replace F74 := F74.gr G411
       try replace F254 := F254.gr G411
       try replace F260 := F260.gr G411
       try replace F355 := F355.gr G411
       try replace F361 := F361.gr G411
       try replace F370 := F370.gr G411
       try replace F404 := F404.gr G411
       replace HG := HG.grow G411
       clear G411
       refine V.run T_ok 4 rfl ?_
       refine V.splitT (j := 4) (t := 202) rfl rfl (by (rw [hG2.1])) ?_
       refine V.run T_ok 4 rfl ?_
       refine V.splitT (j := 8) (t := 206) rfl rfl (by (rw [hG2.2.1, hL.1]; rfl)) ?_
       refine V.run T_ok 3 rfl ?_
       refine V.split (j := 11) (t := 209) rfl rfl (fun g33_11 => ?_) (fun g33_11 => ?_)
       ·
        try replace g33_11 := V.dec g33_11
        try simp only [V.mk0, V.mk1, V.mk2, V.mk3] at g33_11
        refine V.run T_ok 14 rfl ?_
        refine V.nil ?_
        refine V.tN ?_
        refine V.ret ?_
        refine V.done rfl ?_
        exact ⟨congrArg Value.bool (by first | rfl | (rw [hG.2.1] at *; grind)), HG⟩
       ·
        try replace g33_11 := V.dec g33_11
        try simp only [V.mk0, V.mk1, V.mk2, V.mk3] at g33_11
        refine V.run T_ok 4 rfl ?_
        refine V.split (j := 15) (t := 213) rfl rfl (fun g33_15 => ?_) (fun g33_15 => ?_)
        ·
         try replace g33_15 := V.dec g33_15
         try simp only [V.mk0, V.mk1, V.mk2, V.mk3] at g33_15
         refine V.run T_ok 4 rfl ?_
         refine V.yes rfl rfl rfl ?_
         refine V.addN rfl rfl rfl rfl rfl (by first | omega | (simp only [List.length_take, List.length_drop, List.length_append, List.length_cons, List.length_nil, List.length_replicate, List.length_set, V.length_data, V.S_size]; omega)) (by first | omega | (simp only [List.length_take, List.length_drop, List.length_append, List.length_cons, List.length_nil, List.length_replicate, List.length_set, V.length_data, V.S_size]; omega)) ?_
         refine V.run T_ok 5 rfl ?_
         refine V.nil ?_
         refine V.tN ?_
         refine V.ret ?_
         refine V.done rfl ?_
         exact ⟨congrArg Value.bool (by first | rfl | (rw [hG.2.1] at *; grind)), HG⟩
        ·
         try replace g33_15 := V.dec g33_15
         try simp only [V.mk0, V.mk1, V.mk2, V.mk3] at g33_15
         refine V.run T_ok 10 rfl ?_
         refine V.nil ?_
         refine V.tN ?_
         refine V.ret ?_
         refine V.done rfl ?_
         exact ⟨congrArg Value.bool (by first | rfl | (rw [hG.2.1] at *; grind)), HG⟩

end Go.Proofs.Ytaekbikdeeaphaa
