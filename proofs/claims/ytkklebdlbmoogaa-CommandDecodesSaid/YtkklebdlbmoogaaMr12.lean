/- Proved here: walks: what functions of this seat's program return and what they leave of memory, each as a contract. Conditions: stated at each theorem. -/
import Derived.Test.YtkklebdlbmoogaaMcl
namespace Go.Proofs.Ytkklebdlbmoogaa
set_option linter.unusedVariables false
set_option linter.unusedSimpArgs false
open Go
open V (Bytes Meets Env Sl Own Gr Fr Cells S)
section
open V
/-! ### A part of the code whose leaves meet again -/
variable {P : Program} {n : Nat} {Q : Post} {e : Env} {w : World}
theorem V.seqJ {a b : Code} (I : Env → World → Prop) (h : VC P n a (thn I Q) e w) (k : ∀ e w, I e w → VC P n b Q e w) : VC P n (.seq a b) Q e w := by
  have key : ∀ R : Post, (∀ x e w, thn I Q x e w → R x e w) → VC P n a R e w := by
    intro R hR
    unfold VC at h ⊢
    refine wp_mono h ?_
    rintro x a w ⟨e, rfl, hq⟩
    exact ⟨e, rfl, hR _ _ _ hq⟩
  refine seq (key _ ?_)
  intro x e w hq
  cases x <;> first | exact k _ _ hq | exact hq
end


/-- a record: number, epoch, status, stamp, last beat, writes -/
structure RecV where
  id : Int
  ep : Int
  st : Int
  aw : Int
  al : Int
  bw : Int
  bl : Int
  ws : List (ByteArray × Int)
def keysOk (ws : List (ByteArray × Int)) : Prop := ∀ x ∈ ws, x.1.size ≤ 9223372036854775807
theorem keysOk.nil : keysOk [] := fun _ h => by cases h
def wrB (ws : List (ByteArray × Int)) : Bool := ws.all (fun x => isKey x.1 && decide (0 ≤ x.2 ∧ x.2 ≤ 1099511627776)) && decide ((ws.map (·.1)).Nodup) && decide (1 ≤ ws.length ∧ ws.length ≤ 8)
def wmap (ws : List (ByteArray × Int)) : List (ByteArray × Value) := ws.foldl (fun m x => V.mput m x.1 (.int .i64 x.2)) []
theorem wmap_len : ∀ (ws : List (ByteArray × Int)) (acc : List (ByteArray × Value)), (ws.foldl (fun m x => V.mput m x.1 (.int .i64 x.2)) acc).length ≤ acc.length + ws.length ∧
    ((ws.foldl (fun m x => V.mput m x.1 (.int .i64 x.2)) acc).length = acc.length + ws.length ↔ (ws.map (·.1)).Nodup ∧ ∀ k ∈ ws.map (·.1), k ∉ acc.map (·.1))
  | [], acc => by simp
  | x :: ws, acc => by
    obtain ⟨h1, h2⟩ := wmap_len ws (V.mput acc x.1 (.int .i64 x.2))
    have hk := mput_keys (l := acc) (k := x.1) (u := .int .i64 x.2)
    have hl : (V.mput acc x.1 (.int .i64 x.2)).length = if x.1 ∈ acc.map (·.1) then acc.length else acc.length + 1 := by
      have := congrArg List.length hk
      rw [List.length_map] at this
      by_cases hm : x.1 ∈ acc.map (·.1)
      · rw [if_pos hm] at this ⊢; rw [this, List.length_map]
      · rw [if_neg hm] at this ⊢; rw [this, List.length_append, List.length_map]; rfl
    simp only [List.foldl_cons, List.length_cons, List.map_cons, List.nodup_cons, List.mem_cons]
    by_cases hm : x.1 ∈ acc.map (·.1)
    · rw [if_pos hm] at hl hk
      refine ⟨by omega, ⟨fun h => by omega, fun h => absurd hm (h.2 x.1 (.inl rfl))⟩⟩
    · rw [if_neg hm] at hl hk
      refine ⟨by omega, ?_⟩
      rw [hl, hk] at h2
      rw [show acc.length + (ws.length + 1) = acc.length + 1 + ws.length by omega, h2]
      simp only [List.mem_append, List.mem_singleton, not_or]
      constructor
      · rintro ⟨h3, h4⟩
        refine ⟨⟨fun h5 => (h4 _ h5).2 rfl, h3⟩, ?_⟩
        rintro k (rfl | h5)
        · exact hm
        · exact (h4 k h5).1
      · rintro ⟨⟨h3, h4⟩, h5⟩
        exact ⟨h4, fun k hk => ⟨h5 k (.inr hk), fun h6 => h3 (h6 ▸ hk)⟩⟩
theorem wmap_nodup {ws : List (ByteArray × Int)} : ((wmap ws).length : Int) = (ws.length : Int) ↔ (ws.map (·.1)).Nodup := by
  have := (wmap_len ws []).2
  simp only [List.length_nil, Nat.zero_add, List.map_nil, List.not_mem_nil, not_false_eq_true, implies_true, and_true] at this
  rw [← this]; unfold wmap; omega
theorem wmap_succ {ws : List (ByteArray × Int)} {i : Nat} {x : ByteArray × Int} (hi : i < ws.length) (hx : ws[i] = x) : V.mput (wmap (ws.take i)) x.1 (.int .i64 x.2) = wmap (ws.take (i + 1)) := by
  subst hx; unfold wmap; rw [List.take_succ_eq_append_getElem hi, List.foldl_append]; rfl
theorem wrB_bad {ws : List (ByteArray × Int)} {i : Nat} {x : ByteArray × Int} (hi : i < ws.length) (hx : ws[i] = x) (h : isKey x.1 = false ∨ ¬ (0 ≤ x.2 ∧ x.2 ≤ 1099511627776)) : wrB ws = false := by
  subst hx
  have : ws.all (fun x => isKey x.1 && decide (0 ≤ x.2 ∧ x.2 ≤ 1099511627776)) = false := by
    rw [List.all_eq_false]
    refine ⟨ws[i], List.getElem_mem hi, ?_⟩
    rcases h with h | h <;> simp [h]
  unfold wrB; rw [this]; rfl
theorem wrB_all {ws : List (ByteArray × Int)} (h : ∀ j (hj : j < ws.length), isKey ws[j].1 = true ∧ 0 ≤ ws[j].2 ∧ ws[j].2 ≤ 1099511627776) : wrB ws = (decide ((ws.map (·.1)).Nodup) && decide (1 ≤ ws.length ∧ ws.length ≤ 8)) := by
  have : ws.all (fun x => isKey x.1 && decide (0 ≤ x.2 ∧ x.2 ≤ 1099511627776)) = true := by
    rw [List.all_eq_true]
    intro x hx
    obtain ⟨j, hj, rfl⟩ := List.mem_iff_getElem.1 hx
    simpa using h j hj
  unfold wrB; rw [this]; rfl
theorem wrB_dup {ws : List (ByteArray × Int)} {i k : Nat} {x y : ByteArray × Int} (hki : k < i) {hi : i < ws.length} {hk : k < ws.length} (hx : ws[k] = x) (hy : ws[i] = y) (h : x.1 = y.1) : wrB ws = false := by
  subst hx hy
  have : ¬ (ws.map (·.1)).Nodup := fun hn => by
    rw [List.nodup_iff_pairwise_ne, List.pairwise_iff_getElem] at hn
    exact hn k i (by simpa using hk) (by simpa using hi) hki (by simpa using h)
  unfold wrB; simp [this]
theorem nodup_of {ws : List (ByteArray × Int)} (h : ∀ i (hi : i < ws.length) k (hk : k < i), ws[k].1 ≠ ws[i].1) : (ws.map (·.1)).Nodup := by
  rw [List.nodup_iff_pairwise_ne, List.pairwise_iff_getElem]
  intro k i hk hi hki
  simpa using h i (by simpa using hi) k hki
/-- is the record right? -/
def recB (r : RecV) : Bool := decide ((0 ≤ r.id ∧ r.id ≤ 1099511627776) ∧ (0 ≤ r.ep ∧ r.ep ≤ 1099511627776) ∧ stR r.aw r.al ∧ stR r.bw r.bl) &&
  (if r.st = 2 then wrB r.ws else if r.st = 0 then decide (r.ep = 0 ∧ (r.bw = 0 ∧ r.bl = 0) ∧ (r.aw = 0 ∧ r.al = 0) ∧ r.ws.length = 0) else if r.st = 1 ∨ r.st = 4 then decide ((r.aw = 0 ∧ r.al = 0) ∧ r.ws.length = 0) else if r.st = 3 then decide (r.ws.length = 0) else false)

set_option maxHeartbeats 900000 in
set_option maxRecDepth 10000 in
theorem rnumber_ok {w : World}  {n : Int}  :
    Meets Try.prog 80 [.int .i64 n] w fun r w' => r = .bool (decide (0 ≤ n ∧ n ≤ 1099511627776)) ∧ w = w' := by
 refine V.enter (n := 9) Try.func80 rfl rfl (by decide) rfl ?_
 refine V.seq ?_
 refine V.region ?_
 refine V.run T_ok 1 rfl ?_
 refine V.nil ?_
 refine V.tN ?_
 refine V.seq ?_
 refine V.region ?_
 refine V.run T_ok 3 rfl ?_
 refine V.andG T_ok 2 2 5 rfl rfl rfl rfl rfl rfl rfl rfl ?_
 refine V.run T_ok 1 rfl ?_
 refine V.nil ?_
 refine V.tN ?_
 refine V.ret ?_
 refine V.done rfl ?_
 exact ⟨(congrArg Value.bool (by first | rfl | (grind))), rfl⟩

set_option maxHeartbeats 900000 in
set_option maxRecDepth 10000 in
theorem rwritten_spec {w : World}  {D_ws : Nat → Prop} {c_ws : Nat} {a_ws : Option Addr} {ws : List (ByteArray × Int)} (F_ws : Sl V.Cod.write w D_ws a_ws c_ws ws) (hD_ws : ∀ k, D_ws k → k < w.heap.size) (hw : keysOk ws) :
    Meets Try.prog 73 [.slice a_ws ws.length c_ws] w fun r w' => r = .bool (wrB ws) ∧ Gr w w' := by
 have HG := V.Fr.refl [] w
 refine V.enter (n := 55) Try.func73 rfl rfl (by decide) rfl ?_
 refine V.seq ?_
 refine V.region ?_
 refine V.run T_ok 1 rfl ?_
 refine V.nil ?_
 refine V.tN ?_
 refine V.seq ?_
 refine V.seq ?_
 refine V.region ?_
 refine V.run T_ok 1 rfl ?_
 refine V.nil ?_
 refine V.tN ?_
 refine V.block ?_
 have hl63 := F_ws.len63
 refine V.loopM (fun m e v2 => Fr [] w v2 ∧ w.heap.size ≤ v2.heap.size ∧ Sl V.Cod.write v2 D_ws a_ws c_ws ws ∧ ∃ (i : Nat) , m = ws.length - i ∧ i ≤ ws.length ∧ (∀ j (hj : j < ws.length), j < i → isKey ws[j].1 = true ∧ 0 ≤ ws[j].2 ∧ ws[j].2 ≤ 1099511627776) ∧ (∀ i2 (hi2 : i2 < ws.length), i2 < i → ∀ k (hk : k < i2), ws[k].1 ≠ ws[i2].1) ∧ e 0 = .slice a_ws ws.length c_ws ∧ e 3 = .int .i64 (i : Int)) ?_ ?_
 ·
  exact ⟨_, HG, (by omega), F_ws, (0), rfl, (by omega), (fun j hj h => absurd h (Nat.not_lt_zero _)), (fun j hj h => absurd h (Nat.not_lt_zero _)), rfl, rfl⟩
 clear HG F_ws
 rintro _ e v2 ⟨HG, z3, F_ws, i, rfl, hi, hno, hnd, he0_0, he0_3⟩
 refine V.knownC (t := 0) he0_0 ?_
 refine V.knownC (t := 3) he0_3 ?_
 refine V.seq ?_
 refine V.seq ?_
 refine V.region ?_
 refine V.run T_ok 4 rfl ?_
 refine V.nil ?_
 refine V.tN ?_
 refine V.condT rfl (fun h2 => ?_) (fun h2 => ?_)
 ·
  try replace h2 := V.dec h2
  try simp only [V.mk0, V.mk1, V.mk2, V.mk3] at h2
  refine V.skip ?_
  refine V.tN ?_
  refine V.seq ?_
  refine V.block ?_
  refine V.seq ?_
  refine V.region ?_
  refine V.run T_ok 2 rfl ?_
  refine V.elem T_ok F_ws rfl rfl sz65 rfl rfl rfl rfl (by first | omega | (simp only [List.length_take, List.length_drop, List.length_append, List.length_cons, List.length_nil, List.length_replicate, List.length_set, V.length_data, V.S_size]; omega)) (by first | omega | (simp only [List.length_take, List.length_drop, List.length_append, List.length_cons, List.length_nil, List.length_replicate, List.length_set, V.length_data, V.S_size]; omega)) ?_
  rintro b4 o5 cs6 hx7 hb8 hR11 hA9
  obtain ⟨x10, hx10⟩ : ∃ z', ws[((i : Int)).toNat] = z' := ⟨_, rfl⟩
  rw [hx10] at hR11
  obtain ⟨_, _, rfl, rfl, rfl⟩ := hR11
  try simp only [Int.toNat_natCast] at hx10 hx7
  refine V.run T_ok 1 rfl ?_
  refine V.loadA T_ok (o0 := o5) (off := 0) hA9 rfl rfl rfl rfl rfl ?_
  have hks := hw x10 (by rw [← hx10]; exact List.getElem_mem _)
  refine V.call (rkey_spec (s := x10.1) (by first | omega | decide | (simp only [V.S_size, List.length_cons, List.length_nil]; omega))) rfl rfl rfl ?_
  rintro _ v2_ ⟨rfl, rfl⟩
  refine V.run T_ok 1 rfl ?_
  refine V.nil ?_
  refine V.tN ?_
  refine V.seq ?_
  refine V.region ?_
  refine V.run T_ok 2 rfl ?_
  refine V.elem T_ok F_ws rfl rfl sz65 rfl rfl rfl rfl (by first | omega | (simp only [List.length_take, List.length_drop, List.length_append, List.length_cons, List.length_nil, List.length_replicate, List.length_set, V.length_data, V.S_size]; omega)) (by first | omega | (simp only [List.length_take, List.length_drop, List.length_append, List.length_cons, List.length_nil, List.length_replicate, List.length_set, V.length_data, V.S_size]; omega)) ?_
  rintro b13 o14 cs15 hx16 hb17 hR20 hA18
  obtain ⟨x19, hx19⟩ : ∃ z', ws[((i : Int)).toNat] = z' := ⟨_, rfl⟩
  rw [hx19] at hR20
  obtain ⟨_, _, rfl, rfl, rfl⟩ := hR20
  try simp only [Int.toNat_natCast] at hx19 hx16
  obtain rfl : x10 = x19 := hx10.symm.trans hx19
  refine V.run T_ok 1 rfl ?_
  refine V.loadA T_ok (o0 := o14) (off := 1) hA18 rfl rfl rfl rfl rfl ?_
  refine V.call (rnumber_ok (n := x10.2)) rfl rfl rfl ?_
  rintro _ v2_ ⟨rfl, rfl⟩
  refine V.run T_ok 1 rfl ?_
  refine V.nil ?_
  refine V.tN ?_
  refine V.seq ?_
  refine V.seq ?_
  refine V.region ?_
  refine V.run T_ok 3 rfl ?_
  refine V.orG T_ok 2 2 27 rfl rfl rfl rfl rfl rfl rfl rfl ?_
  refine V.nil ?_
  refine V.tN ?_
  refine V.condT rfl (fun h6 => ?_) (fun h6 => ?_)
  ·
   try replace h6 := V.dec h6
   try simp only [V.mk0, V.mk1, V.mk2, V.mk3] at h6
   refine V.seq ?_
   refine V.region ?_
   refine V.run T_ok 1 rfl ?_
   refine V.nil ?_
   refine V.tN ?_
   refine V.ret ?_
   refine V.tR ?_
   refine V.bR ?_
   refine V.tR ?_
   refine V.tR ?_
   refine V.bR ?_
   refine V.tR ?_
   refine V.done rfl ?_
   exact ⟨congrArg Value.bool (wrB_bad (by omega) hx10 (by first | exact h6 | exact .inl g6_2 | exact .inr h6 | exact .inr (by omega))).symm, HG⟩
  ·
   try replace h6 := V.dec h6
   try simp only [V.mk0, V.mk1, V.mk2, V.mk3] at h6
   refine V.skip ?_
   refine V.tN ?_
   refine V.seq ?_
   refine V.region ?_
   refine V.run T_ok 1 rfl ?_
   refine V.nil ?_
   refine V.tN ?_
   refine V.block ?_
   refine V.loopM (fun m e v23 => Fr [] w v23 ∧ v2.heap.size ≤ v23.heap.size ∧ Sl V.Cod.write v23 D_ws a_ws c_ws ws ∧ ∃ (k : Nat) , m = i - k ∧ k ≤ i ∧ (∀ a (ha : a < i), a < k → ws[a].1 ≠ ws[i].1) ∧ e 0 = .slice a_ws ws.length c_ws ∧ e 3 = .int .i64 (i : Int) ∧ e 6 = .int .i64 (k : Int)) ?_ ?_
   ·
    exact ⟨_, HG, (by omega), F_ws, (0), rfl, (by omega), (fun j hj h => absurd h (Nat.not_lt_zero _)), rfl, rfl, rfl⟩
   clear HG F_ws
   rintro _ e v23 ⟨HG, z24, F_ws, k, rfl, hki, hnk, he1_0, he1_3, he1_6⟩
   refine V.knownC (t := 0) he1_0 ?_
   refine V.knownC (t := 3) he1_3 ?_
   refine V.knownC (t := 6) he1_6 ?_
   refine V.seq ?_
   refine V.seq ?_
   refine V.region ?_
   refine V.run T_ok 3 rfl ?_
   refine V.nil ?_
   refine V.tN ?_
   refine V.condT rfl (fun h9 => ?_) (fun h9 => ?_)
   ·
    try replace h9 := V.dec h9
    try simp only [V.mk0, V.mk1, V.mk2, V.mk3] at h9
    refine V.skip ?_
    refine V.tN ?_
    refine V.seq ?_
    refine V.block ?_
    refine V.seq ?_
    refine V.drawQ mixed (by kernel_rfl) ?_
    refine V.qrun T_ok 2 rfl ?_
    refine V.qelem T_ok F_ws rfl rfl sz65 rfl rfl rfl rfl (by first | omega | (simp only [List.length_take, List.length_drop, List.length_append, List.length_cons, List.length_nil, List.length_replicate, List.length_set, V.length_data, V.S_size]; omega)) (by first | omega | (simp only [List.length_take, List.length_drop, List.length_append, List.length_cons, List.length_nil, List.length_replicate, List.length_set, V.length_data, V.S_size]; omega)) ?_
    rintro b25 o26 cs27 hx28 hb29 hR32 hA30
    obtain ⟨x31, hx31⟩ : ∃ z', ws[((k : Int)).toNat] = z' := ⟨_, rfl⟩
    rw [hx31] at hR32
    obtain ⟨_, _, rfl, rfl, rfl⟩ := hR32
    try simp only [Int.toNat_natCast] at hx31 hx28
    refine V.qrun T_ok 1 rfl ?_
    refine V.qloadA T_ok (o0 := o26) (off := 0) hA30 rfl rfl rfl rfl rfl ?_
    refine V.qrun T_ok 2 rfl ?_
    refine V.qelem T_ok F_ws rfl rfl sz65 rfl rfl rfl rfl (by first | omega | (simp only [List.length_take, List.length_drop, List.length_append, List.length_cons, List.length_nil, List.length_replicate, List.length_set, V.length_data, V.S_size]; omega)) (by first | omega | (simp only [List.length_take, List.length_drop, List.length_append, List.length_cons, List.length_nil, List.length_replicate, List.length_set, V.length_data, V.S_size]; omega)) ?_
    rintro b33 o34 cs35 hx36 hb37 hR40 hA38
    obtain ⟨x39, hx39⟩ : ∃ z', ws[((i : Int)).toNat] = z' := ⟨_, rfl⟩
    rw [hx39] at hR40
    obtain ⟨_, _, rfl, rfl, rfl⟩ := hR40
    try simp only [Int.toNat_natCast] at hx39 hx36
    refine V.qrun T_ok 1 rfl ?_
    refine V.qloadA T_ok (o0 := o34) (off := 0) hA38 rfl rfl rfl rfl rfl ?_
    refine V.qrun T_ok 1 rfl ?_
    refine V.qnil ?_
    rintro w41 G42
    have z43 := V.Fr.size G42
    try replace F_ws := F_ws.gr G42
    replace HG := HG.grow G42
    clear G42
    refine V.tN ?_
    refine V.condT rfl (fun h11 => ?_) (fun h11 => ?_)
    ·
     try replace h11 := V.dec h11
     try simp only [V.mk0, V.mk1, V.mk2, V.mk3] at h11
     refine V.seq ?_
     refine V.region ?_
     refine V.run T_ok 1 rfl ?_
     refine V.nil ?_
     refine V.tN ?_
     refine V.ret ?_
     refine V.bR ?_
     refine V.tR ?_
     refine V.tR ?_
     refine V.bR ?_
     refine V.bR ?_
     refine V.tR ?_
     refine V.tR ?_
     refine V.bR ?_
     refine V.tR ?_
     refine V.done rfl ?_
     exact ⟨congrArg Value.bool (wrB_dup (i := i) (k := k) (by omega) (hi := by omega) (hk := by omega) hx31 hx39 h11).symm, HG⟩
    ·
     try replace h11 := V.dec h11
     try simp only [V.mk0, V.mk1, V.mk2, V.mk3] at h11
     refine V.skip ?_
     refine V.bN ?_
     refine V.tN ?_
     refine V.region ?_
     refine V.run T_ok 1 rfl ?_
     refine V.addN rfl rfl rfl rfl rfl (by first | omega | (simp only [List.length_take, List.length_drop, List.length_append, List.length_cons, List.length_nil, List.length_replicate, List.length_set, V.length_data, V.S_size]; omega)) (by first | omega | (simp only [List.length_take, List.length_drop, List.length_append, List.length_cons, List.length_nil, List.length_replicate, List.length_set, V.length_data, V.S_size]; omega)) ?_
     refine V.run T_ok 1 rfl ?_
     refine V.nil ?_
     refine V.tN ?_
     exact ⟨_, (by omega), HG, (by omega), F_ws, (k + 1), rfl, (by omega), (fun a ha h => by rcases Nat.lt_or_ge a k with h2 | h2; exact hnk a ha h2; obtain rfl : a = k := (by omega); subst_vars; assumption), rfl, rfl, rfl⟩
   ·
    try replace h9 := V.dec h9
    try simp only [V.mk0, V.mk1, V.mk2, V.mk3] at h9
    refine V.exit ?_
    refine V.tX ?_
    refine V.tX ?_
    refine V.bE ?_
    refine V.bN ?_
    refine V.tN ?_
    refine V.region ?_
    refine V.run T_ok 1 rfl ?_
    refine V.addN rfl rfl rfl rfl rfl (by first | omega | (simp only [List.length_take, List.length_drop, List.length_append, List.length_cons, List.length_nil, List.length_replicate, List.length_set, V.length_data, V.S_size]; omega)) (by first | omega | (simp only [List.length_take, List.length_drop, List.length_append, List.length_cons, List.length_nil, List.length_replicate, List.length_set, V.length_data, V.S_size]; omega)) ?_
    refine V.run T_ok 1 rfl ?_
    refine V.nil ?_
    refine V.tN ?_
    exact ⟨_, (by omega), HG, (by omega), F_ws, (i + 1), rfl, (by omega), (fun j hj h => by rcases Nat.lt_or_ge j i with h2 | h2; exact hno j hj h2; obtain rfl : j = i := (by omega); subst_vars; first | exact ⟨g6_2, h6⟩ | exact ⟨by simpa using g6_2, by omega, by omega⟩ | grind), (fun j hj h => by rcases Nat.lt_or_ge j i with h2 | h2; exact hnd j hj h2; obtain rfl : j = i := (by omega); exact fun k2 hk2 => hnk k2 (by omega) (by omega)), rfl, rfl⟩
 ·
  try replace h2 := V.dec h2
  try simp only [V.mk0, V.mk1, V.mk2, V.mk3] at h2
  refine V.exit ?_
  refine V.tX ?_
  refine V.tX ?_
  refine V.bE ?_
  refine V.tN ?_
  refine V.seq ?_
  have hall := wrB_all (ws := ws) (fun j hj => hno j hj (by omega))
  have hndp := nodup_of (ws := ws) (fun i2 hi2 k hk => hnd i2 hi2 (by omega) k hk)
  refine V.region ?_
  refine V.run T_ok 4 rfl ?_
  refine V.andG T_ok 3 3 50 rfl rfl rfl rfl rfl rfl rfl rfl ?_
  refine V.run T_ok 1 rfl ?_
  refine V.nil ?_
  refine V.tN ?_
  refine V.ret ?_
  refine V.done rfl ?_
  exact ⟨congrArg Value.bool (by rw [hall, Bool.eq_iff_iff]; simp only [Bool.and_eq_true, decide_eq_true_eq]; grind), HG⟩


def ovE (st : Int) : Int := if st = 3 then 83 else if st = 4 then 122 else 0
/-- what a beat makes of a record -/
def rBeat (d : RecV) (ep nw nl : Int) : RecV × Int :=
  if ¬ ((0 ≤ ep ∧ ep ≤ 1099511627776) ∧ stR nw nl) then (d, 1) else if d.st = 3 then (d, 0) else if d.st = 4 then (d, 122) else if ep < d.ep then (d, 84)
  else if d.st = 0 ∨ d.ep < ep then (⟨d.id, ep, 1, 0, 0, (maxSt d.bw d.bl nw nl).1, (maxSt d.bw d.bl nw nl).2, []⟩, 0)
  else (⟨d.id, d.ep, d.st, d.aw, d.al, (maxSt d.bw d.bl nw nl).1, (maxSt d.bw d.bl nw nl).2, d.ws⟩, 0)


def wrsB (ws : List (ByteArray × Int)) : List UInt8 := ws.flatMap fun x => textB x.1.data.toList ++ numB x.2.toNat
/-- a record's bytes -/
def recBy (d : RecV) : List UInt8 := numB d.id.toNat ++ (numB d.ep.toNat ++ (numB d.st.toNat ++ (stB d.aw d.al ++ (stB d.bw d.bl ++ (numB d.ws.length ++ wrsB d.ws)))))
theorem wrsB_succ {ws : List (ByteArray × Int)} {i : Nat} {x : ByteArray × Int} (hi : i < ws.length) (hx : ws[i] = x) : wrsB (ws.take i) ++ (textB x.1.data.toList ++ numB x.2.toNat) = wrsB (ws.take (i + 1)) := by
  subst hx; unfold wrsB; rw [List.take_succ_eq_append_getElem hi, List.flatMap_append]; simp
def small (ws : List (ByteArray × Int)) : Prop := ws.length ≤ 100 ∧ ∀ x ∈ ws, x.1.size ≤ 1000 ∧ x.2 ≤ 9223372036854775807
theorem wr_len {x : ByteArray × Int} (h : x.1.size ≤ 1000 ∧ x.2 ≤ 9223372036854775807) : (textB x.1.data.toList ++ numB x.2.toNat).length ≤ 1018 := by
  have h1 := numB_len9 h.2
  have h2 := numB_len9 (v := (x.1.size : Int)) (by omega)
  rw [Int.toNat_natCast] at h2
  rw [List.length_append, textB_len]; omega
theorem wrsB_len : ∀ {ws : List (ByteArray × Int)}, (∀ x ∈ ws, x.1.size ≤ 1000 ∧ x.2 ≤ 9223372036854775807) → (wrsB ws).length ≤ 1018 * ws.length
  | [], _ => by simp [wrsB]
  | x :: ws, h => by
    have h1 := wr_len (h x (by simp))
    have h2 := wrsB_len (ws := ws) (fun y hy => h y (by simp [hy]))
    have e : wrsB (x :: ws) = (textB x.1.data.toList ++ numB x.2.toNat) ++ wrsB ws := rfl
    rw [e, List.length_append, List.length_cons]; omega
theorem small_take {ws : List (ByteArray × Int)} (h : small ws) (i : Nat) : (wrsB (ws.take i)).length ≤ 101800 := by
  have := wrsB_len (ws := ws.take i) (fun x hx => h.2 x (List.mem_of_mem_take hx))
  have h1 := h.1
  have h2 : (ws.take i).length ≤ ws.length := by simp; omega
  omega
theorem stB_len {x y : Int} (hx : x ≤ 9223372036854775807) (hy : y ≤ 9223372036854775807) : (stB x y).length ≤ 18 := by
  have h1 := numB_len9 hx
  have h2 := numB_len9 hy
  rw [stB, List.length_append]; omega
/-- its numbers are the machine's -/
def inR64 (d : RecV) : Prop := d.id ≤ 9223372036854775807 ∧ d.ep ≤ 9223372036854775807 ∧ d.st ≤ 9223372036854775807 ∧ d.aw ≤ 9223372036854775807 ∧ d.al ≤ 9223372036854775807 ∧ d.bw ≤ 9223372036854775807 ∧ d.bl ≤ 9223372036854775807


theorem recBy_len {d : RecV} (hd : inR64 d) (h : small d.ws) : (recBy d).length ≤ 109000 := by
  obtain ⟨i1, i2, i3, i4, i5, i6, i7⟩ := hd
  have n1 := numB_len9 i1
  have n2 := numB_len9 i2
  have n3 := numB_len9 i3
  have n4 := stB_len i4 i5
  have n5 := stB_len i6 i7
  have n6 := numB_len9 (v := (d.ws.length : Int)) (by have := h.1; omega)
  rw [Int.toNat_natCast] at n6
  have n7 := wrsB_len h.2
  have := h.1
  simp only [recBy, List.length_append]; omega

set_option maxHeartbeats 900000 in
set_option maxRecDepth 10000 in
theorem rlist_spec {w : World}  {D_ws : Nat → Prop} {c_ws : Nat} {a_ws : Option Addr} {ws : List (ByteArray × Int)} (F_ws : Sl V.Cod.write w D_ws a_ws c_ws ws) (hD_ws : ∀ k, D_ws k → k < w.heap.size) (hs : small ws) :
    Meets Try.prog 65 [.slice a_ws ws.length c_ws] w fun r w' => ∃ (ra47 : Option Addr) (rc47 : Nat), r = .slice ra47 (numB ws.length ++ wrsB ws).length rc47 ∧ V.Row V.Cod.byte 5 w' V.None' w.heap.size w'.heap.size ra47 rc47 (numB ws.length ++ wrsB ws) ∧ Gr w w' := by
 obtain ⟨s1, s2⟩ := hs
 have n6 := numB_len9 (v := (ws.length : Int)) (by omega)
 rw [Int.toNat_natCast] at n6
 have HG := V.Fr.refl [] w
 refine V.enter (n := 31) Try.func65 rfl rfl (by decide) rfl ?_
 refine V.seq ?_
 refine V.region ?_
 refine V.run T_ok 1 rfl ?_
 refine V.nil ?_
 refine V.tN ?_
 refine V.seq ?_
 refine V.region ?_
 refine V.run T_ok 2 rfl ?_
 refine V.call (rp_number (v := (ws.length : Int)) (by omega)) rfl rfl rfl ?_
 rintro _ w4 ⟨a1, c2, rfl, F3, G5⟩
 have z6 := V.Fr.size G5
 try replace F_ws := F_ws.gr G5
 replace HG := HG.grow G5
 clear G5
 refine V.run T_ok 1 rfl ?_
 refine V.nil ?_
 refine V.tN ?_
 refine V.seq ?_
 refine V.seq ?_
 have hr7 : numB (ws.length : Int).toNat = numB ws.length ++ wrsB (ws.take 0) := by simp [wrsB]
 rw [hr7] at F3 ⊢
 clear hr7
 refine V.region ?_
 refine V.run T_ok 1 rfl ?_
 refine V.nil ?_
 refine V.tN ?_
 refine V.block ?_
 have hl63 := F_ws.len63
 refine V.loopM (fun m e v9 => Fr [] w v9 ∧ w4.heap.size ≤ v9.heap.size ∧ Sl V.Cod.write v9 D_ws a_ws c_ws ws ∧ ∃ (i : Nat) (ra50 : Option Addr) (rc50 : Nat), m = ws.length - i ∧ i ≤ ws.length ∧ V.Row V.Cod.byte 5 v9 V.None' w.heap.size v9.heap.size ra50 rc50 (numB ws.length ++ wrsB (ws.take i)) ∧ e 0 = .slice a_ws ws.length c_ws ∧ e 3 = .slice ra50 (numB ws.length ++ wrsB (ws.take i)).length rc50 ∧ e 4 = .int .i64 (i : Int)) ?_ ?_
 ·
  exact ⟨_, HG, (by omega), F_ws, (0), a1, c2, rfl, (by omega), F3.re, rfl, rfl, rfl⟩
 try clear F3
 clear HG F_ws
 rintro _ e v9 ⟨HG, z10, F_ws, i, ra50, rc50, rfl, hi, rF50, he0_0, he0_3, he0_4⟩
 refine V.knownC (t := 0) he0_0 ?_
 refine V.knownC (t := 3) he0_3 ?_
 refine V.knownC (t := 4) he0_4 ?_
 refine V.seq ?_
 refine V.seq ?_
 refine V.region ?_
 refine V.run T_ok 4 rfl ?_
 refine V.nil ?_
 refine V.tN ?_
 refine V.condT rfl (fun h3 => ?_) (fun h3 => ?_)
 ·
  try replace h3 := V.dec h3
  try simp only [V.mk0, V.mk1, V.mk2, V.mk3] at h3
  refine V.skip ?_
  refine V.tN ?_
  refine V.seq ?_
  refine V.block ?_
  refine V.seq ?_
  refine V.region ?_
  refine V.run T_ok 3 rfl ?_
  refine V.elem T_ok F_ws rfl rfl sz65 rfl rfl rfl rfl (by first | omega | (simp only [List.length_take, List.length_drop, List.length_append, List.length_cons, List.length_nil, List.length_replicate, List.length_set, V.length_data, V.S_size]; omega)) (by first | omega | (simp only [List.length_take, List.length_drop, List.length_append, List.length_cons, List.length_nil, List.length_replicate, List.length_set, V.length_data, V.S_size]; omega)) ?_
  rintro b11 o12 cs13 hx14 hb15 hR18 hA16
  obtain ⟨x17, hx17⟩ : ∃ z', ws[((i : Int)).toNat] = z' := ⟨_, rfl⟩
  rw [hx17] at hR18
  obtain ⟨_, _, rfl, rfl, rfl⟩ := hR18
  try simp only [Int.toNat_natCast] at hx17 hx14
  refine V.run T_ok 1 rfl ?_
  refine V.loadA T_ok (o0 := o12) (off := 0) hA16 rfl rfl rfl rfl rfl ?_
  have hsx := s2 x17 (by rw [← hx17]; exact List.getElem_mem _)
  have hst := small_take ⟨s1, s2⟩ i
  have hwl := wr_len hsx
  rw [List.length_append] at hwl
  refine V.call (rp_text (s := x17.1) (by first | omega | decide | (simp only [V.S_size, List.length_cons, List.length_nil]; omega))) rfl rfl rfl ?_
  rintro _ w22 ⟨a19, c20, rfl, F21, G23⟩
  have z24 := V.Fr.size G23
  try replace F_ws := F_ws.gr G23
  try replace rF50 := rF50.gr G23
  replace HG := HG.grow G23
  clear G23
  refine V.appendR (rF50) (V.From.flat V.flat_byte (D' := V.None') (F21.sl.from Try.underlying22)) elT22_22 rfl rfl rfl rfl rfl (by first | omega | (simp only [List.length_take, List.length_drop, List.length_append, List.length_cons, List.length_nil, List.length_replicate, List.length_set, V.length_data, V.S_size]; omega)) (by unfold maxLen; first | omega | (simp only [List.length_take, List.length_drop, List.length_append, List.length_cons, List.length_nil, List.length_replicate, List.length_set, V.length_data, V.S_size]; omega)) (by omega) (by omega) (fun _ h => h.elim) (fun _ h => h.elim) ?_
  rintro a25 c26 w28 G29 s30 F27
  clear rF50
  have z31 := Go.RowKit.Below.size G29
  first | replace F_ws := V.Sl.bl F_ws G29 (by first | exact (fun _ h => by have := h.2; omega) | (intro k h; have := hD_ws k h; omega)) | clear F_ws | skip
  first | replace F21 := V.Row.bl F21 G29 (by first | exact ⟨fun _ h => h.elim, by omega⟩ | exact ⟨fun _ h => by have := h.2; omega, by omega⟩) | clear F21 | skip
  replace HG := HG.bl (Go.RowKit.Below.mono G29 (by omega))
  clear G29
  refine V.run T_ok 1 rfl ?_
  refine V.nil ?_
  refine V.tN ?_
  refine V.region ?_
  refine V.run T_ok 3 rfl ?_
  refine V.elem T_ok F_ws rfl rfl sz65 rfl rfl rfl rfl (by first | omega | (simp only [List.length_take, List.length_drop, List.length_append, List.length_cons, List.length_nil, List.length_replicate, List.length_set, V.length_data, V.S_size]; omega)) (by first | omega | (simp only [List.length_take, List.length_drop, List.length_append, List.length_cons, List.length_nil, List.length_replicate, List.length_set, V.length_data, V.S_size]; omega)) ?_
  rintro b32 o33 cs34 hx35 hb36 hR39 hA37
  obtain ⟨x38, hx38⟩ : ∃ z', ws[((i : Int)).toNat] = z' := ⟨_, rfl⟩
  rw [hx38] at hR39
  obtain ⟨_, _, rfl, rfl, rfl⟩ := hR39
  try simp only [Int.toNat_natCast] at hx38 hx35
  obtain rfl : x17 = x38 := hx17.symm.trans hx38
  refine V.run T_ok 1 rfl ?_
  refine V.loadA T_ok (o0 := o33) (off := 1) hA37 rfl rfl rfl rfl rfl ?_
  refine V.call (rp_number (v := x17.2) (by omega)) rfl rfl rfl ?_
  rintro _ w43 ⟨a40, c41, rfl, F42, G44⟩
  have z45 := V.Fr.size G44
  try replace F_ws := F_ws.gr G44
  try replace F21 := F21.gr G44
  try replace F27 := F27.gr G44
  replace HG := HG.grow G44
  clear G44
  refine V.appendR (F27) (V.From.flat V.flat_byte (D' := V.None') (F42.sl.from Try.underlying22)) elT22_22 rfl rfl rfl rfl rfl (by first | omega | (simp only [List.length_take, List.length_drop, List.length_append, List.length_cons, List.length_nil, List.length_replicate, List.length_set, V.length_data, V.S_size]; omega)) (by unfold maxLen; first | omega | (simp only [List.length_take, List.length_drop, List.length_append, List.length_cons, List.length_nil, List.length_replicate, List.length_set, V.length_data, V.S_size]; omega)) (by omega) (by omega) (fun _ h => h.elim) (fun _ h => h.elim) ?_
  rintro a46 c47 w49 G50 s51 F48
  clear F27
  have z52 := Go.RowKit.Below.size G50
  first | replace F_ws := V.Sl.bl F_ws G50 (by first | exact (fun _ h => by have := h.2; omega) | (intro k h; have := hD_ws k h; omega)) | clear F_ws | skip
  first | replace F21 := V.Row.bl F21 G50 (by first | exact ⟨fun _ h => h.elim, by omega⟩ | exact ⟨fun _ h => by have := h.2; omega, by omega⟩) | clear F21 | skip
  first | replace F42 := V.Row.bl F42 G50 (by first | exact ⟨fun _ h => h.elim, by omega⟩ | exact ⟨fun _ h => by have := h.2; omega, by omega⟩) | clear F42 | skip
  replace HG := HG.bl (Go.RowKit.Below.mono G50 (by omega))
  clear G50
  refine V.run T_ok 1 rfl ?_
  refine V.nil ?_
  refine V.bN ?_
  refine V.tN ?_
  refine V.region ?_
  refine V.run T_ok 1 rfl ?_
  refine V.addN rfl rfl rfl rfl rfl (by first | omega | (simp only [List.length_take, List.length_drop, List.length_append, List.length_cons, List.length_nil, List.length_replicate, List.length_set, V.length_data, V.S_size]; omega)) (by first | omega | (simp only [List.length_take, List.length_drop, List.length_append, List.length_cons, List.length_nil, List.length_replicate, List.length_set, V.length_data, V.S_size]; omega)) ?_
  refine V.run T_ok 1 rfl ?_
  refine V.nil ?_
  refine V.tN ?_
  have hr53 : ((numB ws.length ++ wrsB (ws.take i)) ++ (textB x17.1.data.toList)) ++ (numB x17.2.toNat) = numB ws.length ++ wrsB (ws.take (i + 1)) := by rw [← wrsB_succ (by omega) hx17]; simp [List.append_assoc]
  rw [hr53] at F48 ⊢
  clear hr53
  
  exact ⟨_, (by omega), HG, (by omega), F_ws, (i + 1), a46, c47, rfl, (by omega), F48.re, rfl, rfl, rfl⟩
 ·
  try replace h3 := V.dec h3
  try simp only [V.mk0, V.mk1, V.mk2, V.mk3] at h3
  refine V.exit ?_
  refine V.tX ?_
  refine V.tX ?_
  refine V.bE ?_
  refine V.tN ?_
  refine V.seq ?_
  have hr54 : numB ws.length ++ wrsB (ws.take i) = numB ws.length ++ wrsB ws := by rw [List.take_of_length_le (by omega)]
  rw [hr54] at rF50 ⊢
  clear hr54
  refine V.region ?_
  refine V.run T_ok 2 rfl ?_
  refine V.nil ?_
  refine V.tN ?_
  refine V.ret ?_
  refine V.done rfl ?_
  exact ⟨ra50, rc50, (by first | rfl | simp only [List.length_set]), rF50.re, HG⟩


def rfWr : Nat → RfV → List (ByteArray × Int) × RfV
  | 0, d => ([], d)
  | n + 1, d => if d.bad = true then ([], d) else
    ((S (rdT (d.bs.drop d.i) 8).1.1, (rdN ((rfT d 8).bs.drop (rfT d 8).i) 1099511627776).1.1) :: (rfWr n (rfN (rfT d 8) 1099511627776)).1, (rfWr n (rfN (rfT d 8) 1099511627776)).2)
theorem rfWr_stop {n : Nat} {d : RfV} (h : n = 0 ∨ d.bad = true) : rfWr n d = ([], d) := by
  cases n with
  | zero => rfl
  | succ n => rcases h with h | h; omega; simp [rfWr, h]
theorem rfWr_step {n : Nat} {d : RfV} (h : d.bad = false) (acc : List (ByteArray × Int)) : acc ++ (rfWr (n + 1) d).1 = (acc ++ [(S (rdT (d.bs.drop d.i) 8).1.1, (rdN ((rfT d 8).bs.drop (rfT d 8).i) 1099511627776).1.1)]) ++ (rfWr n (rfN (rfT d 8) 1099511627776)).1 ∧ (rfWr (n + 1) d).2 = (rfWr n (rfN (rfT d 8) 1099511627776)).2 := by
  simp [rfWr, h]
theorem rdT_le8 (d : List UInt8) : (rdT d 8).1.1.length ≤ 8 := by
  unfold rdT
  split
  · simp
  · simp only [List.length_take]; omega
theorem rfWr_keys : ∀ (n : Nat) (d : RfV), keysOk (rfWr n d).1
  | 0, _ => keysOk.nil
  | n + 1, d => by
    unfold rfWr
    split
    · exact keysOk.nil
    · intro y hy
      rcases List.mem_cons.1 hy with rfl | h1
      · have := rdT_le8 (d.bs.drop d.i)
        rw [V.S_size]; omega
      · exact rfWr_keys n _ y h1
/-- the writes that come next -/
def rfWrs (d : RfV) : List (ByteArray × Int) × RfV := rfWr (rdN (d.bs.drop d.i) 8).1.1.toNat (rfN d 8)
def rf1 (d : RfV) : RfV := rfN d 1099511627776
def rf2 (d : RfV) : RfV := rfN (rf1 d) 1099511627776
def rf3 (d : RfV) : RfV := rfN (rf2 d) 4
def rf4 (d : RfV) : RfV := rfS (rf3 d)
def rf5 (d : RfV) : RfV := rfS (rf4 d)
def rfV (d : RfV) : RecV := ⟨(rdN (d.bs.drop d.i) 1099511627776).1.1, (rdN ((rf1 d).bs.drop (rf1 d).i) 1099511627776).1.1, (rdN ((rf2 d).bs.drop (rf2 d).i) 4).1.1, (rdS ((rf3 d).bs.drop (rf3 d).i)).1.1.1, (rdS ((rf3 d).bs.drop (rf3 d).i)).1.1.2, (rdS ((rf4 d).bs.drop (rf4 d).i)).1.1.1, (rdS ((rf4 d).bs.drop (rf4 d).i)).1.1.2, (rfWrs (rf5 d)).1⟩
def rfG (d : RfV) : RfV := if recB (rfV d) = true then (rfWrs (rf5 d)).2 else ⟨(rfWrs (rf5 d)).2.bs, (rfWrs (rf5 d)).2.i, true⟩

set_option maxHeartbeats 900000 in
set_option maxRecDepth 10000 in
theorem rwr_spec {w : World} {k : Nat} {D : Nat → Prop} {d : RfV} (FX : Rf w k D d)   :
    Meets Try.prog 32 [.pointer (some ⟨k, 0, none⟩)] w fun r w' => ∃ (ra48 : Option Addr) (rc48 : Nat), r = .slice ra48 ((rfWrs d).1).length rc48 ∧ V.Row V.Cod.write 65 w' V.None' w.heap.size w'.heap.size ra48 rc48 ((rfWrs d).1) ∧ Rf w' k D ((rfWrs d).2) ∧ Fr [k] w w' := by
 have hkl := FX.lt
 have hnk := FX.nk
 replace FX := FX.flb
 have HG := V.Fr.refl [k] w
 refine V.enter (n := 33) Try.func32 rfl rfl (by decide) rfl ?_
 refine V.seq ?_
 refine V.region ?_
 refine V.run T_ok 1 rfl ?_
 refine V.nil ?_
 refine V.tN ?_
 refine V.seq ?_
 refine V.region ?_
 refine V.run T_ok 1 rfl ?_
 refine V.nil ?_
 refine V.tN ?_
 refine V.seq ?_
 refine V.region ?_
 refine V.run T_ok 1 rfl ?_
 refine V.call (rf_n (most := 8) FX) rfl rfl rfl ?_
 rintro _ w2 ⟨rfl, F1, G3⟩
 have z4 := V.Fr.size G3
 first | replace FX := FX.mv1 G3 (by first | exact ⟨by omega, by assumption⟩ | exact ⟨by omega, fun h => absurd h.1 (by assumption)⟩ | exact ⟨by omega, fun h => absurd h.1.1 (by assumption)⟩ | exact ⟨by omega, fun h => by first | (have h2 := h.1; have h3 := h.2; omega) | (have h2 := h; dsimp only at h2; omega)⟩ | first | omega | exact fun h => h | exact ⟨by omega, fun h => h⟩ | (intro h; first | (have := hD _ h; omega)) | (refine ⟨by omega, ?_⟩; intro h; first | (have := hD _ h; omega))) | clear FX | skip
 replace HG := HG.n1 G3
 clear G3
 refine V.run T_ok 1 rfl ?_
 refine V.nil ?_
 refine V.tN ?_
 refine V.seq ?_
 refine V.seq ?_
 refine V.region ?_
 refine V.run T_ok 1 rfl ?_
 refine V.nil ?_
 refine V.tN ?_
 refine V.block ?_
 have hn8 := rdN_rng0 (d.bs.drop d.i) (m := 8) (by decide)
 refine V.loopM (fun m e v7 => Fr [k] w v7 ∧ w2.heap.size ≤ v7.heap.size ∧ ∃ (i : Nat) (cur : RfV) (acc : List (ByteArray × Int)) (ra51 : Option Addr) (rc51 : Nat), m = ((rdN (d.bs.drop d.i) 8).1.1).toNat - i ∧ i ≤ ((rdN (d.bs.drop d.i) 8).1.1).toNat ∧ acc ++ (rfWr (((rdN (d.bs.drop d.i) 8).1.1).toNat - i) cur).1 = (rfWrs d).1 ∧ (rfWr (((rdN (d.bs.drop d.i) 8).1.1).toNat - i) cur).2 = (rfWrs d).2 ∧ acc.length ≤ i ∧ Rf v7 k (fun j => D j ∧ j < w.heap.size) (cur) ∧ V.Row V.Cod.write 65 v7 V.None' w2.heap.size v7.heap.size ra51 rc51 acc ∧ e 0 = .pointer (some ⟨k, 0, none⟩) ∧ e 3 = .slice ra51 acc.length rc51 ∧ e 4 = .int .i64 ((rdN (d.bs.drop d.i) 8).1.1) ∧ e 5 = .int .i64 (i : Int)) ?_ ?_
 ·
  exact ⟨_, HG, (by omega), (0), (rfN d 8), ([]), none, 0, rfl, (by omega), (by rw [Nat.sub_zero, List.nil_append]; rfl), (by rw [Nat.sub_zero]; rfl), (Nat.le_refl 0), (by first | exact F1 | exact F1.mono (fun _ h => h.1) (by intro h; omega)), V.Row.nil, rfl, rfl, rfl, rfl⟩
 try clear F1
 clear HG
 rintro _ e v7 ⟨HG, z8, i, cur, acc, ra51, rc51, rfl, hi, hinv, hinv2, hal, F5, rF51, he0_0, he0_3, he0_4, he0_5⟩
 refine V.knownC (t := 0) he0_0 ?_
 refine V.knownC (t := 3) he0_3 ?_
 refine V.knownC (t := 4) he0_4 ?_
 refine V.knownC (t := 5) he0_5 ?_
 refine V.seq ?_
 refine V.seq ?_
 obtain ⟨a9, c10, F12, F11⟩ := F5.ex
 refine V.region ?_
 refine V.run T_ok 4 rfl ?_
 refine V.split (j := 3) (t := 13) rfl rfl (fun g4_3 => ?_) (fun g4_3 => ?_)
 ·
  try replace g4_3 := V.dec g4_3
  try simp only [V.mk0, V.mk1, V.mk2, V.mk3] at g4_3
  refine V.run T_ok 3 rfl ?_
  refine V.yes rfl rfl rfl ?_
  refine V.loadO T_ok F12 rfl rfl rfl rfl rfl ?_
  refine V.run T_ok 2 rfl ?_
  refine V.nil ?_
  refine V.tN ?_
  refine V.condT rfl (fun h4 => ?_) (fun h4 => ?_)
  ·
   try replace h4 := V.dec h4
   try simp only [V.mk0, V.mk1, V.mk2, V.mk3] at h4
   refine V.skip ?_
   refine V.tN ?_
   refine V.seq ?_
   refine V.block ?_
   refine V.seq ?_
   refine V.region ?_
   refine V.run T_ok 1 rfl ?_
   refine V.call (rf_t (most := 8) F5) rfl rfl rfl ?_
   rintro _ w14 ⟨rfl, F13, G15⟩
   have z16 := V.Fr.size G15
   first | replace F5 := F5.mv1 G15 (by first | exact ⟨by omega, by assumption⟩ | exact ⟨by omega, fun h => absurd h.1 (by assumption)⟩ | exact ⟨by omega, fun h => absurd h.1.1 (by assumption)⟩ | exact ⟨by omega, fun h => by first | (have h2 := h.1; have h3 := h.2; omega) | (have h2 := h; dsimp only at h2; omega)⟩ | first | omega | exact fun h => h | exact ⟨by omega, fun h => h⟩ | (intro h; first | (have := hD _ h; omega)) | (refine ⟨by omega, ?_⟩; intro h; first | (have := hD _ h; omega))) | clear F5 | skip
   first | replace rF51 := rF51.ma G15 | clear rF51 | skip
   first | replace F11 := F11.ma G15 | clear F11 | skip
   first | replace F12 := F12.mv1 G15 (by omega) | clear F12 | skip
   replace HG := HG.n1 G15
   clear G15
   refine V.run T_ok 1 rfl ?_
   refine V.nil ?_
   refine V.tN ?_
   refine V.seq ?_
   refine V.region ?_
   refine V.run T_ok 1 rfl ?_
   refine V.call (rf_n (most := 1099511627776) F13) rfl rfl rfl ?_
   rintro _ w18 ⟨rfl, F17, G19⟩
   have z20 := V.Fr.size G19
   first | replace rF51 := rF51.ma G19 | clear rF51 | skip
   first | replace F11 := F11.ma G19 | clear F11 | skip
   first | replace F12 := F12.mv1 G19 (by omega) | clear F12 | skip
   first | replace F13 := F13.mv1 G19 (by first | exact ⟨by omega, by assumption⟩ | exact ⟨by omega, fun h => absurd h.1 (by assumption)⟩ | exact ⟨by omega, fun h => absurd h.1.1 (by assumption)⟩ | exact ⟨by omega, fun h => by first | (have h2 := h.1; have h3 := h.2; omega) | (have h2 := h; dsimp only at h2; omega)⟩ | first | omega | exact fun h => h | exact ⟨by omega, fun h => h⟩ | (intro h; first | (have := hD _ h; omega)) | (refine ⟨by omega, ?_⟩; intro h; first | (have := hD _ h; omega))) | clear F13 | skip
   replace HG := HG.n1 G19
   clear G19
   refine V.run T_ok 1 rfl ?_
   refine V.nil ?_
   refine V.tN ?_
   refine V.region ?_
   refine V.run T_ok 3 rfl ?_
   refine V.mkStruct T_ok zero65 rfl rfl rfl rfl rfl ?_
   refine V.mkSlice T_ok zero65 rfl rfl sz65 rfl rfl rfl rfl rfl rfl ?_
   rintro k21 w24 s26 s27 G25 Fk22
   have z28 := V.Fr.size G25
   try replace rF51 := rF51.gr G25
   try replace F11 := F11.gr G25
   try replace F12 := F12.gr G25
   try replace F17 := F17.gr G25
   replace HG := HG.grow G25
   clear G25
   have F23 := V.rowOfC (xs := ([(S (rdT (cur.bs.drop cur.i) 8).1.1, (rdN ((rfT cur 8).bs.drop (rfT cur 8).i) 1099511627776).1.1)] : List (ByteArray × Int))) Fk22 (C := V.Cod.write) (V.reps_cons (x := (S (rdT (cur.bs.drop cur.i) 8).1.1, (rdN ((rfT cur 8).bs.drop (rfT cur 8).i) 1099511627776).1.1)) ⟨_, _, rfl, rfl, rfl⟩ rfl rfl) rfl
   clear Fk22
   refine V.appendR (rF51) (V.From.flat V.flat_write (D' := V.None') (F23.sl.from Try.underlying31)) elT31_31 rfl rfl rfl rfl rfl (by first | omega | (simp only [List.length_take, List.length_drop, List.length_append, List.length_cons, List.length_nil, List.length_replicate, List.length_set, V.length_data, V.S_size]; omega)) (by unfold maxLen; first | omega | (simp only [List.length_take, List.length_drop, List.length_append, List.length_cons, List.length_nil, List.length_replicate, List.length_set, V.length_data, V.S_size]; omega)) (by omega) (by omega) (fun _ h => h.elim) (fun _ h => h.elim) ?_
   rintro a29 c30 w32 G33 s34 F31
   clear rF51
   clear F23
   have z35 := Go.RowKit.Below.size G33
   first | replace F11 := V.Sl.bl F11 G33 (by first | exact (fun _ h => by have := h.2; omega) | (intro k h; have := hD k h; omega)) | clear F11 | skip
   first | replace F12 := V.Cells.bl F12 G33 (by omega) | clear F12 | skip
   first | replace F17 := F17.bl G33 (by first | exact ⟨by omega, fun j h => by have := h.2; omega⟩ | (first | omega | exact fun h => h | exact ⟨by omega, fun h => h⟩ | (intro h; first | (have := hD _ h; omega)) | (refine ⟨by omega, ?_⟩; intro h; first | (have := hD _ h; omega)))) | clear F17 | skip
   replace HG := HG.bl (Go.RowKit.Below.mono G33 (by omega))
   clear G33
   refine V.run T_ok 1 rfl ?_
   refine V.nil ?_
   refine V.bN ?_
   refine V.tN ?_
   refine V.region ?_
   refine V.run T_ok 1 rfl ?_
   refine V.addN rfl rfl rfl rfl rfl (by first | omega | (simp only [List.length_take, List.length_drop, List.length_append, List.length_cons, List.length_nil, List.length_replicate, List.length_set, V.length_data, V.S_size]; omega)) (by first | omega | (simp only [List.length_take, List.length_drop, List.length_append, List.length_cons, List.length_nil, List.length_replicate, List.length_set, V.length_data, V.S_size]; omega)) ?_
   refine V.run T_ok 1 rfl ?_
   refine V.nil ?_
   refine V.tN ?_
   exact ⟨_, (by omega), HG, (by omega), (i + 1), (rfN (rfT cur 8) 1099511627776), (acc ++ ([(S (rdT (cur.bs.drop cur.i) 8).1.1, (rdN ((rfT cur 8).bs.drop (rfT cur 8).i) 1099511627776).1.1)] : List (ByteArray × Int))), a29, c30, rfl, (by omega), (by rw [← hinv, show ((rdN (d.bs.drop d.i) 8).1.1).toNat - i = (((rdN (d.bs.drop d.i) 8).1.1).toNat - (i + 1)) + 1 by omega, (rfWr_step h4 acc).1]), (by rw [← hinv2, show ((rdN (d.bs.drop d.i) 8).1.1).toNat - i = (((rdN (d.bs.drop d.i) 8).1.1).toNat - (i + 1)) + 1 by omega, (rfWr_step h4 acc).2]), (by rw [List.length_append]; simp; omega), (by first | exact F17 | exact F17.mono (fun _ h => h.1) (by intro h; omega)), F31.re, rfl, rfl, rfl, rfl⟩
  ·
   try replace h4 := V.dec h4
   try simp only [V.mk0, V.mk1, V.mk2, V.mk3] at h4
   refine V.exit ?_
   refine V.tX ?_
   refine V.tX ?_
   refine V.bE ?_
   refine V.tN ?_
   refine V.seq ?_
   refine V.region ?_
   refine V.run T_ok 2 rfl ?_
   refine V.nil ?_
   refine V.tN ?_
   refine V.ret ?_
   refine V.done rfl ?_
   have hst := rfWr_stop (n := ((rdN (d.bs.drop d.i) 8).1.1).toNat - i) (d := cur) (by first | exact .inr h4 | exact .inl (by omega))
   rw [hst] at hinv hinv2
   rw [← hinv, ← hinv2, List.append_nil]
   exact ⟨ra51, rc51, (by first | rfl | simp only [List.length_set]), rF51.re, (F5.mono (fun _ h => h.1) hnk), HG⟩
 ·
  try replace g4_3 := V.dec g4_3
  try simp only [V.mk0, V.mk1, V.mk2, V.mk3] at g4_3
  refine V.run T_ok 6 rfl ?_
  refine V.nil ?_
  refine V.tN ?_
  refine V.condN rfl rfl ?_
  refine V.exit ?_
  refine V.tX ?_
  refine V.tX ?_
  refine V.bE ?_
  refine V.tN ?_
  refine V.seq ?_
  refine V.region ?_
  refine V.run T_ok 2 rfl ?_
  refine V.nil ?_
  refine V.tN ?_
  refine V.ret ?_
  refine V.done rfl ?_
  have hst := rfWr_stop (n := ((rdN (d.bs.drop d.i) 8).1.1).toNat - i) (d := cur) (by first | exact .inr h4 | exact .inl (by omega))
  rw [hst] at hinv hinv2
  rw [← hinv, ← hinv2, List.append_nil]
  exact ⟨ra51, rc51, (by first | rfl | simp only [List.length_set]), rF51.re, (F5.mono (fun _ h => h.1) hnk), HG⟩

end Go.Proofs.Ytkklebdlbmoogaa
