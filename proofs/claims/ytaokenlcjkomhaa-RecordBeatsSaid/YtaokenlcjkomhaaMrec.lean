/- Proved here: walks: what functions of this seat's program return and what they leave of memory, each as a contract. Conditions: stated at each theorem. -/
import Derived.Test.YtaokenlcjkomhaaMst
namespace Go.Proofs.Ytaokenlcjkomhaa
set_option linter.unusedVariables false
set_option linter.unusedSimpArgs false
open Go
open V (Bytes Meets Env Sl Own Gr Fr Cells S)
abbrev V.Cod.write : V.Cod (ByteArray × Int) := V.Cod.pair V.Cod.str (V.Cod.int .i64)
theorem V.flat_write : V.Flat (V.Cod.pair V.Cod.str (V.Cod.int .i64)) := (V.flat_pair (V.flat_str) (V.flat_int .i64))

theorem eqG49 : Try.prog.eqGuardType Try.prog.depth 49 = false := by kernel_rfl
theorem eqD49 (d : Nat) (w : World) {x0 y0 : ByteArray} {x1 y1 : Int} : (Op.equalIn (d + 2) 49 (.agg #[.string x0, .int .i64 x1]) (.agg #[.string y0, .int .i64 y1])).run Try.prog w = .ok ((decide (x0 = y0)) && ((decide (x1 = y1)) && (true))) w :=
  V.eqIn_struct _ Try.underlying49 (by kernel_rfl) (V.eqF_cons (agg := false) (by decide) sz9 (by kernel_rfl) (by kernel_rfl) rfl rfl (V.eqIn_str _ Try.underlying9) (V.eqF_cons (agg := false) (by decide) sz3 (by kernel_rfl) (by kernel_rfl) rfl rfl (V.eqIn_int _ Try.underlying3) V.eqF_nil))
theorem eqS49 (w : World) {x0 y0 : ByteArray} {x1 y1 : Int} : (Op.equalIn 10000 49 (.agg #[.string x0, .int .i64 x1]) (.agg #[.string y0, .int .i64 y1])).run Try.prog w = .ok ((decide (x0 = y0)) && ((decide (x1 = y1)) && (true))) w := eqD49 9998 w


/-- a record: number, epoch, status, stamp, last beat, writes -/
structure RecV where
  id : Int
  ep : Int
  st : Int
  aw : Int
  al : Int
  bw : Int
  bl : Int
  ws : List (ByteArray × Int)
def keysOk (ws : List (ByteArray × Int)) : Prop := ∀ x ∈ ws, x.1.size ≤ 9223372036854775807
theorem keysOk.nil : keysOk [] := fun _ h => by cases h
def wrB (ws : List (ByteArray × Int)) : Bool := ws.all (fun x => isKey x.1 && decide (0 ≤ x.2 ∧ x.2 ≤ 1099511627776)) && decide ((ws.map (·.1)).Nodup) && decide (1 ≤ ws.length ∧ ws.length ≤ 8)
def wmap (ws : List (ByteArray × Int)) : List (ByteArray × Value) := ws.foldl (fun m x => V.mput m x.1 (.int .i64 x.2)) []
theorem mput_keys {l : List (ByteArray × Value)} {k : ByteArray} {u : Value} : (V.mput l k u).map (·.1) = if k ∈ l.map (·.1) then l.map (·.1) else l.map (·.1) ++ [k] := by
  induction l with
  | nil => simp [V.mput]
  | cons x l ih =>
    by_cases h : k = x.1
    · simp [V.mput, h]
    · have e : V.mput (x :: l) k u = x :: V.mput l k u := by simp [V.mput, h]
      rw [e, List.map_cons, ih]
      by_cases hm : k ∈ l.map (·.1)
      · rw [if_pos hm, if_pos (by simp only [List.map_cons, List.mem_cons]; exact .inr hm)]; rfl
      · rw [if_neg hm, if_neg (by simp only [List.map_cons, List.mem_cons, not_or]; exact ⟨h, hm⟩)]; rfl
theorem wmap_len : ∀ (ws : List (ByteArray × Int)) (acc : List (ByteArray × Value)), (ws.foldl (fun m x => V.mput m x.1 (.int .i64 x.2)) acc).length ≤ acc.length + ws.length ∧
    ((ws.foldl (fun m x => V.mput m x.1 (.int .i64 x.2)) acc).length = acc.length + ws.length ↔ (ws.map (·.1)).Nodup ∧ ∀ k ∈ ws.map (·.1), k ∉ acc.map (·.1))
  | [], acc => by simp
  | x :: ws, acc => by
    obtain ⟨h1, h2⟩ := wmap_len ws (V.mput acc x.1 (.int .i64 x.2))
    have hk := mput_keys (l := acc) (k := x.1) (u := .int .i64 x.2)
    have hl : (V.mput acc x.1 (.int .i64 x.2)).length = if x.1 ∈ acc.map (·.1) then acc.length else acc.length + 1 := by
      have := congrArg List.length hk
      rw [List.length_map] at this
      by_cases hm : x.1 ∈ acc.map (·.1)
      · rw [if_pos hm] at this ⊢; rw [this, List.length_map]
      · rw [if_neg hm] at this ⊢; rw [this, List.length_append, List.length_map]; rfl
    simp only [List.foldl_cons, List.length_cons, List.map_cons, List.nodup_cons, List.mem_cons]
    by_cases hm : x.1 ∈ acc.map (·.1)
    · rw [if_pos hm] at hl hk
      refine ⟨by omega, ⟨fun h => by omega, fun h => absurd hm (h.2 x.1 (.inl rfl))⟩⟩
    · rw [if_neg hm] at hl hk
      refine ⟨by omega, ?_⟩
      rw [hl, hk] at h2
      rw [show acc.length + (ws.length + 1) = acc.length + 1 + ws.length by omega, h2]
      simp only [List.mem_append, List.mem_singleton, not_or]
      constructor
      · rintro ⟨h3, h4⟩
        refine ⟨⟨fun h5 => (h4 _ h5).2 rfl, h3⟩, ?_⟩
        rintro k (rfl | h5)
        · exact hm
        · exact (h4 k h5).1
      · rintro ⟨⟨h3, h4⟩, h5⟩
        exact ⟨h4, fun k hk => ⟨h5 k (.inr hk), fun h6 => h3 (h6 ▸ hk)⟩⟩
theorem wmap_nodup {ws : List (ByteArray × Int)} : ((wmap ws).length : Int) = (ws.length : Int) ↔ (ws.map (·.1)).Nodup := by
  have := (wmap_len ws []).2
  simp only [List.length_nil, Nat.zero_add, List.map_nil, List.not_mem_nil, not_false_eq_true, implies_true, and_true] at this
  rw [← this]; unfold wmap; omega
theorem wmap_succ {ws : List (ByteArray × Int)} {i : Nat} {x : ByteArray × Int} (hi : i < ws.length) (hx : ws[i] = x) : V.mput (wmap (ws.take i)) x.1 (.int .i64 x.2) = wmap (ws.take (i + 1)) := by
  subst hx; unfold wmap; rw [List.take_succ_eq_append_getElem hi, List.foldl_append]; rfl
theorem wrB_bad {ws : List (ByteArray × Int)} {i : Nat} {x : ByteArray × Int} (hi : i < ws.length) (hx : ws[i] = x) (h : isKey x.1 = false ∨ ¬ (0 ≤ x.2 ∧ x.2 ≤ 1099511627776)) : wrB ws = false := by
  subst hx
  have : ws.all (fun x => isKey x.1 && decide (0 ≤ x.2 ∧ x.2 ≤ 1099511627776)) = false := by
    rw [List.all_eq_false]
    refine ⟨ws[i], List.getElem_mem hi, ?_⟩
    rcases h with h | h <;> simp [h]
  unfold wrB; rw [this]; rfl
theorem wrB_all {ws : List (ByteArray × Int)} (h : ∀ j (hj : j < ws.length), isKey ws[j].1 = true ∧ 0 ≤ ws[j].2 ∧ ws[j].2 ≤ 1099511627776) : wrB ws = (decide ((ws.map (·.1)).Nodup) && decide (1 ≤ ws.length ∧ ws.length ≤ 8)) := by
  have : ws.all (fun x => isKey x.1 && decide (0 ≤ x.2 ∧ x.2 ≤ 1099511627776)) = true := by
    rw [List.all_eq_true]
    intro x hx
    obtain ⟨j, hj, rfl⟩ := List.mem_iff_getElem.1 hx
    simpa using h j hj
  unfold wrB; rw [this]; rfl
theorem wrB_dup {ws : List (ByteArray × Int)} {i k : Nat} {x y : ByteArray × Int} (hki : k < i) {hi : i < ws.length} {hk : k < ws.length} (hx : ws[k] = x) (hy : ws[i] = y) (h : x.1 = y.1) : wrB ws = false := by
  subst hx hy
  have : ¬ (ws.map (·.1)).Nodup := fun hn => by
    rw [List.nodup_iff_pairwise_ne, List.pairwise_iff_getElem] at hn
    exact hn k i (by simpa using hk) (by simpa using hi) hki (by simpa using h)
  unfold wrB; simp [this]
theorem nodup_of {ws : List (ByteArray × Int)} (h : ∀ i (hi : i < ws.length) k (hk : k < i), ws[k].1 ≠ ws[i].1) : (ws.map (·.1)).Nodup := by
  rw [List.nodup_iff_pairwise_ne, List.pairwise_iff_getElem]
  intro k i hk hi hki
  simpa using h i (by simpa using hi) k hki
/-- is the record right? -/
def recB (r : RecV) : Bool := decide ((0 ≤ r.id ∧ r.id ≤ 1099511627776) ∧ (0 ≤ r.ep ∧ r.ep ≤ 1099511627776) ∧ stR r.aw r.al ∧ stR r.bw r.bl) &&
  (if r.st = 2 then wrB r.ws else if r.st = 0 then decide (r.ep = 0 ∧ (r.bw = 0 ∧ r.bl = 0) ∧ (r.aw = 0 ∧ r.al = 0) ∧ r.ws.length = 0) else if r.st = 1 ∨ r.st = 4 then decide ((r.aw = 0 ∧ r.al = 0) ∧ r.ws.length = 0) else if r.st = 3 then decide (r.ws.length = 0) else false)

set_option maxHeartbeats 4000000 in
set_option maxRecDepth 10000 in
theorem number_ok {w : World}  {n : Int}  :
    Meets Try.prog 38 [.int .i64 n] w fun r w' => r = .bool (decide (0 ≤ n ∧ n ≤ 1099511627776)) ∧ w = w' := by
 refine V.enter (n := 9) Try.func38 rfl rfl (by decide) rfl ?_
 refine V.seq ?_
 refine V.region ?_
 refine V.run T_ok 1 rfl ?_
 refine V.nil ?_
 refine V.tN ?_
 refine V.seq ?_
 refine V.region ?_
 refine V.run T_ok 3 rfl ?_
 refine V.andG T_ok 2 2 5 rfl rfl rfl rfl rfl rfl rfl rfl ?_
 refine V.run T_ok 1 rfl ?_
 refine V.nil ?_
 refine V.tN ?_
 refine V.ret ?_
 refine V.done rfl ?_
 exact ⟨(congrArg Value.bool (by first | rfl | (grind))), rfl⟩

set_option maxHeartbeats 4000000 in
set_option maxRecDepth 10000 in
theorem rnumber_ok {w : World}  {n : Int}  :
    Meets Try.prog 44 [.int .i64 n] w fun r w' => r = .bool (decide (0 ≤ n ∧ n ≤ 1099511627776)) ∧ w = w' := by
 refine V.enter (n := 9) Try.func44 rfl rfl (by decide) rfl ?_
 refine V.seq ?_
 refine V.region ?_
 refine V.run T_ok 1 rfl ?_
 refine V.nil ?_
 refine V.tN ?_
 refine V.seq ?_
 refine V.region ?_
 refine V.run T_ok 3 rfl ?_
 refine V.andG T_ok 2 2 5 rfl rfl rfl rfl rfl rfl rfl rfl ?_
 refine V.run T_ok 1 rfl ?_
 refine V.nil ?_
 refine V.tN ?_
 refine V.ret ?_
 refine V.done rfl ?_
 exact ⟨(congrArg Value.bool (by first | rfl | (grind))), rfl⟩

set_option maxHeartbeats 4000000 in
set_option maxRecDepth 10000 in
theorem written_spec {w : World}  {D_ws : Nat → Prop} {c_ws : Nat} {a_ws : Option Addr} {ws : List (ByteArray × Int)} (F_ws : Sl V.Cod.write w D_ws a_ws c_ws ws) (hD_ws : ∀ k, D_ws k → k < w.heap.size) (hw : keysOk ws) :
    Meets Try.prog 43 [.slice a_ws ws.length c_ws] w fun r w' => r = .bool (wrB ws) ∧ Gr w w' := by
 have HG := V.Fr.refl [] w
 refine V.enter (n := 44) Try.func43 rfl rfl (by decide) rfl ?_
 refine V.seq ?_
 refine V.region ?_
 refine V.run T_ok 1 rfl ?_
 refine V.nil ?_
 refine V.tN ?_
 refine V.seq ?_
 refine V.region ?_
 refine V.mkMap (enc := Value.string) rfl rfl rfl ?_
 rintro k1 w3 s5 s6 G4 F2
 have z7 := V.Fr.size G4
 try replace F_ws := F_ws.gr G4
 replace HG := HG.grow G4
 clear G4
 refine V.run T_ok 1 rfl ?_
 refine V.nil ?_
 refine V.tN ?_
 refine V.seq ?_
 refine V.seq ?_
 refine V.region ?_
 refine V.run T_ok 3 rfl ?_
 refine V.nil ?_
 refine V.tN ?_
 refine V.block ?_
 have hl63 := F_ws.len63
 refine V.loopM (fun m e v10 => Fr [] w v10 ∧ w3.heap.size ≤ v10.heap.size ∧ Sl V.Cod.write v10 D_ws a_ws c_ws ws ∧ ∃ (i : Nat) , m = ws.length - i ∧ i ≤ ws.length ∧ (∀ j (hj : j < ws.length), j < i → isKey ws[j].1 = true ∧ 0 ≤ ws[j].2 ∧ ws[j].2 ≤ 1099511627776) ∧ V.MapB v10 k1 Value.string (wmap (ws.take i)) ∧ e 0 = .slice a_ws ws.length c_ws ∧ e 3 = .map (some k1) ∧ e 7 = .slice a_ws ws.length c_ws ∧ e 8 = .int .i64 (ws.length : Int) ∧ e 9 = .int .i64 (i : Int)) ?_ ?_
 ·
  exact ⟨_, HG, (by omega), F_ws, (0), rfl, (by omega), (fun j hj h => absurd h (Nat.not_lt_zero _)), (by first | exact F2 | exact F2.mono (fun _ h => h.1) (by intro h; omega)), rfl, rfl, rfl, rfl, rfl⟩
 try clear F2
 clear HG F_ws
 rintro _ e v10 ⟨HG, z11, F_ws, i, rfl, hi, hno, F8, he0_0, he0_3, he0_7, he0_8, he0_9⟩
 refine V.knownC (t := 0) he0_0 ?_
 refine V.knownC (t := 3) he0_3 ?_
 refine V.knownC (t := 7) he0_7 ?_
 refine V.knownC (t := 8) he0_8 ?_
 refine V.knownC (t := 9) he0_9 ?_
 refine V.seq ?_
 refine V.region ?_
 refine V.run T_ok 1 rfl ?_
 refine V.nil ?_
 refine V.tN ?_
 refine V.seq ?_
 refine V.condT rfl (fun h3 => ?_) (fun h3 => ?_)
 ·
  try replace h3 := V.dec h3
  try simp only [V.mk0, V.mk1, V.mk2, V.mk3] at h3
  refine V.skip ?_
  refine V.tN ?_
  refine V.seq ?_
  refine V.block ?_
  refine V.seq ?_
  refine V.region ?_
  refine V.elem T_ok F_ws rfl rfl sz49 rfl rfl rfl rfl (by first | omega | (simp only [List.length_take, List.length_drop, List.length_append, List.length_cons, List.length_nil, List.length_replicate, List.length_set, V.length_data, V.S_size]; omega)) (by first | omega | (simp only [List.length_take, List.length_drop, List.length_append, List.length_cons, List.length_nil, List.length_replicate, List.length_set, V.length_data, V.S_size]; omega)) ?_
  rintro b12 o13 cs14 hx15 hb16 hR19 hA17
  obtain ⟨x18, hx18⟩ : ∃ z', ws[((i : Int)).toNat] = z' := ⟨_, rfl⟩
  rw [hx18] at hR19
  obtain ⟨_, _, rfl, rfl, rfl⟩ := hR19
  try simp only [Int.toNat_natCast] at hx18 hx15
  refine V.loadA T_ok (o0 := o13) (off := 0) hA17 rfl rfl rfl rfl rfl ?_
  refine V.alloc zero49 rfl rfl rfl ?_
  rintro k20 w22 s24 s25 G23 Fk21
  have z26 := V.Fr.size G23
  try replace F_ws := F_ws.gr G23
  try replace F8 := F8.gr G23
  replace HG := HG.grow G23
  clear G23
  try simp only [V.cellsL, V.spliceL] at Fk21
  refine V.storeO Fk21 rfl rfl rfl rfl sz49 rfl rfl rfl rfl ?_
  rintro w27 G28 z30 Fs29
  clear Fk21
  have z31 := V.Fr.size G28
  first | replace F_ws := F_ws.mb G28 hD_ws | clear F_ws | skip
  first | replace F8 := F8.mv1 G28 (by first | exact ⟨by omega, by assumption⟩ | exact ⟨by omega, fun h => absurd h.1 (by assumption)⟩ | exact ⟨by omega, fun h => absurd h.1.1 (by assumption)⟩ | exact ⟨by omega, fun h => by first | (have h2 := h.1; have h3 := h.2; omega) | (have h2 := h; dsimp only at h2; omega)⟩ | first | omega | exact fun h => h | exact ⟨by omega, fun h => h⟩ | (intro h; first | (have := hD_ws _ h; omega)) | (refine ⟨by omega, ?_⟩; intro h; first | (have := hD_ws _ h; omega))) | clear F8 | skip
  replace HG := HG.n1 G28
  clear G28
  have Fk21 := Fs29; clear Fs29
  simp only [V.spliceL, V.cellsL] at Fk21
  refine V.nil ?_
  refine V.tN ?_
  refine V.seq ?_
  refine V.seq ?_
  refine V.region ?_
  refine V.run T_ok 1 rfl ?_
  refine V.loadO T_ok Fk21 rfl rfl rfl rfl rfl ?_
  have hks := hw x18 (by rw [← hx18]; exact List.getElem_mem _)
  refine V.call (key_spec (s := x18.1) (by first | omega | decide | (simp only [V.S_size, List.length_cons, List.length_nil]; omega))) rfl rfl rfl ?_
  rintro _ w27_ ⟨rfl, rfl⟩
  refine V.run T_ok 2 rfl ?_
  refine V.split (j := 4) (t := 17) rfl rfl (fun g5_4 => ?_) (fun g5_4 => ?_)
  ·
   try replace g5_4 := V.dec g5_4
   try simp only [V.mk0, V.mk1, V.mk2, V.mk3] at g5_4
   refine V.run T_ok 5 rfl ?_
   refine V.nil ?_
   refine V.tN ?_
   refine V.condY rfl rfl ?_
   refine V.seq ?_
   refine V.region ?_
   refine V.run T_ok 1 rfl ?_
   refine V.nil ?_
   refine V.tN ?_
   refine V.ret ?_
   refine V.tR ?_
   refine V.bR ?_
   refine V.tR ?_
   refine V.tR ?_
   refine V.bR ?_
   refine V.tR ?_
   refine V.done rfl ?_
   exact ⟨congrArg Value.bool (wrB_bad (by omega) hx18 (by first | exact .inl g5_4 | exact .inr h5 | exact .inr (by omega))).symm, HG⟩
  ·
   try replace g5_4 := V.dec g5_4
   try simp only [V.mk0, V.mk1, V.mk2, V.mk3] at g5_4
   refine V.run T_ok 1 rfl ?_
   refine V.yes rfl rfl rfl ?_
   refine V.loadO T_ok Fk21 rfl rfl rfl rfl rfl ?_
   refine V.yes rfl rfl rfl ?_
   refine V.call (number_ok (n := x18.2)) rfl rfl rfl ?_
   rintro _ w27_ ⟨rfl, rfl⟩
   refine V.run T_ok 2 rfl ?_
   refine V.nil ?_
   refine V.tN ?_
   refine V.condT rfl (fun h5 => ?_) (fun h5 => ?_)
   ·
    try replace h5 := V.dec h5
    try simp only [V.mk0, V.mk1, V.mk2, V.mk3] at h5
    refine V.seq ?_
    refine V.region ?_
    refine V.run T_ok 1 rfl ?_
    refine V.nil ?_
    refine V.tN ?_
    refine V.ret ?_
    refine V.tR ?_
    refine V.bR ?_
    refine V.tR ?_
    refine V.tR ?_
    refine V.bR ?_
    refine V.tR ?_
    refine V.done rfl ?_
    exact ⟨congrArg Value.bool (wrB_bad (by omega) hx18 (by first | exact .inl g5_4 | exact .inr h5 | exact .inr (by omega))).symm, HG⟩
   ·
    try replace h5 := V.dec h5
    try simp only [V.mk0, V.mk1, V.mk2, V.mk3] at h5
    refine V.skip ?_
    refine V.tN ?_
    refine V.region ?_
    refine V.run T_ok 2 rfl ?_
    refine V.loadO T_ok Fk21 rfl rfl rfl rfl rfl ?_
    refine V.run T_ok 1 rfl ?_
    refine V.loadO T_ok Fk21 rfl rfl rfl rfl rfl ?_
    refine V.mapUpd (V.key_str Try.underlying9) (.inl rfl) Try.underlying96 F8 rfl rfl rfl rfl rfl ?_
    rintro w34 G35 z36 Fnew
    clear F8
    have z37 := V.Fr.size G35
    first | replace F_ws := F_ws.mb G35 hD_ws | clear F_ws | skip
    first | replace Fk21 := Fk21.mv1 G35 (by omega) | clear Fk21 | skip
    replace HG := HG.n1 G35
    clear G35
    have F8 := Fnew; clear Fnew
    refine V.nil ?_
    refine V.bN ?_
    refine V.tN ?_
    refine V.region ?_
    refine V.addN rfl rfl rfl rfl rfl (by first | omega | (simp only [List.length_take, List.length_drop, List.length_append, List.length_cons, List.length_nil, List.length_replicate, List.length_set, V.length_data, V.S_size]; omega)) (by first | omega | (simp only [List.length_take, List.length_drop, List.length_append, List.length_cons, List.length_nil, List.length_replicate, List.length_set, V.length_data, V.S_size]; omega)) ?_
    refine V.run T_ok 1 rfl ?_
    refine V.nil ?_
    refine V.tN ?_
    have hr38 : V.mput (wmap (ws.take i)) x18.1 (.int .i64 x18.2) = wmap (ws.take (i + 1)) := wmap_succ (by omega) hx18
    rw [hr38] at F8
    clear hr38
    
    exact ⟨_, (by omega), HG, (by omega), F_ws, (i + 1), rfl, (by omega), (fun j hj h => by rcases Nat.lt_or_ge j i with h2 | h2; exact hno j hj h2; obtain rfl : j = i := (by omega); subst_vars; first | exact ⟨g5_4, h5⟩ | exact ⟨by simpa using g5_4, by omega, by omega⟩ | grind), (by first | exact F8 | exact F8.mono (fun _ h => h.1) (by intro h; omega)), rfl, rfl, rfl, rfl, rfl⟩
 ·
  try replace h3 := V.dec h3
  try simp only [V.mk0, V.mk1, V.mk2, V.mk3] at h3
  refine V.exit ?_
  refine V.tX ?_
  refine V.tX ?_
  refine V.bE ?_
  refine V.tN ?_
  refine V.seq ?_
  have hall := wrB_all (ws := ws) (fun j hj => hno j hj (by omega))
  rw [List.take_of_length_le (by omega : ws.length ≤ i)] at *
  refine V.region ?_
  refine V.run T_ok 4 rfl ?_
  refine V.andG T_ok 3 3 32 rfl rfl rfl rfl rfl rfl rfl rfl ?_
  refine V.run T_ok 1 rfl ?_
  refine V.split (j := 8) (t := 37) rfl rfl (fun g9_8 => ?_) (fun g9_8 => ?_)
  ·
   try replace g9_8 := V.dec g9_8
   try simp only [V.mk0, V.mk1, V.mk2, V.mk3] at g9_8
   refine V.run T_ok 1 rfl ?_
   refine V.yes rfl rfl rfl ?_
   refine V.step rfl rfl (V.mlen_run rfl Try.underlying96 F8 rfl) ?_
   refine V.run T_ok 5 rfl ?_
   refine V.nil ?_
   refine V.tN ?_
   refine V.ret ?_
   refine V.done rfl ?_
   exact ⟨congrArg Value.bool (by rw [hall, Bool.eq_iff_iff]; simp only [Bool.and_eq_true, decide_eq_true_eq, wmap_nodup]; grind), HG⟩
  ·
   try replace g9_8 := V.dec g9_8
   try simp only [V.mk0, V.mk1, V.mk2, V.mk3] at g9_8
   refine V.run T_ok 7 rfl ?_
   refine V.nil ?_
   refine V.tN ?_
   refine V.ret ?_
   refine V.done rfl ?_
   exact ⟨congrArg Value.bool (by rw [hall, Bool.eq_iff_iff]; simp only [Bool.and_eq_true, decide_eq_true_eq, wmap_nodup]; grind), HG⟩

set_option maxHeartbeats 4000000 in
set_option maxRecDepth 10000 in
theorem rwritten_spec {w : World}  {D_ws : Nat → Prop} {c_ws : Nat} {a_ws : Option Addr} {ws : List (ByteArray × Int)} (F_ws : Sl V.Cod.write w D_ws a_ws c_ws ws) (hD_ws : ∀ k, D_ws k → k < w.heap.size) (hw : keysOk ws) :
    Meets Try.prog 46 [.slice a_ws ws.length c_ws] w fun r w' => r = .bool (wrB ws) ∧ Gr w w' := by
 have HG := V.Fr.refl [] w
 refine V.enter (n := 55) Try.func46 rfl rfl (by decide) rfl ?_
 refine V.seq ?_
 refine V.region ?_
 refine V.run T_ok 1 rfl ?_
 refine V.nil ?_
 refine V.tN ?_
 refine V.seq ?_
 refine V.seq ?_
 refine V.region ?_
 refine V.run T_ok 1 rfl ?_
 refine V.nil ?_
 refine V.tN ?_
 refine V.block ?_
 have hl63 := F_ws.len63
 refine V.loopM (fun m e v2 => Fr [] w v2 ∧ w.heap.size ≤ v2.heap.size ∧ Sl V.Cod.write v2 D_ws a_ws c_ws ws ∧ ∃ (i : Nat) , m = ws.length - i ∧ i ≤ ws.length ∧ (∀ j (hj : j < ws.length), j < i → isKey ws[j].1 = true ∧ 0 ≤ ws[j].2 ∧ ws[j].2 ≤ 1099511627776) ∧ (∀ i2 (hi2 : i2 < ws.length), i2 < i → ∀ k (hk : k < i2), ws[k].1 ≠ ws[i2].1) ∧ e 0 = .slice a_ws ws.length c_ws ∧ e 3 = .int .i64 (i : Int)) ?_ ?_
 ·
  exact ⟨_, HG, (by omega), F_ws, (0), rfl, (by omega), (fun j hj h => absurd h (Nat.not_lt_zero _)), (fun j hj h => absurd h (Nat.not_lt_zero _)), rfl, rfl⟩
 clear HG F_ws
 rintro _ e v2 ⟨HG, z3, F_ws, i, rfl, hi, hno, hnd, he0_0, he0_3⟩
 refine V.knownC (t := 0) he0_0 ?_
 refine V.knownC (t := 3) he0_3 ?_
 refine V.seq ?_
 refine V.seq ?_
 refine V.region ?_
 refine V.run T_ok 4 rfl ?_
 refine V.nil ?_
 refine V.tN ?_
 refine V.condT rfl (fun h2 => ?_) (fun h2 => ?_)
 ·
  try replace h2 := V.dec h2
  try simp only [V.mk0, V.mk1, V.mk2, V.mk3] at h2
  refine V.skip ?_
  refine V.tN ?_
  refine V.seq ?_
  refine V.block ?_
  refine V.seq ?_
  refine V.region ?_
  refine V.run T_ok 2 rfl ?_
  refine V.elem T_ok F_ws rfl rfl sz49 rfl rfl rfl rfl (by first | omega | (simp only [List.length_take, List.length_drop, List.length_append, List.length_cons, List.length_nil, List.length_replicate, List.length_set, V.length_data, V.S_size]; omega)) (by first | omega | (simp only [List.length_take, List.length_drop, List.length_append, List.length_cons, List.length_nil, List.length_replicate, List.length_set, V.length_data, V.S_size]; omega)) ?_
  rintro b4 o5 cs6 hx7 hb8 hR11 hA9
  obtain ⟨x10, hx10⟩ : ∃ z', ws[((i : Int)).toNat] = z' := ⟨_, rfl⟩
  rw [hx10] at hR11
  obtain ⟨_, _, rfl, rfl, rfl⟩ := hR11
  try simp only [Int.toNat_natCast] at hx10 hx7
  refine V.run T_ok 1 rfl ?_
  refine V.loadA T_ok (o0 := o5) (off := 0) hA9 rfl rfl rfl rfl rfl ?_
  have hks := hw x10 (by rw [← hx10]; exact List.getElem_mem _)
  refine V.call (rkey_spec (s := x10.1) (by first | omega | decide | (simp only [V.S_size, List.length_cons, List.length_nil]; omega))) rfl rfl rfl ?_
  rintro _ v2_ ⟨rfl, rfl⟩
  refine V.run T_ok 1 rfl ?_
  refine V.nil ?_
  refine V.tN ?_
  refine V.seq ?_
  refine V.region ?_
  refine V.run T_ok 2 rfl ?_
  refine V.elem T_ok F_ws rfl rfl sz49 rfl rfl rfl rfl (by first | omega | (simp only [List.length_take, List.length_drop, List.length_append, List.length_cons, List.length_nil, List.length_replicate, List.length_set, V.length_data, V.S_size]; omega)) (by first | omega | (simp only [List.length_take, List.length_drop, List.length_append, List.length_cons, List.length_nil, List.length_replicate, List.length_set, V.length_data, V.S_size]; omega)) ?_
  rintro b13 o14 cs15 hx16 hb17 hR20 hA18
  obtain ⟨x19, hx19⟩ : ∃ z', ws[((i : Int)).toNat] = z' := ⟨_, rfl⟩
  rw [hx19] at hR20
  obtain ⟨_, _, rfl, rfl, rfl⟩ := hR20
  try simp only [Int.toNat_natCast] at hx19 hx16
  obtain rfl : x10 = x19 := hx10.symm.trans hx19
  refine V.run T_ok 1 rfl ?_
  refine V.loadA T_ok (o0 := o14) (off := 1) hA18 rfl rfl rfl rfl rfl ?_
  refine V.call (rnumber_ok (n := x10.2)) rfl rfl rfl ?_
  rintro _ v2_ ⟨rfl, rfl⟩
  refine V.run T_ok 1 rfl ?_
  refine V.nil ?_
  refine V.tN ?_
  refine V.seq ?_
  refine V.seq ?_
  refine V.region ?_
  refine V.run T_ok 3 rfl ?_
  refine V.orG T_ok 2 2 27 rfl rfl rfl rfl rfl rfl rfl rfl ?_
  refine V.nil ?_
  refine V.tN ?_
  refine V.condT rfl (fun h6 => ?_) (fun h6 => ?_)
  ·
   try replace h6 := V.dec h6
   try simp only [V.mk0, V.mk1, V.mk2, V.mk3] at h6
   refine V.seq ?_
   refine V.region ?_
   refine V.run T_ok 1 rfl ?_
   refine V.nil ?_
   refine V.tN ?_
   refine V.ret ?_
   refine V.tR ?_
   refine V.bR ?_
   refine V.tR ?_
   refine V.tR ?_
   refine V.bR ?_
   refine V.tR ?_
   refine V.done rfl ?_
   exact ⟨congrArg Value.bool (wrB_bad (by omega) hx10 (by first | exact h6 | exact .inl g6_2 | exact .inr h6 | exact .inr (by omega))).symm, HG⟩
  ·
   try replace h6 := V.dec h6
   try simp only [V.mk0, V.mk1, V.mk2, V.mk3] at h6
   refine V.skip ?_
   refine V.tN ?_
   refine V.seq ?_
   refine V.region ?_
   refine V.run T_ok 1 rfl ?_
   refine V.nil ?_
   refine V.tN ?_
   refine V.block ?_
   refine V.loopM (fun m e v23 => Fr [] w v23 ∧ v2.heap.size ≤ v23.heap.size ∧ Sl V.Cod.write v23 D_ws a_ws c_ws ws ∧ ∃ (k : Nat) , m = i - k ∧ k ≤ i ∧ (∀ a (ha : a < i), a < k → ws[a].1 ≠ ws[i].1) ∧ e 0 = .slice a_ws ws.length c_ws ∧ e 3 = .int .i64 (i : Int) ∧ e 6 = .int .i64 (k : Int)) ?_ ?_
   ·
    exact ⟨_, HG, (by omega), F_ws, (0), rfl, (by omega), (fun j hj h => absurd h (Nat.not_lt_zero _)), rfl, rfl, rfl⟩
   clear HG F_ws
   rintro _ e v23 ⟨HG, z24, F_ws, k, rfl, hki, hnk, he1_0, he1_3, he1_6⟩
   refine V.knownC (t := 0) he1_0 ?_
   refine V.knownC (t := 3) he1_3 ?_
   refine V.knownC (t := 6) he1_6 ?_
   refine V.seq ?_
   refine V.seq ?_
   refine V.region ?_
   refine V.run T_ok 3 rfl ?_
   refine V.nil ?_
   refine V.tN ?_
   refine V.condT rfl (fun h9 => ?_) (fun h9 => ?_)
   ·
    try replace h9 := V.dec h9
    try simp only [V.mk0, V.mk1, V.mk2, V.mk3] at h9
    refine V.skip ?_
    refine V.tN ?_
    refine V.seq ?_
    refine V.block ?_
    refine V.seq ?_
    refine V.drawQ mixed (by kernel_rfl) ?_
    refine V.qrun T_ok 2 rfl ?_
    refine V.qelem T_ok F_ws rfl rfl sz49 rfl rfl rfl rfl (by first | omega | (simp only [List.length_take, List.length_drop, List.length_append, List.length_cons, List.length_nil, List.length_replicate, List.length_set, V.length_data, V.S_size]; omega)) (by first | omega | (simp only [List.length_take, List.length_drop, List.length_append, List.length_cons, List.length_nil, List.length_replicate, List.length_set, V.length_data, V.S_size]; omega)) ?_
    rintro b25 o26 cs27 hx28 hb29 hR32 hA30
    obtain ⟨x31, hx31⟩ : ∃ z', ws[((k : Int)).toNat] = z' := ⟨_, rfl⟩
    rw [hx31] at hR32
    obtain ⟨_, _, rfl, rfl, rfl⟩ := hR32
    try simp only [Int.toNat_natCast] at hx31 hx28
    refine V.qrun T_ok 1 rfl ?_
    refine V.qloadA T_ok (o0 := o26) (off := 0) hA30 rfl rfl rfl rfl rfl ?_
    refine V.qrun T_ok 2 rfl ?_
    refine V.qelem T_ok F_ws rfl rfl sz49 rfl rfl rfl rfl (by first | omega | (simp only [List.length_take, List.length_drop, List.length_append, List.length_cons, List.length_nil, List.length_replicate, List.length_set, V.length_data, V.S_size]; omega)) (by first | omega | (simp only [List.length_take, List.length_drop, List.length_append, List.length_cons, List.length_nil, List.length_replicate, List.length_set, V.length_data, V.S_size]; omega)) ?_
    rintro b33 o34 cs35 hx36 hb37 hR40 hA38
    obtain ⟨x39, hx39⟩ : ∃ z', ws[((i : Int)).toNat] = z' := ⟨_, rfl⟩
    rw [hx39] at hR40
    obtain ⟨_, _, rfl, rfl, rfl⟩ := hR40
    try simp only [Int.toNat_natCast] at hx39 hx36
    refine V.qrun T_ok 1 rfl ?_
    refine V.qloadA T_ok (o0 := o34) (off := 0) hA38 rfl rfl rfl rfl rfl ?_
    refine V.qrun T_ok 1 rfl ?_
    refine V.qnil ?_
    rintro w41 G42
    have z43 := V.Fr.size G42
    try replace F_ws := F_ws.gr G42
    replace HG := HG.grow G42
    clear G42
    refine V.tN ?_
    refine V.condT rfl (fun h11 => ?_) (fun h11 => ?_)
    ·
     try replace h11 := V.dec h11
     try simp only [V.mk0, V.mk1, V.mk2, V.mk3] at h11
     refine V.seq ?_
     refine V.region ?_
     refine V.run T_ok 1 rfl ?_
     refine V.nil ?_
     refine V.tN ?_
     refine V.ret ?_
     refine V.bR ?_
     refine V.tR ?_
     refine V.tR ?_
     refine V.bR ?_
     refine V.bR ?_
     refine V.tR ?_
     refine V.tR ?_
     refine V.bR ?_
     refine V.tR ?_
     refine V.done rfl ?_
     exact ⟨congrArg Value.bool (wrB_dup (i := i) (k := k) (by omega) (hi := by omega) (hk := by omega) hx31 hx39 h11).symm, HG⟩
    ·
     try replace h11 := V.dec h11
     try simp only [V.mk0, V.mk1, V.mk2, V.mk3] at h11
     refine V.skip ?_
     refine V.bN ?_
     refine V.tN ?_
     refine V.region ?_
     refine V.run T_ok 1 rfl ?_
     refine V.addN rfl rfl rfl rfl rfl (by first | omega | (simp only [List.length_take, List.length_drop, List.length_append, List.length_cons, List.length_nil, List.length_replicate, List.length_set, V.length_data, V.S_size]; omega)) (by first | omega | (simp only [List.length_take, List.length_drop, List.length_append, List.length_cons, List.length_nil, List.length_replicate, List.length_set, V.length_data, V.S_size]; omega)) ?_
     refine V.run T_ok 1 rfl ?_
     refine V.nil ?_
     refine V.tN ?_
     exact ⟨_, (by omega), HG, (by omega), F_ws, (k + 1), rfl, (by omega), (fun a ha h => by rcases Nat.lt_or_ge a k with h2 | h2; exact hnk a ha h2; obtain rfl : a = k := (by omega); subst_vars; assumption), rfl, rfl, rfl⟩
   ·
    try replace h9 := V.dec h9
    try simp only [V.mk0, V.mk1, V.mk2, V.mk3] at h9
    refine V.exit ?_
    refine V.tX ?_
    refine V.tX ?_
    refine V.bE ?_
    refine V.bN ?_
    refine V.tN ?_
    refine V.region ?_
    refine V.run T_ok 1 rfl ?_
    refine V.addN rfl rfl rfl rfl rfl (by first | omega | (simp only [List.length_take, List.length_drop, List.length_append, List.length_cons, List.length_nil, List.length_replicate, List.length_set, V.length_data, V.S_size]; omega)) (by first | omega | (simp only [List.length_take, List.length_drop, List.length_append, List.length_cons, List.length_nil, List.length_replicate, List.length_set, V.length_data, V.S_size]; omega)) ?_
    refine V.run T_ok 1 rfl ?_
    refine V.nil ?_
    refine V.tN ?_
    exact ⟨_, (by omega), HG, (by omega), F_ws, (i + 1), rfl, (by omega), (fun j hj h => by rcases Nat.lt_or_ge j i with h2 | h2; exact hno j hj h2; obtain rfl : j = i := (by omega); subst_vars; first | exact ⟨g6_2, h6⟩ | exact ⟨by simpa using g6_2, by omega, by omega⟩ | grind), (fun j hj h => by rcases Nat.lt_or_ge j i with h2 | h2; exact hnd j hj h2; obtain rfl : j = i := (by omega); exact fun k2 hk2 => hnk k2 (by omega) (by omega)), rfl, rfl⟩
 ·
  try replace h2 := V.dec h2
  try simp only [V.mk0, V.mk1, V.mk2, V.mk3] at h2
  refine V.exit ?_
  refine V.tX ?_
  refine V.tX ?_
  refine V.bE ?_
  refine V.tN ?_
  refine V.seq ?_
  have hall := wrB_all (ws := ws) (fun j hj => hno j hj (by omega))
  have hndp := nodup_of (ws := ws) (fun i2 hi2 k hk => hnd i2 hi2 (by omega) k hk)
  refine V.region ?_
  refine V.run T_ok 4 rfl ?_
  refine V.andG T_ok 3 3 50 rfl rfl rfl rfl rfl rfl rfl rfl ?_
  refine V.run T_ok 1 rfl ?_
  refine V.nil ?_
  refine V.tN ?_
  refine V.ret ?_
  refine V.done rfl ?_
  exact ⟨congrArg Value.bool (by rw [hall, Bool.eq_iff_iff]; simp only [Bool.and_eq_true, decide_eq_true_eq]; grind), HG⟩

set_option maxHeartbeats 4000000 in
set_option maxRecDepth 10000 in
theorem cloneW_spec {w : World}  {D_ws : Nat → Prop} {c_ws : Nat} {a_ws : Option Addr} {ws : List (ByteArray × Int)} (F_ws : Sl V.Cod.write w D_ws a_ws c_ws ws) (hD_ws : ∀ k, D_ws k → k < w.heap.size) (hl : ws.length ≤ 5864062014805) :
    Meets Try.prog 68 [.slice a_ws ws.length c_ws] w fun r w' => ∃ (ra19 : Option Addr) (rc19 : Nat), r = .slice ra19 ws.length rc19 ∧ V.Row V.Cod.write 49 w' V.None' w.heap.size w'.heap.size ra19 rc19 ws ∧ Gr w w' := by
 have HG := V.Fr.refl [] w
 refine V.enter (n := 8) Try.func68 rfl rfl (by decide) rfl ?_
 refine V.seq ?_
 refine V.region ?_
 refine V.run T_ok 1 rfl ?_
 refine V.nil ?_
 refine V.tN ?_
 refine V.seq ?_
 refine V.seq ?_
 refine V.region ?_
 refine V.run T_ok 2 rfl ?_
 refine V.nil ?_
 refine V.tN ?_
 refine V.condT rfl (fun h1 => ?_) (fun h1 => ?_)
 ·
  try replace h1 := V.dec h1
  try simp only [V.mk0, V.mk1, V.mk2, V.mk3] at h1
  refine V.seq ?_
  refine V.region ?_
  refine V.run T_ok 1 rfl ?_
  refine V.nil ?_
  refine V.tN ?_
  refine V.ret ?_
  refine V.tR ?_
  refine V.done rfl ?_
  have ha : a_ws = none := by cases a_ws with
    | none => rfl
    | some _ => simp at h1
  have hb := F_ws.none ha
  subst hb
  exact ⟨none, 0, (by first | rfl | simp only [List.length_set]), V.Row.nil, HG⟩
 ·
  try replace h1 := V.dec h1
  try simp only [V.mk0, V.mk1, V.mk2, V.mk3] at h1
  refine V.skip ?_
  refine V.tN ?_
  refine V.seq ?_
  refine V.region ?_
  refine V.mkSlice T_ok zero49 rfl rfl sz49 rfl rfl rfl rfl rfl rfl ?_
  rintro k1 w4 s6 s7 G5 Fk2
  have z8 := V.Fr.size G5
  try replace F_ws := F_ws.gr G5
  replace HG := HG.grow G5
  clear G5
  have F3 := V.rowOfC (xs := ([] : List (ByteArray × Int))) Fk2 (C := V.Cod.write) rfl rfl
  clear Fk2
  refine V.run T_ok 1 rfl ?_
  refine V.appendR (F3) (V.From.flat V.flat_write (D' := V.None') (F_ws.from Try.underlying25)) elT25_25 rfl rfl rfl rfl rfl (by first | omega | (simp only [List.length_take, List.length_drop, List.length_append, List.length_cons, List.length_nil, List.length_replicate, List.length_set, V.length_data, V.S_size]; omega)) (by unfold maxLen; first | omega | (simp only [List.length_take, List.length_drop, List.length_append, List.length_cons, List.length_nil, List.length_replicate, List.length_set, V.length_data, V.S_size]; omega)) (by omega) (by omega) (fun _ h => h.elim) (fun _ h => h.elim) ?_
  rintro a9 c10 w12 G13 s14 F11
  clear F3
  have z15 := Go.RowKit.Below.size G13
  first | replace F_ws := V.Sl.bl F_ws G13 (by first | exact (fun _ h => by have := h.2; omega) | (intro k h; have := hD_ws k h; omega)) | clear F_ws | skip
  replace HG := HG.bl (Go.RowKit.Below.mono G13 (by omega))
  clear G13
  refine V.run T_ok 1 rfl ?_
  refine V.nil ?_
  refine V.tN ?_
  refine V.ret ?_
  refine V.done rfl ?_
  exact ⟨a9, c10, (by first | rfl | simp only [List.length_set]), F11.re, HG⟩

set_option maxHeartbeats 4000000 in
set_option maxRecDepth 10000 in
theorem equalW_spec {w : World}  {D_xs : Nat → Prop} {c_xs : Nat} {a_xs : Option Addr} {xs : List (ByteArray × Int)} (F_xs : Sl V.Cod.write w D_xs a_xs c_xs xs) {D_ys : Nat → Prop} {c_ys : Nat} {a_ys : Option Addr} {ys : List (ByteArray × Int)} (F_ys : Sl V.Cod.write w D_ys a_ys c_ys ys)  :
    Meets Try.prog 41 [.slice a_xs xs.length c_xs, .slice a_ys ys.length c_ys] w fun r w' => r = .bool (decide (xs = ys)) ∧ Gr w w' := by
 have HG := V.Fr.refl [] w
 refine V.enter (n := 26) Try.func41 rfl rfl (by decide) rfl ?_
 refine V.seq ?_
 refine V.region ?_
 refine V.run T_ok 1 rfl ?_
 refine V.nil ?_
 refine V.tN ?_
 refine V.seq ?_
 refine V.seq ?_
 refine V.region ?_
 refine V.run T_ok 5 rfl ?_
 refine V.nil ?_
 refine V.tN ?_
 refine V.condT rfl (fun h1 => ?_) (fun h1 => ?_)
 ·
  try replace h1 := V.dec h1
  try simp only [V.mk0, V.mk1, V.mk2, V.mk3] at h1
  refine V.seq ?_
  refine V.region ?_
  refine V.run T_ok 1 rfl ?_
  refine V.nil ?_
  refine V.tN ?_
  refine V.ret ?_
  refine V.tR ?_
  refine V.done rfl ?_
  exact ⟨congrArg Value.bool (decide_eq_false (fun h => h1 (by rw [h]))).symm, HG⟩
 ·
  try replace h1 := V.dec h1
  try simp only [V.mk0, V.mk1, V.mk2, V.mk3] at h1
  refine V.skip ?_
  refine V.tN ?_
  refine V.seq ?_
  refine V.seq ?_
  refine V.region ?_
  refine V.run T_ok 3 rfl ?_
  refine V.nil ?_
  refine V.tN ?_
  refine V.block ?_
  have hl63 := F_xs.len63
  refine V.loopM (fun m e v2 => Fr [] w v2 ∧ w.heap.size ≤ v2.heap.size ∧ Sl V.Cod.write v2 D_xs a_xs c_xs xs ∧ Sl V.Cod.write v2 D_ys a_ys c_ys ys ∧ ∃ (i : Nat) , m = xs.length - i ∧ i ≤ xs.length ∧ (∀ j (hj : j < xs.length) (hj2 : j < ys.length), j < i → xs[j] = ys[j]) ∧ e 0 = .slice a_xs xs.length c_xs ∧ e 1 = .slice a_ys ys.length c_ys ∧ e 12 = .int .i64 (xs.length : Int) ∧ e 13 = .int .i64 (i : Int)) ?_ ?_
  ·
   exact ⟨_, HG, (by omega), F_xs, F_ys, (0), rfl, (by omega), (fun j hj hj2 h => absurd h (Nat.not_lt_zero _)), rfl, rfl, rfl, rfl⟩
  clear HG F_xs F_ys
  rintro _ e v2 ⟨HG, z3, F_xs, F_ys, i, rfl, hi, hno, he0_0, he0_1, he0_12, he0_13⟩
  refine V.knownC (t := 0) he0_0 ?_
  refine V.knownC (t := 1) he0_1 ?_
  refine V.knownC (t := 12) he0_12 ?_
  refine V.knownC (t := 13) he0_13 ?_
  refine V.seq ?_
  refine V.region ?_
  refine V.run T_ok 1 rfl ?_
  refine V.nil ?_
  refine V.tN ?_
  refine V.seq ?_
  refine V.condT rfl (fun h4 => ?_) (fun h4 => ?_)
  ·
   try replace h4 := V.dec h4
   try simp only [V.mk0, V.mk1, V.mk2, V.mk3] at h4
   refine V.skip ?_
   refine V.tN ?_
   refine V.seq ?_
   refine V.block ?_
   refine V.seq ?_
   refine V.region ?_
   refine V.run T_ok 2 rfl ?_
   refine V.nil ?_
   refine V.tN ?_
   refine V.seq ?_
   refine V.drawQ mixed (by kernel_rfl) ?_
   refine V.qrun T_ok 2 rfl ?_
   refine V.qelem T_ok F_xs rfl rfl sz49 rfl rfl rfl rfl (by first | omega | (simp only [List.length_take, List.length_drop, List.length_append, List.length_cons, List.length_nil, List.length_replicate, List.length_set, V.length_data, V.S_size]; omega)) (by first | omega | (simp only [List.length_take, List.length_drop, List.length_append, List.length_cons, List.length_nil, List.length_replicate, List.length_set, V.length_data, V.S_size]; omega)) ?_
   rintro b4 o5 cs6 hx7 hb8 hR11 hA9
   obtain ⟨x10, hx10⟩ : ∃ z', xs[((i : Int)).toNat] = z' := ⟨_, rfl⟩
   rw [hx10] at hR11
   obtain ⟨_, _, rfl, rfl, rfl⟩ := hR11
   try simp only [Int.toNat_natCast] at hx10 hx7
   refine V.qloadA T_ok (o0 := o5) (off := 0) hA9 rfl rfl rfl rfl rfl ?_
   refine V.qrun T_ok 2 rfl ?_
   refine V.qelem T_ok F_ys rfl rfl sz49 rfl rfl rfl rfl (by first | omega | (simp only [List.length_take, List.length_drop, List.length_append, List.length_cons, List.length_nil, List.length_replicate, List.length_set, V.length_data, V.S_size]; omega)) (by first | omega | (simp only [List.length_take, List.length_drop, List.length_append, List.length_cons, List.length_nil, List.length_replicate, List.length_set, V.length_data, V.S_size]; omega)) ?_
   rintro b12 o13 cs14 hx15 hb16 hR19 hA17
   obtain ⟨x18, hx18⟩ : ∃ z', ys[((i : Int)).toNat] = z' := ⟨_, rfl⟩
   rw [hx18] at hR19
   obtain ⟨_, _, rfl, rfl, rfl⟩ := hR19
   try simp only [Int.toNat_natCast] at hx18 hx15
   refine V.qloadA T_ok (o0 := o13) (off := 0) hA17 rfl rfl rfl rfl rfl ?_
   refine V.qstep rfl rfl (fun _ _ => V.neA_run rfl rfl rfl eqG49 (eqS49 _)) ?_
   refine V.qnil ?_
   rintro w20 G21
   have z22 := V.Fr.size G21
   try replace F_xs := F_xs.gr G21
   try replace F_ys := F_ys.gr G21
   replace HG := HG.grow G21
   clear G21
   refine V.tN ?_
   refine V.condT rfl (fun h6 => ?_) (fun h6 => ?_)
   ·
    try replace h6 := V.dec h6
    try simp only [V.mk0, V.mk1, V.mk2, V.mk3] at h6
    refine V.seq ?_
    refine V.region ?_
    refine V.run T_ok 1 rfl ?_
    refine V.nil ?_
    refine V.tN ?_
    refine V.ret ?_
    refine V.bR ?_
    refine V.tR ?_
    refine V.tR ?_
    refine V.bR ?_
    refine V.tR ?_
    refine V.done rfl ?_
    exact ⟨congrArg Value.bool (decide_eq_false (fun h => by subst h; subst_vars; simp at h6)).symm, HG⟩
   ·
    try replace h6 := V.dec h6
    try simp only [V.mk0, V.mk1, V.mk2, V.mk3] at h6
    refine V.skip ?_
    refine V.bN ?_
    refine V.tN ?_
    refine V.region ?_
    refine V.addN rfl rfl rfl rfl rfl (by first | omega | (simp only [List.length_take, List.length_drop, List.length_append, List.length_cons, List.length_nil, List.length_replicate, List.length_set, V.length_data, V.S_size]; omega)) (by first | omega | (simp only [List.length_take, List.length_drop, List.length_append, List.length_cons, List.length_nil, List.length_replicate, List.length_set, V.length_data, V.S_size]; omega)) ?_
    refine V.run T_ok 1 rfl ?_
    refine V.nil ?_
    refine V.tN ?_
    exact ⟨_, (by omega), HG, (by omega), F_xs, F_ys, (i + 1), rfl, (by omega), (fun j hj hj2 h => by rcases Nat.lt_or_ge j i with h2 | h2; exact hno j hj hj2 h2; obtain rfl : j = i := (by omega); subst_vars; grind), rfl, rfl, rfl, rfl⟩
  ·
   try replace h4 := V.dec h4
   try simp only [V.mk0, V.mk1, V.mk2, V.mk3] at h4
   refine V.exit ?_
   refine V.tX ?_
   refine V.tX ?_
   refine V.bE ?_
   refine V.tN ?_
   refine V.seq ?_
   refine V.region ?_
   refine V.run T_ok 1 rfl ?_
   refine V.nil ?_
   refine V.tN ?_
   refine V.ret ?_
   refine V.done rfl ?_
   exact ⟨congrArg Value.bool (decide_eq_true (List.ext_getElem (by omega) fun j h1 h2 => hno j h1 h2 (by omega))).symm, HG⟩


def ovE (st : Int) : Int := if st = 3 then 83 else if st = 4 then 122 else 0
/-- what a beat makes of a record -/
def rBeat (d : RecV) (ep nw nl : Int) : RecV × Int :=
  if ¬ ((0 ≤ ep ∧ ep ≤ 1099511627776) ∧ stR nw nl) then (d, 1) else if d.st = 3 then (d, 0) else if d.st = 4 then (d, 122) else if ep < d.ep then (d, 84)
  else if d.st = 0 ∨ d.ep < ep then (⟨d.id, ep, 1, 0, 0, (maxSt d.bw d.bl nw nl).1, (maxSt d.bw d.bl nw nl).2, []⟩, 0)
  else (⟨d.id, d.ep, d.st, d.aw, d.al, (maxSt d.bw d.bl nw nl).1, (maxSt d.bw d.bl nw nl).2, d.ws⟩, 0)

set_option maxHeartbeats 4000000 in
set_option maxRecDepth 10000 in
theorem copied_spec {w : World} {d : RecV} {D_o : Nat → Prop} {c_o : Nat} {a_o : Option Addr} (F_o : Sl V.Cod.write w D_o a_o c_o d.ws) (hD_o : ∀ k, D_o k → k < w.heap.size)  (hl : d.ws.length ≤ 5864062014805) :
    Meets Try.prog 37 [.agg #[.int .i64 d.id, .int .i64 d.ep, .int .i64 d.st, .int .i64 d.aw, .int .i64 d.al, .int .i64 d.bw, .int .i64 d.bl, .slice a_o d.ws.length c_o]] w fun r w' => ∃ (ra20 : Option Addr) (rc20 : Nat), r = .agg #[.int .i64 d.id, .int .i64 d.ep, .int .i64 d.st, .int .i64 d.aw, .int .i64 d.al, .int .i64 d.bw, .int .i64 d.bl, .slice ra20 d.ws.length rc20] ∧ Sl V.Cod.write w' (V.In w.heap.size w'.heap.size) ra20 rc20 d.ws ∧ Gr w w' := by
 have HG := V.Fr.refl [] w
 refine V.enter (n := 8) Try.func37 rfl rfl (by decide) rfl ?_
 refine V.seq ?_
 refine V.region ?_
 refine V.box rfl rfl rfl rfl ?_
 rintro k1 w3 s5 s6 G4 Fk2
 have z7 := V.Fr.size G4
 try replace F_o := F_o.gr G4
 replace HG := HG.grow G4
 clear G4
 try simp only [V.cellsL, V.spliceL] at Fk2
 refine V.alloc zero27 rfl rfl rfl ?_
 rintro k8 w10 s12 s13 G11 Fk9
 have z14 := V.Fr.size G11
 try replace F_o := F_o.gr G11
 try replace Fk2 := Fk2.gr G11
 replace HG := HG.grow G11
 clear G11
 try simp only [V.cellsL, V.spliceL] at Fk9
 refine V.nil ?_
 refine V.tN ?_
 refine V.seq ?_
 refine V.region ?_
 refine V.run T_ok 1 rfl ?_
 refine V.loadO T_ok Fk2 rfl rfl rfl rfl rfl ?_
 refine V.call (cloneW_spec F_o (fun k hk => by have := hD_o k hk; omega) (by first | omega | (simp only [List.length_take, List.length_drop, List.length_append, List.length_cons, List.length_nil, List.length_replicate, List.length_set, V.length_data, V.S_size]; omega))) rfl rfl rfl ?_
 rintro _ w18 ⟨a15, c16, rfl, F17, G19⟩
 have z20 := V.Fr.size G19
 try replace F_o := F_o.gr G19
 try replace Fk2 := Fk2.gr G19
 try replace Fk9 := Fk9.gr G19
 replace HG := HG.grow G19
 clear G19
 refine V.run T_ok 1 rfl ?_
 refine V.storeO Fk2 rfl rfl rfl rfl sz25 rfl rfl rfl rfl ?_
 rintro w21 G22 z24 Fs23
 clear Fk2
 have z25 := V.Fr.size G22
 first | replace F_o := F_o.mb G22 hD_o | clear F_o | skip
 first | replace Fk9 := Fk9.mv1 G22 (by omega) | clear Fk9 | skip
 first | replace F17 := F17.ma G22 | clear F17 | skip
 replace HG := HG.n1 G22
 clear G22
 have Fk2 := Fs23; clear Fs23
 simp only [V.spliceL, V.cellsL] at Fk2
 refine V.nil ?_
 refine V.tN ?_
 refine V.seq ?_
 refine V.region ?_
 refine V.loadO T_ok Fk2 rfl rfl rfl rfl rfl ?_
 refine V.storeO Fk9 rfl rfl rfl rfl sz27 rfl rfl rfl rfl ?_
 rintro w26 G27 z29 Fs28
 clear Fk9
 have z30 := V.Fr.size G27
 first | replace F_o := F_o.mb G27 hD_o | clear F_o | skip
 first | replace F17 := F17.ma G27 | clear F17 | skip
 first | replace Fk2 := Fk2.mv1 G27 (by omega) | clear Fk2 | skip
 replace HG := HG.n1 G27
 clear G27
 have Fk9 := Fs28; clear Fs28
 simp only [V.spliceL, V.cellsL] at Fk9
 refine V.nil ?_
 refine V.tN ?_
 refine V.ret ?_
 refine V.done1 rfl (V.resV_cell T_ok Fk9 rfl rfl) ?_
 exact ⟨a15, c16, (by first | rfl | simp only [List.length_set]), F17.sl.re, HG⟩

set_option maxHeartbeats 4000000 in
set_option maxRecDepth 10000 in
theorem copy_spec {w : World} {d : RecV} {D_o : Nat → Prop} {c_o : Nat} {a_o : Option Addr} (F_o : Sl V.Cod.write w D_o a_o c_o d.ws) (hD_o : ∀ k, D_o k → k < w.heap.size)  (hl : d.ws.length ≤ 5864062014805) :
    Meets Try.prog 14 [.agg #[.int .i64 d.id, .int .i64 d.ep, .int .i64 d.st, .int .i64 d.aw, .int .i64 d.al, .int .i64 d.bw, .int .i64 d.bl, .slice a_o d.ws.length c_o]] w fun r w' => ∃ (ra21 : Option Addr) (rc21 : Nat), r = .agg #[.int .i64 d.id, .int .i64 d.ep, .int .i64 d.st, .int .i64 d.aw, .int .i64 d.al, .int .i64 d.bw, .int .i64 d.bl, .slice ra21 d.ws.length rc21] ∧ Sl V.Cod.write w' (V.In w.heap.size w'.heap.size) ra21 rc21 d.ws ∧ Gr w w' := by
 have HG := V.Fr.refl [] w
 refine V.enter (n := 9) Try.func14 rfl rfl (by decide) rfl ?_
 refine V.seq ?_
 refine V.region ?_
 refine V.box rfl rfl rfl rfl ?_
 rintro k1 w3 s5 s6 G4 Fk2
 have z7 := V.Fr.size G4
 try replace F_o := F_o.gr G4
 replace HG := HG.grow G4
 clear G4
 try simp only [V.cellsL, V.spliceL] at Fk2
 refine V.alloc zero27 rfl rfl rfl ?_
 rintro k8 w10 s12 s13 G11 Fk9
 have z14 := V.Fr.size G11
 try replace F_o := F_o.gr G11
 try replace Fk2 := Fk2.gr G11
 replace HG := HG.grow G11
 clear G11
 try simp only [V.cellsL, V.spliceL] at Fk9
 refine V.nil ?_
 refine V.tN ?_
 refine V.seq ?_
 refine V.region ?_
 refine V.mkSlice T_ok zero49 rfl rfl sz49 rfl rfl rfl rfl rfl rfl ?_
 rintro k15 w18 s20 s21 G19 Fk16
 have z22 := V.Fr.size G19
 try replace F_o := F_o.gr G19
 try replace Fk2 := Fk2.gr G19
 try replace Fk9 := Fk9.gr G19
 replace HG := HG.grow G19
 clear G19
 have F17 := V.rowOfC (xs := ([] : List (ByteArray × Int))) Fk16 (C := V.Cod.write) rfl rfl
 clear Fk16
 refine V.run T_ok 1 rfl ?_
 refine V.loadO T_ok Fk2 rfl rfl rfl rfl rfl ?_
 refine V.appendR (F17) (V.From.flat V.flat_write (D' := V.None') (F_o.from Try.underlying25)) elT25_25 rfl rfl rfl rfl rfl (by first | omega | (simp only [List.length_take, List.length_drop, List.length_append, List.length_cons, List.length_nil, List.length_replicate, List.length_set, V.length_data, V.S_size]; omega)) (by unfold maxLen; first | omega | (simp only [List.length_take, List.length_drop, List.length_append, List.length_cons, List.length_nil, List.length_replicate, List.length_set, V.length_data, V.S_size]; omega)) (by omega) (by omega) (fun _ h => h.elim) (fun _ h => h.elim) ?_
 rintro a23 c24 w26 G27 s28 F25
 clear F17
 have z29 := Go.RowKit.Below.size G27
 first | replace F_o := V.Sl.bl F_o G27 (by first | exact (fun _ h => by have := h.2; omega) | (intro k h; have := hD_o k h; omega)) | clear F_o | skip
 first | replace Fk2 := V.Cells.bl Fk2 G27 (by omega) | clear Fk2 | skip
 first | replace Fk9 := V.Cells.bl Fk9 G27 (by omega) | clear Fk9 | skip
 replace HG := HG.bl (Go.RowKit.Below.mono G27 (by omega))
 clear G27
 refine V.run T_ok 1 rfl ?_
 refine V.storeO Fk2 rfl rfl rfl rfl sz25 rfl rfl rfl rfl ?_
 rintro w30 G31 z33 Fs32
 clear Fk2
 have z34 := V.Fr.size G31
 first | replace F_o := F_o.mb G31 hD_o | clear F_o | skip
 first | replace Fk9 := Fk9.mv1 G31 (by omega) | clear Fk9 | skip
 first | replace F25 := F25.ma G31 | clear F25 | skip
 replace HG := HG.n1 G31
 clear G31
 have Fk2 := Fs32; clear Fs32
 simp only [V.spliceL, V.cellsL] at Fk2
 refine V.nil ?_
 refine V.tN ?_
 refine V.seq ?_
 refine V.region ?_
 refine V.loadO T_ok Fk2 rfl rfl rfl rfl rfl ?_
 refine V.storeO Fk9 rfl rfl rfl rfl sz27 rfl rfl rfl rfl ?_
 rintro w35 G36 z38 Fs37
 clear Fk9
 have z39 := V.Fr.size G36
 first | replace F_o := F_o.mb G36 hD_o | clear F_o | skip
 first | replace F25 := F25.ma G36 | clear F25 | skip
 first | replace Fk2 := Fk2.mv1 G36 (by omega) | clear Fk2 | skip
 replace HG := HG.n1 G36
 clear G36
 have Fk9 := Fs37; clear Fs37
 simp only [V.spliceL, V.cellsL] at Fk9
 refine V.nil ?_
 refine V.tN ?_
 refine V.ret ?_
 refine V.done1 rfl (V.resV_cell T_ok Fk9 rfl rfl) ?_
 exact ⟨a23, c24, (by first | rfl | simp only [List.length_set]), F25.sl.re, HG⟩

set_option maxHeartbeats 4000000 in
set_option maxRecDepth 10000 in
theorem over_spec {w : World} {d : RecV} {D_o : Nat → Prop} {c_o : Nat} {a_o : Option Addr} (F_o : Sl V.Cod.write w D_o a_o c_o d.ws) (hD_o : ∀ k, D_o k → k < w.heap.size)   :
    Meets Try.prog 66 [.agg #[.int .i64 d.id, .int .i64 d.ep, .int .i64 d.st, .int .i64 d.aw, .int .i64 d.al, .int .i64 d.bw, .int .i64 d.bl, .slice a_o d.ws.length c_o]] w fun r w' => r = .int .i64 (ovE d.st) ∧ Gr w w' := by
 have HG := V.Fr.refl [] w
 refine V.enter (n := 9) Try.func66 rfl rfl (by decide) rfl ?_
 refine V.seq ?_
 refine V.region ?_
 refine V.box rfl rfl rfl rfl ?_
 rintro k1 w3 s5 s6 G4 Fk2
 have z7 := V.Fr.size G4
 try replace F_o := F_o.gr G4
 replace HG := HG.grow G4
 clear G4
 try simp only [V.cellsL, V.spliceL] at Fk2
 refine V.run T_ok 1 rfl ?_
 refine V.nil ?_
 refine V.tN ?_
 refine V.seq ?_
 refine V.seq ?_
 refine V.region ?_
 refine V.run T_ok 1 rfl ?_
 refine V.loadO T_ok Fk2 rfl rfl rfl rfl rfl ?_
 refine V.nil ?_
 refine V.tN ?_
 refine V.block ?_
 refine V.seq ?_
 refine V.region ?_
 refine V.run T_ok 2 rfl ?_
 refine V.nil ?_
 refine V.tN ?_
 refine V.condT rfl (fun h2 => ?_) (fun h2 => ?_)
 ·
  try replace h2 := V.dec h2
  try simp only [V.mk0, V.mk1, V.mk2, V.mk3] at h2
  refine V.seq ?_
  refine V.region ?_
  refine V.run T_ok 1 rfl ?_
  refine V.nil ?_
  refine V.tN ?_
  refine V.ret ?_
  refine V.bR ?_
  refine V.tR ?_
  refine V.done rfl ?_
  exact ⟨(congrArg (Value.int .i64) (by first | rfl | (unfold ovE; grind))), HG⟩
 ·
  try replace h2 := V.dec h2
  try simp only [V.mk0, V.mk1, V.mk2, V.mk3] at h2
  refine V.seq ?_
  refine V.region ?_
  refine V.run T_ok 2 rfl ?_
  refine V.nil ?_
  refine V.tN ?_
  refine V.condT rfl (fun h4 => ?_) (fun h4 => ?_)
  ·
   try replace h4 := V.dec h4
   try simp only [V.mk0, V.mk1, V.mk2, V.mk3] at h4
   refine V.seq ?_
   refine V.region ?_
   refine V.run T_ok 1 rfl ?_
   refine V.nil ?_
   refine V.tN ?_
   refine V.ret ?_
   refine V.bR ?_
   refine V.tR ?_
   refine V.done rfl ?_
   exact ⟨(congrArg (Value.int .i64) (by first | rfl | (unfold ovE; grind))), HG⟩
  ·
   try replace h4 := V.dec h4
   try simp only [V.mk0, V.mk1, V.mk2, V.mk3] at h4
   refine V.skip ?_
   refine V.bN ?_
   refine V.tN ?_
   refine V.seq ?_
   refine V.region ?_
   refine V.run T_ok 1 rfl ?_
   refine V.nil ?_
   refine V.tN ?_
   refine V.ret ?_
   refine V.done rfl ?_
   exact ⟨(congrArg (Value.int .i64) (by first | rfl | (unfold ovE; grind))), HG⟩

set_option maxHeartbeats 4000000 in
set_option maxRecDepth 10000 in
theorem recR_spec {w : World} {d : RecV} {D_o : Nat → Prop} {c_o : Nat} {a_o : Option Addr} (F_o : Sl V.Cod.write w D_o a_o c_o d.ws) (hD_o : ∀ k, D_o k → k < w.heap.size)  (hw : keysOk d.ws) :
    Meets Try.prog 22 [.agg #[.int .i64 d.id, .int .i64 d.ep, .int .i64 d.st, .int .i64 d.aw, .int .i64 d.al, .int .i64 d.bw, .int .i64 d.bl, .slice a_o d.ws.length c_o]] w fun r w' => r = .bool (recB d) ∧ Gr w w' := by
 have HG := V.Fr.refl [] w
 refine V.enter (n := 57) Try.func22 rfl rfl (by decide) rfl ?_
 refine V.seq ?_
 refine V.region ?_
 refine V.box rfl rfl rfl rfl ?_
 rintro k1 w3 s5 s6 G4 Fk2
 have z7 := V.Fr.size G4
 try replace F_o := F_o.gr G4
 replace HG := HG.grow G4
 clear G4
 try simp only [V.cellsL, V.spliceL] at Fk2
 refine V.run T_ok 1 rfl ?_
 refine V.nil ?_
 refine V.tN ?_
 refine V.seq ?_
 refine V.seq ?_
 refine V.region ?_
 refine V.run T_ok 1 rfl ?_
 refine V.loadO T_ok Fk2 rfl rfl rfl rfl rfl ?_
 refine V.call (number_ok (n := d.id)) rfl rfl rfl ?_
 rintro _ w3_ ⟨rfl, rfl⟩
 refine V.run T_ok 2 rfl ?_
 refine V.split (j := 4) (t := 8) rfl rfl (fun g1_4 => ?_) (fun g1_4 => ?_)
 ·
  try replace g1_4 := V.dec g1_4
  try simp only [V.mk0, V.mk1, V.mk2, V.mk3] at g1_4
  refine V.run T_ok 17 rfl ?_
  refine V.nil ?_
  refine V.tN ?_
  refine V.condY rfl rfl ?_
  refine V.seq ?_
  refine V.region ?_
  refine V.run T_ok 1 rfl ?_
  refine V.nil ?_
  refine V.tN ?_
  refine V.ret ?_
  refine V.tR ?_
  refine V.done rfl ?_
  exact ⟨(congrArg Value.bool (by first | rfl | (simp only [recB, stR]; grind))), HG⟩
 ·
  try replace g1_4 := V.dec g1_4
  try simp only [V.mk0, V.mk1, V.mk2, V.mk3] at g1_4
  refine V.run T_ok 1 rfl ?_
  refine V.yes rfl rfl rfl ?_
  refine V.loadO T_ok Fk2 rfl rfl rfl rfl rfl ?_
  refine V.yes rfl rfl rfl ?_
  refine V.call (number_ok (n := d.ep)) rfl rfl rfl ?_
  rintro _ w3_ ⟨rfl, rfl⟩
  refine V.run T_ok 3 rfl ?_
  refine V.split (j := 10) (t := 14) rfl rfl (fun g1_10 => ?_) (fun g1_10 => ?_)
  ·
   try replace g1_10 := V.dec g1_10
   try simp only [V.mk0, V.mk1, V.mk2, V.mk3] at g1_10
   refine V.run T_ok 11 rfl ?_
   refine V.nil ?_
   refine V.tN ?_
   refine V.condY rfl rfl ?_
   refine V.seq ?_
   refine V.region ?_
   refine V.run T_ok 1 rfl ?_
   refine V.nil ?_
   refine V.tN ?_
   refine V.ret ?_
   refine V.tR ?_
   refine V.done rfl ?_
   exact ⟨(congrArg Value.bool (by first | rfl | (simp only [recB, stR]; grind))), HG⟩
  ·
   try replace g1_10 := V.dec g1_10
   try simp only [V.mk0, V.mk1, V.mk2, V.mk3] at g1_10
   refine V.run T_ok 1 rfl ?_
   refine V.yes rfl rfl rfl ?_
   refine V.loadO T_ok Fk2 rfl rfl rfl rfl rfl ?_
   refine V.yes rfl rfl rfl ?_
   refine V.call (right_spec (a := d.aw) (b := d.al)) rfl rfl rfl ?_
   rintro _ w10 ⟨rfl, G11⟩
   have z12 := V.Fr.size G11
   try replace F_o := F_o.gr G11
   try replace Fk2 := Fk2.gr G11
   replace HG := HG.grow G11
   clear G11
   refine V.run T_ok 3 rfl ?_
   refine V.split (j := 16) (t := 20) rfl rfl (fun g1_16 => ?_) (fun g1_16 => ?_)
   ·
    try replace g1_16 := V.dec g1_16
    try simp only [V.mk0, V.mk1, V.mk2, V.mk3] at g1_16
    refine V.run T_ok 5 rfl ?_
    refine V.nil ?_
    refine V.tN ?_
    refine V.condY rfl rfl ?_
    refine V.seq ?_
    refine V.region ?_
    refine V.run T_ok 1 rfl ?_
    refine V.nil ?_
    refine V.tN ?_
    refine V.ret ?_
    refine V.tR ?_
    refine V.done rfl ?_
    exact ⟨(congrArg Value.bool (by first | rfl | (simp only [recB, stR]; grind))), HG⟩
   ·
    try replace g1_16 := V.dec g1_16
    try simp only [V.mk0, V.mk1, V.mk2, V.mk3] at g1_16
    refine V.run T_ok 1 rfl ?_
    refine V.yes rfl rfl rfl ?_
    refine V.loadO T_ok Fk2 rfl rfl rfl rfl rfl ?_
    refine V.yes rfl rfl rfl ?_
    refine V.call (right_spec (a := d.bw) (b := d.bl)) rfl rfl rfl ?_
    rintro _ w13 ⟨rfl, G14⟩
    have z15 := V.Fr.size G14
    try replace F_o := F_o.gr G14
    try replace Fk2 := Fk2.gr G14
    replace HG := HG.grow G14
    clear G14
    refine V.run T_ok 2 rfl ?_
    refine V.nil ?_
    refine V.tN ?_
    refine V.condT rfl (fun h1 => ?_) (fun h1 => ?_)
    ·
     try replace h1 := V.dec h1
     try simp only [V.mk0, V.mk1, V.mk2, V.mk3] at h1
     refine V.seq ?_
     refine V.region ?_
     refine V.run T_ok 1 rfl ?_
     refine V.nil ?_
     refine V.tN ?_
     refine V.ret ?_
     refine V.tR ?_
     refine V.done rfl ?_
     exact ⟨(congrArg Value.bool (by first | rfl | (simp only [recB, stR]; grind))), HG⟩
    ·
     try replace h1 := V.dec h1
     try simp only [V.mk0, V.mk1, V.mk2, V.mk3] at h1
     refine V.skip ?_
     refine V.tN ?_
     refine V.seq ?_
     refine V.region ?_
     refine V.alloc zero24 rfl rfl rfl ?_
     rintro k16 w18 s20 s21 G19 Fk17
     have z22 := V.Fr.size G19
     try replace F_o := F_o.gr G19
     try replace Fk2 := Fk2.gr G19
     replace HG := HG.grow G19
     clear G19
     try simp only [V.cellsL, V.spliceL] at Fk17
     refine V.nil ?_
     refine V.tN ?_
     refine V.seq ?_
     refine V.seq ?_
     refine V.region ?_
     refine V.run T_ok 1 rfl ?_
     refine V.loadO T_ok Fk2 rfl rfl rfl rfl rfl ?_
     refine V.nil ?_
     refine V.tN ?_
     refine V.block ?_
     refine V.seq ?_
     refine V.block ?_
     refine V.seq ?_
     refine V.block ?_
     refine V.seq ?_
     refine V.block ?_
     refine V.seq ?_
     refine V.block ?_
     refine V.seq ?_
     refine V.seq ?_
     refine V.seq ?_
     refine V.region ?_
     refine V.run T_ok 2 rfl ?_
     refine V.nil ?_
     refine V.tN ?_
     refine V.condT rfl (fun h5 => ?_) (fun h5 => ?_)
     ·
      try replace h5 := V.dec h5
      try simp only [V.mk0, V.mk1, V.mk2, V.mk3] at h5
      refine V.exit ?_
      refine V.tX ?_
      refine V.tX ?_
      refine V.bE ?_
      refine V.tN ?_
      refine V.seq ?_
      refine V.seq ?_
      refine V.region ?_
      refine V.run T_ok 1 rfl ?_
      refine V.loadO T_ok Fk2 rfl rfl rfl rfl rfl ?_
      refine V.call (written_spec F_o (fun k hk => by have := hD_o k hk; omega) (by first | assumption | exact keysOk.nil | (unfold keysOk; decide))) rfl rfl rfl ?_
      rintro _ w23 ⟨rfl, G24⟩
      have z25 := V.Fr.size G24
      try replace F_o := F_o.gr G24
      try replace Fk2 := Fk2.gr G24
      try replace Fk17 := Fk17.gr G24
      replace HG := HG.grow G24
      clear G24
      refine V.run T_ok 1 rfl ?_
      refine V.nil ?_
      refine V.tN ?_
      refine V.ret ?_
      refine V.tR ?_
      refine V.bR ?_
      refine V.tR ?_
      refine V.bR ?_
      refine V.tR ?_
      refine V.bR ?_
      refine V.tR ?_
      refine V.bR ?_
      refine V.tR ?_
      refine V.done rfl ?_
      exact ⟨(congrArg Value.bool (by first | rfl | (simp only [recB, stR]; grind))), HG⟩
     ·
      try replace h5 := V.dec h5
      try simp only [V.mk0, V.mk1, V.mk2, V.mk3] at h5
      refine V.skip ?_
      refine V.tN ?_
      refine V.seq ?_
      refine V.seq ?_
      refine V.region ?_
      refine V.run T_ok 2 rfl ?_
      refine V.nil ?_
      refine V.tN ?_
      refine V.condT rfl (fun h6 => ?_) (fun h6 => ?_)
      ·
       try replace h6 := V.dec h6
       try simp only [V.mk0, V.mk1, V.mk2, V.mk3] at h6
       refine V.exit ?_
       refine V.tX ?_
       refine V.tX ?_
       refine V.bX rfl ?_
       refine V.tX ?_
       refine V.bE ?_
       refine V.tN ?_
       refine V.seq ?_
       refine V.region ?_
       refine V.run T_ok 1 rfl ?_
       refine V.loadO T_ok Fk2 rfl rfl rfl rfl rfl ?_
       refine V.run T_ok 2 rfl ?_
       refine V.split (j := 3) (t := 43) rfl rfl (fun g11_3 => ?_) (fun g11_3 => ?_)
       ·
        try replace g11_3 := V.dec g11_3
        try simp only [V.mk0, V.mk1, V.mk2, V.mk3] at g11_3
        refine V.run T_ok 5 rfl ?_
        refine V.nil ?_
        refine V.tN ?_
        refine V.condY rfl rfl ?_
        refine V.seq ?_
        refine V.region ?_
        refine V.run T_ok 1 rfl ?_
        refine V.nil ?_
        refine V.tN ?_
        refine V.ret ?_
        refine V.bR ?_
        refine V.tR ?_
        refine V.bR ?_
        refine V.tR ?_
        refine V.bR ?_
        refine V.tR ?_
        refine V.done rfl ?_
        exact ⟨(congrArg Value.bool (by first | rfl | (simp only [recB, stR]; grind))), HG⟩
       ·
        try replace g11_3 := V.dec g11_3
        try simp only [V.mk0, V.mk1, V.mk2, V.mk3] at g11_3
        refine V.run T_ok 1 rfl ?_
        refine V.yes rfl rfl rfl ?_
        refine V.loadO T_ok Fk2 rfl rfl rfl rfl rfl ?_
        refine V.yes rfl rfl rfl ?_
        refine V.loadO T_ok Fk17 rfl rfl rfl rfl rfl ?_
        refine V.yes rfl rfl rfl ?_
        refine V.step rfl rfl (V.neA_run rfl rfl rfl eqG24 (eqS24 _)) ?_
        refine V.run T_ok 1 rfl ?_
        refine V.nil ?_
        refine V.tN ?_
        refine V.condT rfl (fun h11 => ?_) (fun h11 => ?_)
        ·
         try replace h11 := V.dec h11
         try simp only [V.mk0, V.mk1, V.mk2, V.mk3] at h11
         refine V.seq ?_
         refine V.region ?_
         refine V.run T_ok 1 rfl ?_
         refine V.nil ?_
         refine V.tN ?_
         refine V.ret ?_
         refine V.bR ?_
         refine V.tR ?_
         refine V.bR ?_
         refine V.tR ?_
         refine V.bR ?_
         refine V.tR ?_
         refine V.done rfl ?_
         exact ⟨(congrArg Value.bool (by first | rfl | (simp only [recB, stR]; grind))), HG⟩
        ·
         try replace h11 := V.dec h11
         try simp only [V.mk0, V.mk1, V.mk2, V.mk3] at h11
         refine V.skip ?_
         refine V.bN ?_
         refine V.tN ?_
         refine V.seq ?_
         refine V.region ?_
         refine V.run T_ok 1 rfl ?_
         refine V.loadO T_ok Fk2 rfl rfl rfl rfl rfl ?_
         refine V.loadO T_ok Fk17 rfl rfl rfl rfl rfl ?_
         refine V.step rfl rfl (V.neA_run rfl rfl rfl eqG24 (eqS24 _)) ?_
         refine V.nil ?_
         refine V.tN ?_
         refine V.condT rfl (fun h13 => ?_) (fun h13 => ?_)
         ·
          try replace h13 := V.dec h13
          try simp only [V.mk0, V.mk1, V.mk2, V.mk3] at h13
          refine V.seq ?_
          refine V.region ?_
          refine V.run T_ok 1 rfl ?_
          refine V.nil ?_
          refine V.tN ?_
          refine V.ret ?_
          refine V.bR ?_
          refine V.tR ?_
          refine V.bR ?_
          refine V.tR ?_
          refine V.done rfl ?_
          exact ⟨(congrArg Value.bool (by first | rfl | (simp only [recB, stR]; grind))), HG⟩
         ·
          try replace h13 := V.dec h13
          try simp only [V.mk0, V.mk1, V.mk2, V.mk3] at h13
          refine V.skip ?_
          refine V.bN ?_
          refine V.tN ?_
          refine V.seq ?_
          refine V.seq ?_
          refine V.region ?_
          refine V.run T_ok 1 rfl ?_
          refine V.loadO T_ok Fk2 rfl rfl rfl rfl rfl ?_
          refine V.run T_ok 3 rfl ?_
          refine V.nil ?_
          refine V.tN ?_
          refine V.ret ?_
          refine V.tR ?_
          refine V.bR ?_
          refine V.tR ?_
          refine V.done rfl ?_
          exact ⟨(congrArg Value.bool (by first | rfl | (simp only [recB, stR]; grind))), HG⟩
      ·
       try replace h6 := V.dec h6
       try simp only [V.mk0, V.mk1, V.mk2, V.mk3] at h6
       refine V.skip ?_
       refine V.tN ?_
       refine V.seq ?_
       refine V.seq ?_
       refine V.seq ?_
       refine V.region ?_
       refine V.run T_ok 2 rfl ?_
       refine V.nil ?_
       refine V.tN ?_
       refine V.condT rfl (fun h7 => ?_) (fun h7 => ?_)
       ·
        try replace h7 := V.dec h7
        try simp only [V.mk0, V.mk1, V.mk2, V.mk3] at h7
        refine V.skip ?_
        refine V.tN ?_
        refine V.condT rfl (fun h7 => ?_) (fun h7 => ?_)
        ·
         try replace h7 := V.dec h7
         try simp only [V.mk0, V.mk1, V.mk2, V.mk3] at h7
         refine V.exit ?_
         refine V.tX ?_
         refine V.tX ?_
         refine V.bX rfl ?_
         refine V.tX ?_
         refine V.bX rfl ?_
         refine V.tX ?_
         refine V.bE ?_
         refine V.tN ?_
         refine V.seq ?_
         refine V.region ?_
         refine V.run T_ok 1 rfl ?_
         refine V.loadO T_ok Fk2 rfl rfl rfl rfl rfl ?_
         refine V.loadO T_ok Fk17 rfl rfl rfl rfl rfl ?_
         refine V.step rfl rfl (V.neA_run rfl rfl rfl eqG24 (eqS24 _)) ?_
         refine V.nil ?_
         refine V.tN ?_
         refine V.condT rfl (fun h13 => ?_) (fun h13 => ?_)
         ·
          try replace h13 := V.dec h13
          try simp only [V.mk0, V.mk1, V.mk2, V.mk3] at h13
          refine V.seq ?_
          refine V.region ?_
          refine V.run T_ok 1 rfl ?_
          refine V.nil ?_
          refine V.tN ?_
          refine V.ret ?_
          refine V.bR ?_
          refine V.tR ?_
          refine V.bR ?_
          refine V.tR ?_
          refine V.done rfl ?_
          exact ⟨(congrArg Value.bool (by first | rfl | (simp only [recB, stR]; grind))), HG⟩
         ·
          try replace h13 := V.dec h13
          try simp only [V.mk0, V.mk1, V.mk2, V.mk3] at h13
          refine V.skip ?_
          refine V.bN ?_
          refine V.tN ?_
          refine V.seq ?_
          refine V.seq ?_
          refine V.region ?_
          refine V.run T_ok 1 rfl ?_
          refine V.loadO T_ok Fk2 rfl rfl rfl rfl rfl ?_
          refine V.run T_ok 3 rfl ?_
          refine V.nil ?_
          refine V.tN ?_
          refine V.ret ?_
          refine V.tR ?_
          refine V.bR ?_
          refine V.tR ?_
          refine V.done rfl ?_
          exact ⟨(congrArg Value.bool (by first | rfl | (simp only [recB, stR]; grind))), HG⟩
        ·
         try replace h7 := V.dec h7
         try simp only [V.mk0, V.mk1, V.mk2, V.mk3] at h7
         refine V.skip ?_
         refine V.tN ?_
         refine V.seq ?_
         refine V.region ?_
         refine V.run T_ok 2 rfl ?_
         refine V.nil ?_
         refine V.tN ?_
         refine V.condT rfl (fun h9 => ?_) (fun h9 => ?_)
         ·
          try replace h9 := V.dec h9
          try simp only [V.mk0, V.mk1, V.mk2, V.mk3] at h9
          refine V.exit ?_
          refine V.tX ?_
          refine V.bX rfl ?_
          refine V.tX ?_
          refine V.bX rfl ?_
          refine V.tX ?_
          refine V.bX rfl ?_
          refine V.tX ?_
          refine V.bE ?_
          refine V.tN ?_
          refine V.seq ?_
          refine V.seq ?_
          refine V.region ?_
          refine V.run T_ok 1 rfl ?_
          refine V.loadO T_ok Fk2 rfl rfl rfl rfl rfl ?_
          refine V.run T_ok 3 rfl ?_
          refine V.nil ?_
          refine V.tN ?_
          refine V.ret ?_
          refine V.tR ?_
          refine V.bR ?_
          refine V.tR ?_
          refine V.done rfl ?_
          exact ⟨(congrArg Value.bool (by first | rfl | (simp only [recB, stR]; grind))), HG⟩
         ·
          try replace h9 := V.dec h9
          try simp only [V.mk0, V.mk1, V.mk2, V.mk3] at h9
          refine V.skip ?_
          refine V.tN ?_
          refine V.exit ?_
          refine V.bX rfl ?_
          refine V.tX ?_
          refine V.bX rfl ?_
          refine V.tX ?_
          refine V.bX rfl ?_
          refine V.tX ?_
          refine V.bX rfl ?_
          refine V.tX ?_
          refine V.bE ?_
          refine V.tN ?_
          refine V.seq ?_
          refine V.region ?_
          refine V.run T_ok 1 rfl ?_
          refine V.nil ?_
          refine V.tN ?_
          refine V.ret ?_
          refine V.done rfl ?_
          exact ⟨(congrArg Value.bool (by first | rfl | (simp only [recB, stR]; grind))), HG⟩
       ·
        try replace h7 := V.dec h7
        try simp only [V.mk0, V.mk1, V.mk2, V.mk3] at h7
        refine V.region ?_
        refine V.run T_ok 2 rfl ?_
        refine V.nil ?_
        refine V.tN ?_
        refine V.condT rfl (fun h8 => ?_) (fun h8 => ?_)
        ·
         try replace h8 := V.dec h8
         try simp only [V.mk0, V.mk1, V.mk2, V.mk3] at h8
         refine V.exit ?_
         refine V.tX ?_
         refine V.tX ?_
         refine V.bX rfl ?_
         refine V.tX ?_
         refine V.bX rfl ?_
         refine V.tX ?_
         refine V.bE ?_
         refine V.tN ?_
         refine V.seq ?_
         refine V.region ?_
         refine V.run T_ok 1 rfl ?_
         refine V.loadO T_ok Fk2 rfl rfl rfl rfl rfl ?_
         refine V.loadO T_ok Fk17 rfl rfl rfl rfl rfl ?_
         refine V.step rfl rfl (V.neA_run rfl rfl rfl eqG24 (eqS24 _)) ?_
         refine V.nil ?_
         refine V.tN ?_
         refine V.condT rfl (fun h13 => ?_) (fun h13 => ?_)
         ·
          try replace h13 := V.dec h13
          try simp only [V.mk0, V.mk1, V.mk2, V.mk3] at h13
          refine V.seq ?_
          refine V.region ?_
          refine V.run T_ok 1 rfl ?_
          refine V.nil ?_
          refine V.tN ?_
          refine V.ret ?_
          refine V.bR ?_
          refine V.tR ?_
          refine V.bR ?_
          refine V.tR ?_
          refine V.done rfl ?_
          exact ⟨(congrArg Value.bool (by first | rfl | (simp only [recB, stR]; grind))), HG⟩
         ·
          try replace h13 := V.dec h13
          try simp only [V.mk0, V.mk1, V.mk2, V.mk3] at h13
          refine V.skip ?_
          refine V.bN ?_
          refine V.tN ?_
          refine V.seq ?_
          refine V.seq ?_
          refine V.region ?_
          refine V.run T_ok 1 rfl ?_
          refine V.loadO T_ok Fk2 rfl rfl rfl rfl rfl ?_
          refine V.run T_ok 3 rfl ?_
          refine V.nil ?_
          refine V.tN ?_
          refine V.ret ?_
          refine V.tR ?_
          refine V.bR ?_
          refine V.tR ?_
          refine V.done rfl ?_
          exact ⟨(congrArg Value.bool (by first | rfl | (simp only [recB, stR]; grind))), HG⟩
        ·
         try replace h8 := V.dec h8
         try simp only [V.mk0, V.mk1, V.mk2, V.mk3] at h8
         refine V.skip ?_
         refine V.tN ?_
         refine V.seq ?_
         refine V.region ?_
         refine V.run T_ok 2 rfl ?_
         refine V.nil ?_
         refine V.tN ?_
         refine V.condT rfl (fun h9 => ?_) (fun h9 => ?_)
         ·
          try replace h9 := V.dec h9
          try simp only [V.mk0, V.mk1, V.mk2, V.mk3] at h9
          refine V.exit ?_
          refine V.tX ?_
          refine V.bX rfl ?_
          refine V.tX ?_
          refine V.bX rfl ?_
          refine V.tX ?_
          refine V.bX rfl ?_
          refine V.tX ?_
          refine V.bE ?_
          refine V.tN ?_
          refine V.seq ?_
          refine V.seq ?_
          refine V.region ?_
          refine V.run T_ok 1 rfl ?_
          refine V.loadO T_ok Fk2 rfl rfl rfl rfl rfl ?_
          refine V.run T_ok 3 rfl ?_
          refine V.nil ?_
          refine V.tN ?_
          refine V.ret ?_
          refine V.tR ?_
          refine V.bR ?_
          refine V.tR ?_
          refine V.done rfl ?_
          exact ⟨(congrArg Value.bool (by first | rfl | (simp only [recB, stR]; grind))), HG⟩
         ·
          try replace h9 := V.dec h9
          try simp only [V.mk0, V.mk1, V.mk2, V.mk3] at h9
          refine V.skip ?_
          refine V.tN ?_
          refine V.exit ?_
          refine V.bX rfl ?_
          refine V.tX ?_
          refine V.bX rfl ?_
          refine V.tX ?_
          refine V.bX rfl ?_
          refine V.tX ?_
          refine V.bX rfl ?_
          refine V.tX ?_
          refine V.bE ?_
          refine V.tN ?_
          refine V.seq ?_
          refine V.region ?_
          refine V.run T_ok 1 rfl ?_
          refine V.nil ?_
          refine V.tN ?_
          refine V.ret ?_
          refine V.done rfl ?_
          exact ⟨(congrArg Value.bool (by first | rfl | (simp only [recB, stR]; grind))), HG⟩

set_option maxHeartbeats 4000000 in
set_option maxRecDepth 10000 in
theorem rrecR_spec {w : World} {d : RecV} {D_o : Nat → Prop} {c_o : Nat} {a_o : Option Addr} (F_o : Sl V.Cod.write w D_o a_o c_o d.ws) (hD_o : ∀ k, D_o k → k < w.heap.size)  (hw : keysOk d.ws) :
    Meets Try.prog 23 [.agg #[.int .i64 d.id, .int .i64 d.ep, .int .i64 d.st, .int .i64 d.aw, .int .i64 d.al, .int .i64 d.bw, .int .i64 d.bl, .slice a_o d.ws.length c_o]] w fun r w' => r = .bool (recB d) ∧ Gr w w' := by
 have HG := V.Fr.refl [] w
 refine V.enter (n := 92) Try.func23 rfl rfl (by decide) rfl ?_
 refine V.seq ?_
 refine V.region ?_
 refine V.box rfl rfl rfl rfl ?_
 rintro k1 w3 s5 s6 G4 Fk2
 have z7 := V.Fr.size G4
 try replace F_o := F_o.gr G4
 replace HG := HG.grow G4
 clear G4
 try simp only [V.cellsL, V.spliceL] at Fk2
 refine V.run T_ok 1 rfl ?_
 refine V.nil ?_
 refine V.tN ?_
 refine V.seq ?_
 refine V.region ?_
 refine V.run T_ok 1 rfl ?_
 refine V.loadO T_ok Fk2 rfl rfl rfl rfl rfl ?_
 refine V.call (rnumber_ok (n := d.id)) rfl rfl rfl ?_
 rintro _ w3_ ⟨rfl, rfl⟩
 refine V.run T_ok 1 rfl ?_
 refine V.split (j := 3) (t := 10) rfl rfl (fun g1_3 => ?_) (fun g1_3 => ?_)
 ·
  try replace g1_3 := V.dec g1_3
  try simp only [V.mk0, V.mk1, V.mk2, V.mk3] at g1_3
  refine V.run T_ok 1 rfl ?_
  refine V.yes rfl rfl rfl ?_
  refine V.loadO T_ok Fk2 rfl rfl rfl rfl rfl ?_
  refine V.yes rfl rfl rfl ?_
  refine V.call (rnumber_ok (n := d.ep)) rfl rfl rfl ?_
  rintro _ w3_ ⟨rfl, rfl⟩
  refine V.run T_ok 2 rfl ?_
  refine V.nil ?_
  refine V.tN ?_
  refine V.seq ?_
  refine V.region ?_
  refine V.run T_ok 1 rfl ?_
  refine V.loadO T_ok Fk2 rfl rfl rfl rfl rfl ?_
  refine V.call (rright_spec (a := d.aw) (b := d.al)) rfl rfl rfl ?_
  rintro _ w10 ⟨rfl, G11⟩
  have z12 := V.Fr.size G11
  try replace F_o := F_o.gr G11
  try replace Fk2 := Fk2.gr G11
  replace HG := HG.grow G11
  clear G11
  refine V.run T_ok 1 rfl ?_
  refine V.split (j := 3) (t := 18) rfl rfl (fun g2_3 => ?_) (fun g2_3 => ?_)
  ·
   try replace g2_3 := V.dec g2_3
   try simp only [V.mk0, V.mk1, V.mk2, V.mk3] at g2_3
   refine V.run T_ok 1 rfl ?_
   refine V.yes rfl rfl rfl ?_
   refine V.loadO T_ok Fk2 rfl rfl rfl rfl rfl ?_
   refine V.yes rfl rfl rfl ?_
   refine V.call (rright_spec (a := d.bw) (b := d.bl)) rfl rfl rfl ?_
   rintro _ w13 ⟨rfl, G14⟩
   have z15 := V.Fr.size G14
   try replace F_o := F_o.gr G14
   try replace Fk2 := Fk2.gr G14
   replace HG := HG.grow G14
   clear G14
   refine V.run T_ok 2 rfl ?_
   refine V.nil ?_
   refine V.tN ?_
   refine V.seq ?_
   refine V.region ?_
   refine V.run T_ok 1 rfl ?_
   refine V.loadO T_ok Fk2 rfl rfl rfl rfl rfl ?_
   refine V.call (rwritten_spec F_o (fun k hk => by have := hD_o k hk; omega) (by first | assumption | exact keysOk.nil | (unfold keysOk; decide))) rfl rfl rfl ?_
   rintro _ w16 ⟨rfl, G17⟩
   have z18 := V.Fr.size G17
   try replace F_o := F_o.gr G17
   try replace Fk2 := Fk2.gr G17
   replace HG := HG.grow G17
   clear G17
   refine V.run T_ok 1 rfl ?_
   refine V.nil ?_
   refine V.tN ?_
   refine V.seq ?_
   refine V.region ?_
   refine V.run T_ok 1 rfl ?_
   refine V.loadO T_ok Fk2 rfl rfl rfl rfl rfl ?_
   refine V.mkStruct T_ok zero24 rfl rfl rfl rfl rfl ?_
   refine V.step rfl rfl (V.eqA_run rfl rfl rfl eqG24 (eqS24 _)) ?_
   refine V.run T_ok 1 rfl ?_
   refine V.nil ?_
   refine V.tN ?_
   refine V.seq ?_
   refine V.seq ?_
   refine V.region ?_
   refine V.run T_ok 1 rfl ?_
   refine V.loadO T_ok Fk2 rfl rfl rfl rfl rfl ?_
   refine V.nil ?_
   refine V.tN ?_
   refine V.block ?_
   refine V.seq ?_
   refine V.region ?_
   refine V.run T_ok 2 rfl ?_
   refine V.nil ?_
   refine V.tN ?_
   refine V.condT rfl (fun h6 => ?_) (fun h6 => ?_)
   ·
    try replace h6 := V.dec h6
    try simp only [V.mk0, V.mk1, V.mk2, V.mk3] at h6
    refine V.seq ?_
    refine V.region ?_
    refine V.run T_ok 2 rfl ?_
    refine V.andG T_ok 1 1 35 rfl rfl rfl rfl rfl rfl rfl rfl ?_
    refine V.run T_ok 1 rfl ?_
    refine V.split (j := 4) (t := 38) rfl rfl (fun g7_4 => ?_) (fun g7_4 => ?_)
    ·
     try replace g7_4 := V.dec g7_4
     try simp only [V.mk0, V.mk1, V.mk2, V.mk3] at g7_4
     refine V.run T_ok 1 rfl ?_
     refine V.yes rfl rfl rfl ?_
     refine V.loadO T_ok Fk2 rfl rfl rfl rfl rfl ?_
     refine V.run T_ok 3 rfl ?_
     refine V.split (j := 9) (t := 43) rfl rfl (fun g7_9 => ?_) (fun g7_9 => ?_)
     ·
      try replace g7_9 := V.dec g7_9
      try simp only [V.mk0, V.mk1, V.mk2, V.mk3] at g7_9
      refine V.run T_ok 1 rfl ?_
      refine V.yes rfl rfl rfl ?_
      refine V.loadO T_ok Fk2 rfl rfl rfl rfl rfl ?_
      refine V.yes rfl rfl rfl ?_
      refine V.mkStruct T_ok zero24 rfl rfl rfl rfl rfl ?_
      refine V.yes rfl rfl rfl ?_
      refine V.step rfl rfl (V.eqA_run rfl rfl rfl eqG24 (eqS24 _)) ?_
      refine V.run T_ok 2 rfl ?_
      refine V.split (j := 15) (t := 49) rfl rfl (fun g7_15 => ?_) (fun g7_15 => ?_)
      ·
       try replace g7_15 := V.dec g7_15
       try simp only [V.mk0, V.mk1, V.mk2, V.mk3] at g7_15
       refine V.run T_ok 1 rfl ?_
       refine V.yes rfl rfl rfl ?_
       refine V.loadO T_ok Fk2 rfl rfl rfl rfl rfl ?_
       refine V.run T_ok 4 rfl ?_
       refine V.nil ?_
       refine V.tN ?_
       refine V.ret ?_
       refine V.bR ?_
       refine V.tR ?_
       refine V.done rfl ?_
       exact ⟨(congrArg Value.bool (by first | rfl | (simp only [recB, stR]; grind))), HG⟩
      ·
       try replace g7_15 := V.dec g7_15
       try simp only [V.mk0, V.mk1, V.mk2, V.mk3] at g7_15
       refine V.run T_ok 6 rfl ?_
       refine V.nil ?_
       refine V.tN ?_
       refine V.ret ?_
       refine V.bR ?_
       refine V.tR ?_
       refine V.done rfl ?_
       exact ⟨(congrArg Value.bool (by first | rfl | (simp only [recB, stR]; grind))), HG⟩
     ·
      try replace g7_9 := V.dec g7_9
      try simp only [V.mk0, V.mk1, V.mk2, V.mk3] at g7_9
      refine V.run T_ok 12 rfl ?_
      refine V.nil ?_
      refine V.tN ?_
      refine V.ret ?_
      refine V.bR ?_
      refine V.tR ?_
      refine V.done rfl ?_
      exact ⟨(congrArg Value.bool (by first | rfl | (simp only [recB, stR]; grind))), HG⟩
    ·
     try replace g7_4 := V.dec g7_4
     try simp only [V.mk0, V.mk1, V.mk2, V.mk3] at g7_4
     refine V.run T_ok 17 rfl ?_
     refine V.nil ?_
     refine V.tN ?_
     refine V.ret ?_
     refine V.bR ?_
     refine V.tR ?_
     refine V.done rfl ?_
     exact ⟨(congrArg Value.bool (by first | rfl | (simp only [recB, stR]; grind))), HG⟩
   ·
    try replace h6 := V.dec h6
    try simp only [V.mk0, V.mk1, V.mk2, V.mk3] at h6
    refine V.seq ?_
    refine V.seq ?_
    refine V.region ?_
    refine V.run T_ok 2 rfl ?_
    refine V.nil ?_
    refine V.tN ?_
    refine V.condT rfl (fun h8 => ?_) (fun h8 => ?_)
    ·
     try replace h8 := V.dec h8
     try simp only [V.mk0, V.mk1, V.mk2, V.mk3] at h8
     refine V.skip ?_
     refine V.tN ?_
     refine V.condT rfl (fun h8 => ?_) (fun h8 => ?_)
     ·
      try replace h8 := V.dec h8
      try simp only [V.mk0, V.mk1, V.mk2, V.mk3] at h8
      refine V.seq ?_
      refine V.region ?_
      refine V.run T_ok 2 rfl ?_
      refine V.andG T_ok 1 1 59 rfl rfl rfl rfl rfl rfl rfl rfl ?_
      refine V.run T_ok 1 rfl ?_
      refine V.andG T_ok 1 4 62 rfl rfl rfl rfl rfl rfl rfl rfl ?_
      refine V.run T_ok 1 rfl ?_
      refine V.split (j := 7) (t := 65) rfl rfl (fun g10_7 => ?_) (fun g10_7 => ?_)
      ·
       try replace g10_7 := V.dec g10_7
       try simp only [V.mk0, V.mk1, V.mk2, V.mk3] at g10_7
       refine V.run T_ok 1 rfl ?_
       refine V.yes rfl rfl rfl ?_
       refine V.loadO T_ok Fk2 rfl rfl rfl rfl rfl ?_
       refine V.run T_ok 4 rfl ?_
       refine V.nil ?_
       refine V.tN ?_
       refine V.ret ?_
       refine V.bR ?_
       refine V.tR ?_
       refine V.done rfl ?_
       exact ⟨(congrArg Value.bool (by first | rfl | (simp only [recB, stR]; grind))), HG⟩
      ·
       try replace g10_7 := V.dec g10_7
       try simp only [V.mk0, V.mk1, V.mk2, V.mk3] at g10_7
       refine V.run T_ok 6 rfl ?_
       refine V.nil ?_
       refine V.tN ?_
       refine V.ret ?_
       refine V.bR ?_
       refine V.tR ?_
       refine V.done rfl ?_
       exact ⟨(congrArg Value.bool (by first | rfl | (simp only [recB, stR]; grind))), HG⟩
     ·
      try replace h8 := V.dec h8
      try simp only [V.mk0, V.mk1, V.mk2, V.mk3] at h8
      refine V.seq ?_
      refine V.region ?_
      refine V.run T_ok 2 rfl ?_
      refine V.nil ?_
      refine V.tN ?_
      refine V.condT rfl (fun h11 => ?_) (fun h11 => ?_)
      ·
       try replace h11 := V.dec h11
       try simp only [V.mk0, V.mk1, V.mk2, V.mk3] at h11
       refine V.seq ?_
       refine V.region ?_
       refine V.run T_ok 2 rfl ?_
       refine V.andG T_ok 1 1 74 rfl rfl rfl rfl rfl rfl rfl rfl ?_
       refine V.run T_ok 1 rfl ?_
       refine V.andG T_ok 1 4 77 rfl rfl rfl rfl rfl rfl rfl rfl ?_
       refine V.run T_ok 1 rfl ?_
       refine V.nil ?_
       refine V.tN ?_
       refine V.ret ?_
       refine V.bR ?_
       refine V.tR ?_
       refine V.done rfl ?_
       exact ⟨(congrArg Value.bool (by first | rfl | (simp only [recB, stR]; grind))), HG⟩
      ·
       try replace h11 := V.dec h11
       try simp only [V.mk0, V.mk1, V.mk2, V.mk3] at h11
       refine V.seq ?_
       refine V.region ?_
       refine V.run T_ok 2 rfl ?_
       refine V.nil ?_
       refine V.tN ?_
       refine V.condT rfl (fun h13 => ?_) (fun h13 => ?_)
       ·
        try replace h13 := V.dec h13
        try simp only [V.mk0, V.mk1, V.mk2, V.mk3] at h13
        refine V.seq ?_
        refine V.region ?_
        refine V.run T_ok 2 rfl ?_
        refine V.andG T_ok 1 1 83 rfl rfl rfl rfl rfl rfl rfl rfl ?_
        refine V.run T_ok 1 rfl ?_
        refine V.split (j := 4) (t := 86) rfl rfl (fun g14_4 => ?_) (fun g14_4 => ?_)
        ·
         try replace g14_4 := V.dec g14_4
         try simp only [V.mk0, V.mk1, V.mk2, V.mk3] at g14_4
         refine V.run T_ok 1 rfl ?_
         refine V.yes rfl rfl rfl ?_
         refine V.loadO T_ok Fk2 rfl rfl rfl rfl rfl ?_
         refine V.run T_ok 4 rfl ?_
         refine V.nil ?_
         refine V.tN ?_
         refine V.ret ?_
         refine V.bR ?_
         refine V.tR ?_
         refine V.done rfl ?_
         exact ⟨(congrArg Value.bool (by first | rfl | (simp only [recB, stR]; grind))), HG⟩
        ·
         try replace g14_4 := V.dec g14_4
         try simp only [V.mk0, V.mk1, V.mk2, V.mk3] at g14_4
         refine V.run T_ok 6 rfl ?_
         refine V.nil ?_
         refine V.tN ?_
         refine V.ret ?_
         refine V.bR ?_
         refine V.tR ?_
         refine V.done rfl ?_
         exact ⟨(congrArg Value.bool (by first | rfl | (simp only [recB, stR]; grind))), HG⟩
       ·
        try replace h13 := V.dec h13
        try simp only [V.mk0, V.mk1, V.mk2, V.mk3] at h13
        refine V.skip ?_
        refine V.bN ?_
        refine V.tN ?_
        refine V.seq ?_
        refine V.region ?_
        refine V.run T_ok 1 rfl ?_
        refine V.nil ?_
        refine V.tN ?_
        refine V.ret ?_
        refine V.done rfl ?_
        exact ⟨(congrArg Value.bool (by first | rfl | (simp only [recB, stR]; grind))), HG⟩
    ·
     try replace h8 := V.dec h8
     try simp only [V.mk0, V.mk1, V.mk2, V.mk3] at h8
     refine V.region ?_
     refine V.run T_ok 2 rfl ?_
     refine V.nil ?_
     refine V.tN ?_
     refine V.condT rfl (fun h9 => ?_) (fun h9 => ?_)
     ·
      try replace h9 := V.dec h9
      try simp only [V.mk0, V.mk1, V.mk2, V.mk3] at h9
      refine V.seq ?_
      refine V.region ?_
      refine V.run T_ok 2 rfl ?_
      refine V.andG T_ok 1 1 59 rfl rfl rfl rfl rfl rfl rfl rfl ?_
      refine V.run T_ok 1 rfl ?_
      refine V.andG T_ok 1 4 62 rfl rfl rfl rfl rfl rfl rfl rfl ?_
      refine V.run T_ok 1 rfl ?_
      refine V.split (j := 7) (t := 65) rfl rfl (fun g10_7 => ?_) (fun g10_7 => ?_)
      ·
       try replace g10_7 := V.dec g10_7
       try simp only [V.mk0, V.mk1, V.mk2, V.mk3] at g10_7
       refine V.run T_ok 1 rfl ?_
       refine V.yes rfl rfl rfl ?_
       refine V.loadO T_ok Fk2 rfl rfl rfl rfl rfl ?_
       refine V.run T_ok 4 rfl ?_
       refine V.nil ?_
       refine V.tN ?_
       refine V.ret ?_
       refine V.bR ?_
       refine V.tR ?_
       refine V.done rfl ?_
       exact ⟨(congrArg Value.bool (by first | rfl | (simp only [recB, stR]; grind))), HG⟩
      ·
       try replace g10_7 := V.dec g10_7
       try simp only [V.mk0, V.mk1, V.mk2, V.mk3] at g10_7
       refine V.run T_ok 6 rfl ?_
       refine V.nil ?_
       refine V.tN ?_
       refine V.ret ?_
       refine V.bR ?_
       refine V.tR ?_
       refine V.done rfl ?_
       exact ⟨(congrArg Value.bool (by first | rfl | (simp only [recB, stR]; grind))), HG⟩
     ·
      try replace h9 := V.dec h9
      try simp only [V.mk0, V.mk1, V.mk2, V.mk3] at h9
      refine V.seq ?_
      refine V.region ?_
      refine V.run T_ok 2 rfl ?_
      refine V.nil ?_
      refine V.tN ?_
      refine V.condT rfl (fun h11 => ?_) (fun h11 => ?_)
      ·
       try replace h11 := V.dec h11
       try simp only [V.mk0, V.mk1, V.mk2, V.mk3] at h11
       refine V.seq ?_
       refine V.region ?_
       refine V.run T_ok 2 rfl ?_
       refine V.andG T_ok 1 1 74 rfl rfl rfl rfl rfl rfl rfl rfl ?_
       refine V.run T_ok 1 rfl ?_
       refine V.andG T_ok 1 4 77 rfl rfl rfl rfl rfl rfl rfl rfl ?_
       refine V.run T_ok 1 rfl ?_
       refine V.nil ?_
       refine V.tN ?_
       refine V.ret ?_
       refine V.bR ?_
       refine V.tR ?_
       refine V.done rfl ?_
       exact ⟨(congrArg Value.bool (by first | rfl | (simp only [recB, stR]; grind))), HG⟩
      ·
       try replace h11 := V.dec h11
       try simp only [V.mk0, V.mk1, V.mk2, V.mk3] at h11
       refine V.seq ?_
       refine V.region ?_
       refine V.run T_ok 2 rfl ?_
       refine V.nil ?_
       refine V.tN ?_
       refine V.condT rfl (fun h13 => ?_) (fun h13 => ?_)
       ·
        try replace h13 := V.dec h13
        try simp only [V.mk0, V.mk1, V.mk2, V.mk3] at h13
        refine V.seq ?_
        refine V.region ?_
        refine V.run T_ok 2 rfl ?_
        refine V.andG T_ok 1 1 83 rfl rfl rfl rfl rfl rfl rfl rfl ?_
        refine V.run T_ok 1 rfl ?_
        refine V.split (j := 4) (t := 86) rfl rfl (fun g14_4 => ?_) (fun g14_4 => ?_)
        ·
         try replace g14_4 := V.dec g14_4
         try simp only [V.mk0, V.mk1, V.mk2, V.mk3] at g14_4
         refine V.run T_ok 1 rfl ?_
         refine V.yes rfl rfl rfl ?_
         refine V.loadO T_ok Fk2 rfl rfl rfl rfl rfl ?_
         refine V.run T_ok 4 rfl ?_
         refine V.nil ?_
         refine V.tN ?_
         refine V.ret ?_
         refine V.bR ?_
         refine V.tR ?_
         refine V.done rfl ?_
         exact ⟨(congrArg Value.bool (by first | rfl | (simp only [recB, stR]; grind))), HG⟩
        ·
         try replace g14_4 := V.dec g14_4
         try simp only [V.mk0, V.mk1, V.mk2, V.mk3] at g14_4
         refine V.run T_ok 6 rfl ?_
         refine V.nil ?_
         refine V.tN ?_
         refine V.ret ?_
         refine V.bR ?_
         refine V.tR ?_
         refine V.done rfl ?_
         exact ⟨(congrArg Value.bool (by first | rfl | (simp only [recB, stR]; grind))), HG⟩
       ·
        try replace h13 := V.dec h13
        try simp only [V.mk0, V.mk1, V.mk2, V.mk3] at h13
        refine V.skip ?_
        refine V.bN ?_
        refine V.tN ?_
        refine V.seq ?_
        refine V.region ?_
        refine V.run T_ok 1 rfl ?_
        refine V.nil ?_
        refine V.tN ?_
        refine V.ret ?_
        refine V.done rfl ?_
        exact ⟨(congrArg Value.bool (by first | rfl | (simp only [recB, stR]; grind))), HG⟩
  ·
   try replace g2_3 := V.dec g2_3
   try simp only [V.mk0, V.mk1, V.mk2, V.mk3] at g2_3
   refine V.run T_ok 5 rfl ?_
   refine V.nil ?_
   refine V.tN ?_
   refine V.seq ?_
   refine V.region ?_
   refine V.run T_ok 1 rfl ?_
   refine V.loadO T_ok Fk2 rfl rfl rfl rfl rfl ?_
   refine V.call (rwritten_spec F_o (fun k hk => by have := hD_o k hk; omega) (by first | assumption | exact keysOk.nil | (unfold keysOk; decide))) rfl rfl rfl ?_
   rintro _ w19 ⟨rfl, G20⟩
   have z21 := V.Fr.size G20
   try replace F_o := F_o.gr G20
   try replace Fk2 := Fk2.gr G20
   replace HG := HG.grow G20
   clear G20
   refine V.run T_ok 1 rfl ?_
   refine V.nil ?_
   refine V.tN ?_
   refine V.seq ?_
   refine V.region ?_
   refine V.run T_ok 1 rfl ?_
   refine V.loadO T_ok Fk2 rfl rfl rfl rfl rfl ?_
   refine V.mkStruct T_ok zero24 rfl rfl rfl rfl rfl ?_
   refine V.step rfl rfl (V.eqA_run rfl rfl rfl eqG24 (eqS24 _)) ?_
   refine V.run T_ok 1 rfl ?_
   refine V.nil ?_
   refine V.tN ?_
   refine V.seq ?_
   refine V.seq ?_
   refine V.region ?_
   refine V.run T_ok 1 rfl ?_
   refine V.loadO T_ok Fk2 rfl rfl rfl rfl rfl ?_
   refine V.nil ?_
   refine V.tN ?_
   refine V.block ?_
   refine V.seq ?_
   refine V.region ?_
   refine V.run T_ok 2 rfl ?_
   refine V.nil ?_
   refine V.tN ?_
   refine V.condT rfl (fun h6 => ?_) (fun h6 => ?_)
   ·
    try replace h6 := V.dec h6
    try simp only [V.mk0, V.mk1, V.mk2, V.mk3] at h6
    refine V.seq ?_
    refine V.region ?_
    refine V.run T_ok 2 rfl ?_
    refine V.andG T_ok 1 1 35 rfl rfl rfl rfl rfl rfl rfl rfl ?_
    refine V.run T_ok 1 rfl ?_
    refine V.split (j := 4) (t := 38) rfl rfl (fun g7_4 => ?_) (fun g7_4 => ?_)
    ·
     try replace g7_4 := V.dec g7_4
     try simp only [V.mk0, V.mk1, V.mk2, V.mk3] at g7_4
     refine V.run T_ok 1 rfl ?_
     refine V.yes rfl rfl rfl ?_
     refine V.loadO T_ok Fk2 rfl rfl rfl rfl rfl ?_
     refine V.run T_ok 3 rfl ?_
     refine V.split (j := 9) (t := 43) rfl rfl (fun g7_9 => ?_) (fun g7_9 => ?_)
     ·
      try replace g7_9 := V.dec g7_9
      try simp only [V.mk0, V.mk1, V.mk2, V.mk3] at g7_9
      refine V.run T_ok 1 rfl ?_
      refine V.yes rfl rfl rfl ?_
      refine V.loadO T_ok Fk2 rfl rfl rfl rfl rfl ?_
      refine V.yes rfl rfl rfl ?_
      refine V.mkStruct T_ok zero24 rfl rfl rfl rfl rfl ?_
      refine V.yes rfl rfl rfl ?_
      refine V.step rfl rfl (V.eqA_run rfl rfl rfl eqG24 (eqS24 _)) ?_
      refine V.run T_ok 2 rfl ?_
      refine V.split (j := 15) (t := 49) rfl rfl (fun g7_15 => ?_) (fun g7_15 => ?_)
      ·
       try replace g7_15 := V.dec g7_15
       try simp only [V.mk0, V.mk1, V.mk2, V.mk3] at g7_15
       refine V.run T_ok 1 rfl ?_
       refine V.yes rfl rfl rfl ?_
       refine V.loadO T_ok Fk2 rfl rfl rfl rfl rfl ?_
       refine V.run T_ok 4 rfl ?_
       refine V.nil ?_
       refine V.tN ?_
       refine V.ret ?_
       refine V.bR ?_
       refine V.tR ?_
       refine V.done rfl ?_
       exact ⟨(congrArg Value.bool (by first | rfl | (simp only [recB, stR]; grind))), HG⟩
      ·
       try replace g7_15 := V.dec g7_15
       try simp only [V.mk0, V.mk1, V.mk2, V.mk3] at g7_15
       refine V.run T_ok 6 rfl ?_
       refine V.nil ?_
       refine V.tN ?_
       refine V.ret ?_
       refine V.bR ?_
       refine V.tR ?_
       refine V.done rfl ?_
       exact ⟨(congrArg Value.bool (by first | rfl | (simp only [recB, stR]; grind))), HG⟩
     ·
      try replace g7_9 := V.dec g7_9
      try simp only [V.mk0, V.mk1, V.mk2, V.mk3] at g7_9
      refine V.run T_ok 12 rfl ?_
      refine V.nil ?_
      refine V.tN ?_
      refine V.ret ?_
      refine V.bR ?_
      refine V.tR ?_
      refine V.done rfl ?_
      exact ⟨(congrArg Value.bool (by first | rfl | (simp only [recB, stR]; grind))), HG⟩
    ·
     try replace g7_4 := V.dec g7_4
     try simp only [V.mk0, V.mk1, V.mk2, V.mk3] at g7_4
     refine V.run T_ok 17 rfl ?_
     refine V.nil ?_
     refine V.tN ?_
     refine V.ret ?_
     refine V.bR ?_
     refine V.tR ?_
     refine V.done rfl ?_
     exact ⟨(congrArg Value.bool (by first | rfl | (simp only [recB, stR]; grind))), HG⟩
   ·
    try replace h6 := V.dec h6
    try simp only [V.mk0, V.mk1, V.mk2, V.mk3] at h6
    refine V.seq ?_
    refine V.seq ?_
    refine V.region ?_
    refine V.run T_ok 2 rfl ?_
    refine V.nil ?_
    refine V.tN ?_
    refine V.condT rfl (fun h8 => ?_) (fun h8 => ?_)
    ·
     try replace h8 := V.dec h8
     try simp only [V.mk0, V.mk1, V.mk2, V.mk3] at h8
     refine V.skip ?_
     refine V.tN ?_
     refine V.condT rfl (fun h8 => ?_) (fun h8 => ?_)
     ·
      try replace h8 := V.dec h8
      try simp only [V.mk0, V.mk1, V.mk2, V.mk3] at h8
      refine V.seq ?_
      refine V.region ?_
      refine V.run T_ok 2 rfl ?_
      refine V.andG T_ok 1 1 59 rfl rfl rfl rfl rfl rfl rfl rfl ?_
      refine V.run T_ok 1 rfl ?_
      refine V.andG T_ok 1 4 62 rfl rfl rfl rfl rfl rfl rfl rfl ?_
      refine V.run T_ok 1 rfl ?_
      refine V.split (j := 7) (t := 65) rfl rfl (fun g10_7 => ?_) (fun g10_7 => ?_)
      ·
       try replace g10_7 := V.dec g10_7
       try simp only [V.mk0, V.mk1, V.mk2, V.mk3] at g10_7
       refine V.run T_ok 1 rfl ?_
       refine V.yes rfl rfl rfl ?_
       refine V.loadO T_ok Fk2 rfl rfl rfl rfl rfl ?_
       refine V.run T_ok 4 rfl ?_
       refine V.nil ?_
       refine V.tN ?_
       refine V.ret ?_
       refine V.bR ?_
       refine V.tR ?_
       refine V.done rfl ?_
       exact ⟨(congrArg Value.bool (by first | rfl | (simp only [recB, stR]; grind))), HG⟩
      ·
       try replace g10_7 := V.dec g10_7
       try simp only [V.mk0, V.mk1, V.mk2, V.mk3] at g10_7
       refine V.run T_ok 6 rfl ?_
       refine V.nil ?_
       refine V.tN ?_
       refine V.ret ?_
       refine V.bR ?_
       refine V.tR ?_
       refine V.done rfl ?_
       exact ⟨(congrArg Value.bool (by first | rfl | (simp only [recB, stR]; grind))), HG⟩
     ·
      try replace h8 := V.dec h8
      try simp only [V.mk0, V.mk1, V.mk2, V.mk3] at h8
      refine V.seq ?_
      refine V.region ?_
      refine V.run T_ok 2 rfl ?_
      refine V.nil ?_
      refine V.tN ?_
      refine V.condT rfl (fun h11 => ?_) (fun h11 => ?_)
      ·
       try replace h11 := V.dec h11
       try simp only [V.mk0, V.mk1, V.mk2, V.mk3] at h11
       refine V.seq ?_
       refine V.region ?_
       refine V.run T_ok 2 rfl ?_
       refine V.andG T_ok 1 1 74 rfl rfl rfl rfl rfl rfl rfl rfl ?_
       refine V.run T_ok 1 rfl ?_
       refine V.andG T_ok 1 4 77 rfl rfl rfl rfl rfl rfl rfl rfl ?_
       refine V.run T_ok 1 rfl ?_
       refine V.nil ?_
       refine V.tN ?_
       refine V.ret ?_
       refine V.bR ?_
       refine V.tR ?_
       refine V.done rfl ?_
       exact ⟨(congrArg Value.bool (by first | rfl | (simp only [recB, stR]; grind))), HG⟩
      ·
       try replace h11 := V.dec h11
       try simp only [V.mk0, V.mk1, V.mk2, V.mk3] at h11
       refine V.seq ?_
       refine V.region ?_
       refine V.run T_ok 2 rfl ?_
       refine V.nil ?_
       refine V.tN ?_
       refine V.condT rfl (fun h13 => ?_) (fun h13 => ?_)
       ·
        try replace h13 := V.dec h13
        try simp only [V.mk0, V.mk1, V.mk2, V.mk3] at h13
        refine V.seq ?_
        refine V.region ?_
        refine V.run T_ok 2 rfl ?_
        refine V.andG T_ok 1 1 83 rfl rfl rfl rfl rfl rfl rfl rfl ?_
        refine V.run T_ok 1 rfl ?_
        refine V.split (j := 4) (t := 86) rfl rfl (fun g14_4 => ?_) (fun g14_4 => ?_)
        ·
         try replace g14_4 := V.dec g14_4
         try simp only [V.mk0, V.mk1, V.mk2, V.mk3] at g14_4
         refine V.run T_ok 1 rfl ?_
         refine V.yes rfl rfl rfl ?_
         refine V.loadO T_ok Fk2 rfl rfl rfl rfl rfl ?_
         refine V.run T_ok 4 rfl ?_
         refine V.nil ?_
         refine V.tN ?_
         refine V.ret ?_
         refine V.bR ?_
         refine V.tR ?_
         refine V.done rfl ?_
         exact ⟨(congrArg Value.bool (by first | rfl | (simp only [recB, stR]; grind))), HG⟩
        ·
         try replace g14_4 := V.dec g14_4
         try simp only [V.mk0, V.mk1, V.mk2, V.mk3] at g14_4
         refine V.run T_ok 6 rfl ?_
         refine V.nil ?_
         refine V.tN ?_
         refine V.ret ?_
         refine V.bR ?_
         refine V.tR ?_
         refine V.done rfl ?_
         exact ⟨(congrArg Value.bool (by first | rfl | (simp only [recB, stR]; grind))), HG⟩
       ·
        try replace h13 := V.dec h13
        try simp only [V.mk0, V.mk1, V.mk2, V.mk3] at h13
        refine V.skip ?_
        refine V.bN ?_
        refine V.tN ?_
        refine V.seq ?_
        refine V.region ?_
        refine V.run T_ok 1 rfl ?_
        refine V.nil ?_
        refine V.tN ?_
        refine V.ret ?_
        refine V.done rfl ?_
        exact ⟨(congrArg Value.bool (by first | rfl | (simp only [recB, stR]; grind))), HG⟩
    ·
     try replace h8 := V.dec h8
     try simp only [V.mk0, V.mk1, V.mk2, V.mk3] at h8
     refine V.region ?_
     refine V.run T_ok 2 rfl ?_
     refine V.nil ?_
     refine V.tN ?_
     refine V.condT rfl (fun h9 => ?_) (fun h9 => ?_)
     ·
      try replace h9 := V.dec h9
      try simp only [V.mk0, V.mk1, V.mk2, V.mk3] at h9
      refine V.seq ?_
      refine V.region ?_
      refine V.run T_ok 2 rfl ?_
      refine V.andG T_ok 1 1 59 rfl rfl rfl rfl rfl rfl rfl rfl ?_
      refine V.run T_ok 1 rfl ?_
      refine V.andG T_ok 1 4 62 rfl rfl rfl rfl rfl rfl rfl rfl ?_
      refine V.run T_ok 1 rfl ?_
      refine V.split (j := 7) (t := 65) rfl rfl (fun g10_7 => ?_) (fun g10_7 => ?_)
      ·
       try replace g10_7 := V.dec g10_7
       try simp only [V.mk0, V.mk1, V.mk2, V.mk3] at g10_7
       refine V.run T_ok 1 rfl ?_
       refine V.yes rfl rfl rfl ?_
       refine V.loadO T_ok Fk2 rfl rfl rfl rfl rfl ?_
       refine V.run T_ok 4 rfl ?_
       refine V.nil ?_
       refine V.tN ?_
       refine V.ret ?_
       refine V.bR ?_
       refine V.tR ?_
       refine V.done rfl ?_
       exact ⟨(congrArg Value.bool (by first | rfl | (simp only [recB, stR]; grind))), HG⟩
      ·
       try replace g10_7 := V.dec g10_7
       try simp only [V.mk0, V.mk1, V.mk2, V.mk3] at g10_7
       refine V.run T_ok 6 rfl ?_
       refine V.nil ?_
       refine V.tN ?_
       refine V.ret ?_
       refine V.bR ?_
       refine V.tR ?_
       refine V.done rfl ?_
       exact ⟨(congrArg Value.bool (by first | rfl | (simp only [recB, stR]; grind))), HG⟩
     ·
      try replace h9 := V.dec h9
      try simp only [V.mk0, V.mk1, V.mk2, V.mk3] at h9
      refine V.seq ?_
      refine V.region ?_
      refine V.run T_ok 2 rfl ?_
      refine V.nil ?_
      refine V.tN ?_
      refine V.condT rfl (fun h11 => ?_) (fun h11 => ?_)
      ·
       try replace h11 := V.dec h11
       try simp only [V.mk0, V.mk1, V.mk2, V.mk3] at h11
       refine V.seq ?_
       refine V.region ?_
       refine V.run T_ok 2 rfl ?_
       refine V.andG T_ok 1 1 74 rfl rfl rfl rfl rfl rfl rfl rfl ?_
       refine V.run T_ok 1 rfl ?_
       refine V.andG T_ok 1 4 77 rfl rfl rfl rfl rfl rfl rfl rfl ?_
       refine V.run T_ok 1 rfl ?_
       refine V.nil ?_
       refine V.tN ?_
       refine V.ret ?_
       refine V.bR ?_
       refine V.tR ?_
       refine V.done rfl ?_
       exact ⟨(congrArg Value.bool (by first | rfl | (simp only [recB, stR]; grind))), HG⟩
      ·
       try replace h11 := V.dec h11
       try simp only [V.mk0, V.mk1, V.mk2, V.mk3] at h11
       refine V.seq ?_
       refine V.region ?_
       refine V.run T_ok 2 rfl ?_
       refine V.nil ?_
       refine V.tN ?_
       refine V.condT rfl (fun h13 => ?_) (fun h13 => ?_)
       ·
        try replace h13 := V.dec h13
        try simp only [V.mk0, V.mk1, V.mk2, V.mk3] at h13
        refine V.seq ?_
        refine V.region ?_
        refine V.run T_ok 2 rfl ?_
        refine V.andG T_ok 1 1 83 rfl rfl rfl rfl rfl rfl rfl rfl ?_
        refine V.run T_ok 1 rfl ?_
        refine V.split (j := 4) (t := 86) rfl rfl (fun g14_4 => ?_) (fun g14_4 => ?_)
        ·
         try replace g14_4 := V.dec g14_4
         try simp only [V.mk0, V.mk1, V.mk2, V.mk3] at g14_4
         refine V.run T_ok 1 rfl ?_
         refine V.yes rfl rfl rfl ?_
         refine V.loadO T_ok Fk2 rfl rfl rfl rfl rfl ?_
         refine V.run T_ok 4 rfl ?_
         refine V.nil ?_
         refine V.tN ?_
         refine V.ret ?_
         refine V.bR ?_
         refine V.tR ?_
         refine V.done rfl ?_
         exact ⟨(congrArg Value.bool (by first | rfl | (simp only [recB, stR]; grind))), HG⟩
        ·
         try replace g14_4 := V.dec g14_4
         try simp only [V.mk0, V.mk1, V.mk2, V.mk3] at g14_4
         refine V.run T_ok 6 rfl ?_
         refine V.nil ?_
         refine V.tN ?_
         refine V.ret ?_
         refine V.bR ?_
         refine V.tR ?_
         refine V.done rfl ?_
         exact ⟨(congrArg Value.bool (by first | rfl | (simp only [recB, stR]; grind))), HG⟩
       ·
        try replace h13 := V.dec h13
        try simp only [V.mk0, V.mk1, V.mk2, V.mk3] at h13
        refine V.skip ?_
        refine V.bN ?_
        refine V.tN ?_
        refine V.seq ?_
        refine V.region ?_
        refine V.run T_ok 1 rfl ?_
        refine V.nil ?_
        refine V.tN ?_
        refine V.ret ?_
        refine V.done rfl ?_
        exact ⟨(congrArg Value.bool (by first | rfl | (simp only [recB, stR]; grind))), HG⟩
 ·
  try replace g1_3 := V.dec g1_3
  try simp only [V.mk0, V.mk1, V.mk2, V.mk3] at g1_3
  refine V.run T_ok 5 rfl ?_
  refine V.nil ?_
  refine V.tN ?_
  refine V.seq ?_
  refine V.region ?_
  refine V.run T_ok 1 rfl ?_
  refine V.loadO T_ok Fk2 rfl rfl rfl rfl rfl ?_
  refine V.call (rright_spec (a := d.aw) (b := d.al)) rfl rfl rfl ?_
  rintro _ w22 ⟨rfl, G23⟩
  have z24 := V.Fr.size G23
  try replace F_o := F_o.gr G23
  try replace Fk2 := Fk2.gr G23
  replace HG := HG.grow G23
  clear G23
  refine V.run T_ok 1 rfl ?_
  refine V.split (j := 3) (t := 18) rfl rfl (fun g2_3 => ?_) (fun g2_3 => ?_)
  ·
   try replace g2_3 := V.dec g2_3
   try simp only [V.mk0, V.mk1, V.mk2, V.mk3] at g2_3
   refine V.run T_ok 1 rfl ?_
   refine V.yes rfl rfl rfl ?_
   refine V.loadO T_ok Fk2 rfl rfl rfl rfl rfl ?_
   refine V.yes rfl rfl rfl ?_
   refine V.call (rright_spec (a := d.bw) (b := d.bl)) rfl rfl rfl ?_
   rintro _ w25 ⟨rfl, G26⟩
   have z27 := V.Fr.size G26
   try replace F_o := F_o.gr G26
   try replace Fk2 := Fk2.gr G26
   replace HG := HG.grow G26
   clear G26
   refine V.run T_ok 2 rfl ?_
   refine V.nil ?_
   refine V.tN ?_
   refine V.seq ?_
   refine V.region ?_
   refine V.run T_ok 1 rfl ?_
   refine V.loadO T_ok Fk2 rfl rfl rfl rfl rfl ?_
   refine V.call (rwritten_spec F_o (fun k hk => by have := hD_o k hk; omega) (by first | assumption | exact keysOk.nil | (unfold keysOk; decide))) rfl rfl rfl ?_
   rintro _ w28 ⟨rfl, G29⟩
   have z30 := V.Fr.size G29
   try replace F_o := F_o.gr G29
   try replace Fk2 := Fk2.gr G29
   replace HG := HG.grow G29
   clear G29
   refine V.run T_ok 1 rfl ?_
   refine V.nil ?_
   refine V.tN ?_
   refine V.seq ?_
   refine V.region ?_
   refine V.run T_ok 1 rfl ?_
   refine V.loadO T_ok Fk2 rfl rfl rfl rfl rfl ?_
   refine V.mkStruct T_ok zero24 rfl rfl rfl rfl rfl ?_
   refine V.step rfl rfl (V.eqA_run rfl rfl rfl eqG24 (eqS24 _)) ?_
   refine V.run T_ok 1 rfl ?_
   refine V.nil ?_
   refine V.tN ?_
   refine V.seq ?_
   refine V.seq ?_
   refine V.region ?_
   refine V.run T_ok 1 rfl ?_
   refine V.loadO T_ok Fk2 rfl rfl rfl rfl rfl ?_
   refine V.nil ?_
   refine V.tN ?_
   refine V.block ?_
   refine V.seq ?_
   refine V.region ?_
   refine V.run T_ok 2 rfl ?_
   refine V.nil ?_
   refine V.tN ?_
   refine V.condT rfl (fun h6 => ?_) (fun h6 => ?_)
   ·
    try replace h6 := V.dec h6
    try simp only [V.mk0, V.mk1, V.mk2, V.mk3] at h6
    refine V.seq ?_
    refine V.region ?_
    refine V.run T_ok 22 rfl ?_
    refine V.nil ?_
    refine V.tN ?_
    refine V.ret ?_
    refine V.bR ?_
    refine V.tR ?_
    refine V.done rfl ?_
    exact ⟨(congrArg Value.bool (by first | rfl | (simp only [recB, stR]; grind))), HG⟩
   ·
    try replace h6 := V.dec h6
    try simp only [V.mk0, V.mk1, V.mk2, V.mk3] at h6
    refine V.seq ?_
    refine V.seq ?_
    refine V.region ?_
    refine V.run T_ok 2 rfl ?_
    refine V.nil ?_
    refine V.tN ?_
    refine V.condT rfl (fun h8 => ?_) (fun h8 => ?_)
    ·
     try replace h8 := V.dec h8
     try simp only [V.mk0, V.mk1, V.mk2, V.mk3] at h8
     refine V.skip ?_
     refine V.tN ?_
     refine V.condT rfl (fun h8 => ?_) (fun h8 => ?_)
     ·
      try replace h8 := V.dec h8
      try simp only [V.mk0, V.mk1, V.mk2, V.mk3] at h8
      refine V.seq ?_
      refine V.region ?_
      refine V.run T_ok 14 rfl ?_
      refine V.nil ?_
      refine V.tN ?_
      refine V.ret ?_
      refine V.bR ?_
      refine V.tR ?_
      refine V.done rfl ?_
      exact ⟨(congrArg Value.bool (by first | rfl | (simp only [recB, stR]; grind))), HG⟩
     ·
      try replace h8 := V.dec h8
      try simp only [V.mk0, V.mk1, V.mk2, V.mk3] at h8
      refine V.seq ?_
      refine V.region ?_
      refine V.run T_ok 2 rfl ?_
      refine V.nil ?_
      refine V.tN ?_
      refine V.condT rfl (fun h11 => ?_) (fun h11 => ?_)
      ·
       try replace h11 := V.dec h11
       try simp only [V.mk0, V.mk1, V.mk2, V.mk3] at h11
       refine V.seq ?_
       refine V.region ?_
       refine V.run T_ok 8 rfl ?_
       refine V.nil ?_
       refine V.tN ?_
       refine V.ret ?_
       refine V.bR ?_
       refine V.tR ?_
       refine V.done rfl ?_
       exact ⟨(congrArg Value.bool (by first | rfl | (simp only [recB, stR]; grind))), HG⟩
      ·
       try replace h11 := V.dec h11
       try simp only [V.mk0, V.mk1, V.mk2, V.mk3] at h11
       refine V.seq ?_
       refine V.region ?_
       refine V.run T_ok 2 rfl ?_
       refine V.nil ?_
       refine V.tN ?_
       refine V.condT rfl (fun h13 => ?_) (fun h13 => ?_)
       ·
        try replace h13 := V.dec h13
        try simp only [V.mk0, V.mk1, V.mk2, V.mk3] at h13
        refine V.seq ?_
        refine V.region ?_
        refine V.run T_ok 11 rfl ?_
        refine V.nil ?_
        refine V.tN ?_
        refine V.ret ?_
        refine V.bR ?_
        refine V.tR ?_
        refine V.done rfl ?_
        exact ⟨(congrArg Value.bool (by first | rfl | (simp only [recB, stR]; grind))), HG⟩
       ·
        try replace h13 := V.dec h13
        try simp only [V.mk0, V.mk1, V.mk2, V.mk3] at h13
        refine V.skip ?_
        refine V.bN ?_
        refine V.tN ?_
        refine V.seq ?_
        refine V.region ?_
        refine V.run T_ok 1 rfl ?_
        refine V.nil ?_
        refine V.tN ?_
        refine V.ret ?_
        refine V.done rfl ?_
        exact ⟨(congrArg Value.bool (by first | rfl | (simp only [recB, stR]; grind))), HG⟩
    ·
     try replace h8 := V.dec h8
     try simp only [V.mk0, V.mk1, V.mk2, V.mk3] at h8
     refine V.region ?_
     refine V.run T_ok 2 rfl ?_
     refine V.nil ?_
     refine V.tN ?_
     refine V.condT rfl (fun h9 => ?_) (fun h9 => ?_)
     ·
      try replace h9 := V.dec h9
      try simp only [V.mk0, V.mk1, V.mk2, V.mk3] at h9
      refine V.seq ?_
      refine V.region ?_
      refine V.run T_ok 14 rfl ?_
      refine V.nil ?_
      refine V.tN ?_
      refine V.ret ?_
      refine V.bR ?_
      refine V.tR ?_
      refine V.done rfl ?_
      exact ⟨(congrArg Value.bool (by first | rfl | (simp only [recB, stR]; grind))), HG⟩
     ·
      try replace h9 := V.dec h9
      try simp only [V.mk0, V.mk1, V.mk2, V.mk3] at h9
      refine V.seq ?_
      refine V.region ?_
      refine V.run T_ok 2 rfl ?_
      refine V.nil ?_
      refine V.tN ?_
      refine V.condT rfl (fun h11 => ?_) (fun h11 => ?_)
      ·
       try replace h11 := V.dec h11
       try simp only [V.mk0, V.mk1, V.mk2, V.mk3] at h11
       refine V.seq ?_
       refine V.region ?_
       refine V.run T_ok 8 rfl ?_
       refine V.nil ?_
       refine V.tN ?_
       refine V.ret ?_
       refine V.bR ?_
       refine V.tR ?_
       refine V.done rfl ?_
       exact ⟨(congrArg Value.bool (by first | rfl | (simp only [recB, stR]; grind))), HG⟩
      ·
       try replace h11 := V.dec h11
       try simp only [V.mk0, V.mk1, V.mk2, V.mk3] at h11
       refine V.seq ?_
       refine V.region ?_
       refine V.run T_ok 2 rfl ?_
       refine V.nil ?_
       refine V.tN ?_
       refine V.condT rfl (fun h13 => ?_) (fun h13 => ?_)
       ·
        try replace h13 := V.dec h13
        try simp only [V.mk0, V.mk1, V.mk2, V.mk3] at h13
        refine V.seq ?_
        refine V.region ?_
        refine V.run T_ok 11 rfl ?_
        refine V.nil ?_
        refine V.tN ?_
        refine V.ret ?_
        refine V.bR ?_
        refine V.tR ?_
        refine V.done rfl ?_
        exact ⟨(congrArg Value.bool (by first | rfl | (simp only [recB, stR]; grind))), HG⟩
       ·
        try replace h13 := V.dec h13
        try simp only [V.mk0, V.mk1, V.mk2, V.mk3] at h13
        refine V.skip ?_
        refine V.bN ?_
        refine V.tN ?_
        refine V.seq ?_
        refine V.region ?_
        refine V.run T_ok 1 rfl ?_
        refine V.nil ?_
        refine V.tN ?_
        refine V.ret ?_
        refine V.done rfl ?_
        exact ⟨(congrArg Value.bool (by first | rfl | (simp only [recB, stR]; grind))), HG⟩
  ·
   try replace g2_3 := V.dec g2_3
   try simp only [V.mk0, V.mk1, V.mk2, V.mk3] at g2_3
   refine V.run T_ok 5 rfl ?_
   refine V.nil ?_
   refine V.tN ?_
   refine V.seq ?_
   refine V.region ?_
   refine V.run T_ok 1 rfl ?_
   refine V.loadO T_ok Fk2 rfl rfl rfl rfl rfl ?_
   refine V.call (rwritten_spec F_o (fun k hk => by have := hD_o k hk; omega) (by first | assumption | exact keysOk.nil | (unfold keysOk; decide))) rfl rfl rfl ?_
   rintro _ w31 ⟨rfl, G32⟩
   have z33 := V.Fr.size G32
   try replace F_o := F_o.gr G32
   try replace Fk2 := Fk2.gr G32
   replace HG := HG.grow G32
   clear G32
   refine V.run T_ok 1 rfl ?_
   refine V.nil ?_
   refine V.tN ?_
   refine V.seq ?_
   refine V.region ?_
   refine V.run T_ok 1 rfl ?_
   refine V.loadO T_ok Fk2 rfl rfl rfl rfl rfl ?_
   refine V.mkStruct T_ok zero24 rfl rfl rfl rfl rfl ?_
   refine V.step rfl rfl (V.eqA_run rfl rfl rfl eqG24 (eqS24 _)) ?_
   refine V.run T_ok 1 rfl ?_
   refine V.nil ?_
   refine V.tN ?_
   refine V.seq ?_
   refine V.seq ?_
   refine V.region ?_
   refine V.run T_ok 1 rfl ?_
   refine V.loadO T_ok Fk2 rfl rfl rfl rfl rfl ?_
   refine V.nil ?_
   refine V.tN ?_
   refine V.block ?_
   refine V.seq ?_
   refine V.region ?_
   refine V.run T_ok 2 rfl ?_
   refine V.nil ?_
   refine V.tN ?_
   refine V.condT rfl (fun h6 => ?_) (fun h6 => ?_)
   ·
    try replace h6 := V.dec h6
    try simp only [V.mk0, V.mk1, V.mk2, V.mk3] at h6
    refine V.seq ?_
    refine V.region ?_
    refine V.run T_ok 22 rfl ?_
    refine V.nil ?_
    refine V.tN ?_
    refine V.ret ?_
    refine V.bR ?_
    refine V.tR ?_
    refine V.done rfl ?_
    exact ⟨(congrArg Value.bool (by first | rfl | (simp only [recB, stR]; grind))), HG⟩
   ·
    try replace h6 := V.dec h6
    try simp only [V.mk0, V.mk1, V.mk2, V.mk3] at h6
    refine V.seq ?_
    refine V.seq ?_
    refine V.region ?_
    refine V.run T_ok 2 rfl ?_
    refine V.nil ?_
    refine V.tN ?_
    refine V.condT rfl (fun h8 => ?_) (fun h8 => ?_)
    ·
     try replace h8 := V.dec h8
     try simp only [V.mk0, V.mk1, V.mk2, V.mk3] at h8
     refine V.skip ?_
     refine V.tN ?_
     refine V.condT rfl (fun h8 => ?_) (fun h8 => ?_)
     ·
      try replace h8 := V.dec h8
      try simp only [V.mk0, V.mk1, V.mk2, V.mk3] at h8
      refine V.seq ?_
      refine V.region ?_
      refine V.run T_ok 14 rfl ?_
      refine V.nil ?_
      refine V.tN ?_
      refine V.ret ?_
      refine V.bR ?_
      refine V.tR ?_
      refine V.done rfl ?_
      exact ⟨(congrArg Value.bool (by first | rfl | (simp only [recB, stR]; grind))), HG⟩
     ·
      try replace h8 := V.dec h8
      try simp only [V.mk0, V.mk1, V.mk2, V.mk3] at h8
      refine V.seq ?_
      refine V.region ?_
      refine V.run T_ok 2 rfl ?_
      refine V.nil ?_
      refine V.tN ?_
      refine V.condT rfl (fun h11 => ?_) (fun h11 => ?_)
      ·
       try replace h11 := V.dec h11
       try simp only [V.mk0, V.mk1, V.mk2, V.mk3] at h11
       refine V.seq ?_
       refine V.region ?_
       refine V.run T_ok 8 rfl ?_
       refine V.nil ?_
       refine V.tN ?_
       refine V.ret ?_
       refine V.bR ?_
       refine V.tR ?_
       refine V.done rfl ?_
       exact ⟨(congrArg Value.bool (by first | rfl | (simp only [recB, stR]; grind))), HG⟩
      ·
       try replace h11 := V.dec h11
       try simp only [V.mk0, V.mk1, V.mk2, V.mk3] at h11
       refine V.seq ?_
       refine V.region ?_
       refine V.run T_ok 2 rfl ?_
       refine V.nil ?_
       refine V.tN ?_
       refine V.condT rfl (fun h13 => ?_) (fun h13 => ?_)
       ·
        try replace h13 := V.dec h13
        try simp only [V.mk0, V.mk1, V.mk2, V.mk3] at h13
        refine V.seq ?_
        refine V.region ?_
        refine V.run T_ok 11 rfl ?_
        refine V.nil ?_
        refine V.tN ?_
        refine V.ret ?_
        refine V.bR ?_
        refine V.tR ?_
        refine V.done rfl ?_
        exact ⟨(congrArg Value.bool (by first | rfl | (simp only [recB, stR]; grind))), HG⟩
       ·
        try replace h13 := V.dec h13
        try simp only [V.mk0, V.mk1, V.mk2, V.mk3] at h13
        refine V.skip ?_
        refine V.bN ?_
        refine V.tN ?_
        refine V.seq ?_
        refine V.region ?_
        refine V.run T_ok 1 rfl ?_
        refine V.nil ?_
        refine V.tN ?_
        refine V.ret ?_
        refine V.done rfl ?_
        exact ⟨(congrArg Value.bool (by first | rfl | (simp only [recB, stR]; grind))), HG⟩
    ·
     try replace h8 := V.dec h8
     try simp only [V.mk0, V.mk1, V.mk2, V.mk3] at h8
     refine V.region ?_
     refine V.run T_ok 2 rfl ?_
     refine V.nil ?_
     refine V.tN ?_
     refine V.condT rfl (fun h9 => ?_) (fun h9 => ?_)
     ·
      try replace h9 := V.dec h9
      try simp only [V.mk0, V.mk1, V.mk2, V.mk3] at h9
      refine V.seq ?_
      refine V.region ?_
      refine V.run T_ok 14 rfl ?_
      refine V.nil ?_
      refine V.tN ?_
      refine V.ret ?_
      refine V.bR ?_
      refine V.tR ?_
      refine V.done rfl ?_
      exact ⟨(congrArg Value.bool (by first | rfl | (simp only [recB, stR]; grind))), HG⟩
     ·
      try replace h9 := V.dec h9
      try simp only [V.mk0, V.mk1, V.mk2, V.mk3] at h9
      refine V.seq ?_
      refine V.region ?_
      refine V.run T_ok 2 rfl ?_
      refine V.nil ?_
      refine V.tN ?_
      refine V.condT rfl (fun h11 => ?_) (fun h11 => ?_)
      ·
       try replace h11 := V.dec h11
       try simp only [V.mk0, V.mk1, V.mk2, V.mk3] at h11
       refine V.seq ?_
       refine V.region ?_
       refine V.run T_ok 8 rfl ?_
       refine V.nil ?_
       refine V.tN ?_
       refine V.ret ?_
       refine V.bR ?_
       refine V.tR ?_
       refine V.done rfl ?_
       exact ⟨(congrArg Value.bool (by first | rfl | (simp only [recB, stR]; grind))), HG⟩
      ·
       try replace h11 := V.dec h11
       try simp only [V.mk0, V.mk1, V.mk2, V.mk3] at h11
       refine V.seq ?_
       refine V.region ?_
       refine V.run T_ok 2 rfl ?_
       refine V.nil ?_
       refine V.tN ?_
       refine V.condT rfl (fun h13 => ?_) (fun h13 => ?_)
       ·
        try replace h13 := V.dec h13
        try simp only [V.mk0, V.mk1, V.mk2, V.mk3] at h13
        refine V.seq ?_
        refine V.region ?_
        refine V.run T_ok 11 rfl ?_
        refine V.nil ?_
        refine V.tN ?_
        refine V.ret ?_
        refine V.bR ?_
        refine V.tR ?_
        refine V.done rfl ?_
        exact ⟨(congrArg Value.bool (by first | rfl | (simp only [recB, stR]; grind))), HG⟩
       ·
        try replace h13 := V.dec h13
        try simp only [V.mk0, V.mk1, V.mk2, V.mk3] at h13
        refine V.skip ?_
        refine V.bN ?_
        refine V.tN ?_
        refine V.seq ?_
        refine V.region ?_
        refine V.run T_ok 1 rfl ?_
        refine V.nil ?_
        refine V.tN ?_
        refine V.ret ?_
        refine V.done rfl ?_
        exact ⟨(congrArg Value.bool (by first | rfl | (simp only [recB, stR]; grind))), HG⟩

set_option maxHeartbeats 4000000 in
set_option maxRecDepth 10000 in
theorem beat_spec {w : World} {d : RecV} {D_o : Nat → Prop} {c_o : Nat} {a_o : Option Addr} (F_o : Sl V.Cod.write w D_o a_o c_o d.ws) (hD_o : ∀ k, D_o k → k < w.heap.size) {ep : Int} {nw : Int} {nl : Int} (hl : d.ws.length ≤ 5864062014805) :
    Meets Try.prog 20 [.agg #[.int .i64 d.id, .int .i64 d.ep, .int .i64 d.st, .int .i64 d.aw, .int .i64 d.al, .int .i64 d.bw, .int .i64 d.bl, .slice a_o d.ws.length c_o], .int .i64 ep, .agg #[.int .i64 nw, .int .i64 nl]] w fun r w' => ∃ (ra22 : Option Addr) (rc22 : Nat), r = .tuple #[.agg #[.int .i64 ((rBeat d ep nw nl).1.id), .int .i64 ((rBeat d ep nw nl).1.ep), .int .i64 ((rBeat d ep nw nl).1.st), .int .i64 ((rBeat d ep nw nl).1.aw), .int .i64 ((rBeat d ep nw nl).1.al), .int .i64 ((rBeat d ep nw nl).1.bw), .int .i64 ((rBeat d ep nw nl).1.bl), .slice ra22 ((rBeat d ep nw nl).1.ws).length rc22], .int .i64 ((rBeat d ep nw nl).2)] ∧ Sl V.Cod.write w' (V.In w.heap.size w'.heap.size) ra22 rc22 ((rBeat d ep nw nl).1.ws) ∧ Gr w w' := by
 have HG := V.Fr.refl [] w
 refine V.enter (n := 58) Try.func20 rfl rfl (by decide) rfl ?_
 refine V.seq ?_
 refine V.region ?_
 refine V.box rfl rfl rfl rfl ?_
 rintro k1 w3 s5 s6 G4 Fk2
 have z7 := V.Fr.size G4
 try replace F_o := F_o.gr G4
 replace HG := HG.grow G4
 clear G4
 try simp only [V.cellsL, V.spliceL] at Fk2
 refine V.box rfl rfl rfl rfl ?_
 rintro k8 w10 s12 s13 G11 Fk9
 have z14 := V.Fr.size G11
 try replace F_o := F_o.gr G11
 try replace Fk2 := Fk2.gr G11
 replace HG := HG.grow G11
 clear G11
 try simp only [V.cellsL, V.spliceL] at Fk9
 refine V.alloc zero27 rfl rfl rfl ?_
 rintro k15 w17 s19 s20 G18 Fk16
 have z21 := V.Fr.size G18
 try replace F_o := F_o.gr G18
 try replace Fk2 := Fk2.gr G18
 try replace Fk9 := Fk9.gr G18
 replace HG := HG.grow G18
 clear G18
 try simp only [V.cellsL, V.spliceL] at Fk16
 refine V.run T_ok 1 rfl ?_
 refine V.nil ?_
 refine V.tN ?_
 refine V.seq ?_
 refine V.region ?_
 refine V.loadO T_ok Fk2 rfl rfl rfl rfl rfl ?_
 refine V.call (copied_spec (d := d) F_o (fun k hk => by have := hD_o k hk; omega) (by first | assumption | omega | decide)) rfl rfl rfl ?_
 rintro _ w25 ⟨a22, c23, rfl, F24, G26⟩
 have z27 := V.Fr.size G26
 try replace F_o := F_o.gr G26
 try replace Fk2 := Fk2.gr G26
 try replace Fk9 := Fk9.gr G26
 try replace Fk16 := Fk16.gr G26
 replace HG := HG.grow G26
 clear G26
 refine V.storeO Fk2 rfl rfl rfl rfl sz27 rfl rfl rfl rfl ?_
 rintro w28 G29 z31 Fs30
 clear Fk2
 have z32 := V.Fr.size G29
 first | replace F_o := F_o.mb G29 hD_o | clear F_o | skip
 first | replace Fk9 := Fk9.mv1 G29 (by omega) | clear Fk9 | skip
 first | replace Fk16 := Fk16.mv1 G29 (by omega) | clear Fk16 | skip
 first | replace F24 := F24.ma G29 | clear F24 | skip
 replace HG := HG.n1 G29
 clear G29
 have Fk2 := Fs30; clear Fs30
 simp only [V.spliceL, V.cellsL] at Fk2
 refine V.nil ?_
 refine V.tN ?_
 refine V.seq ?_
 refine V.block ?_
 refine V.seq ?_
 refine V.region ?_
 refine V.run T_ok 1 rfl ?_
 refine V.call (number_ok (n := ep)) rfl rfl rfl ?_
 rintro _ w28_ ⟨rfl, rfl⟩
 refine V.run T_ok 2 rfl ?_
 refine V.split (j := 3) (t := 14) rfl rfl (fun g2_3 => ?_) (fun g2_3 => ?_)
 ·
  try replace g2_3 := V.dec g2_3
  try simp only [V.mk0, V.mk1, V.mk2, V.mk3] at g2_3
  refine V.run T_ok 5 rfl ?_
  refine V.nil ?_
  refine V.tN ?_
  refine V.condY rfl rfl ?_
  refine V.seq ?_
  refine V.region ?_
  refine V.loadO T_ok Fk2 rfl rfl rfl rfl rfl ?_
  refine V.storeO Fk16 rfl rfl rfl rfl sz27 rfl rfl rfl rfl ?_
  rintro w34 G35 z37 Fs36
  clear Fk16
  have z38 := V.Fr.size G35
  first | replace F_o := F_o.mb G35 hD_o | clear F_o | skip
  first | replace Fk9 := Fk9.mv1 G35 (by omega) | clear Fk9 | skip
  first | replace F24 := F24.ma G35 | clear F24 | skip
  first | replace Fk2 := Fk2.mv1 G35 (by omega) | clear Fk2 | skip
  replace HG := HG.n1 G35
  clear G35
  have Fk16 := Fs36; clear Fs36
  simp only [V.spliceL, V.cellsL] at Fk16
  refine V.run T_ok 1 rfl ?_
  refine V.nil ?_
  refine V.tN ?_
  refine V.ret ?_
  refine V.bR ?_
  refine V.tR ?_
  refine V.done2 rfl (V.resV_cell T_ok Fk16 rfl rfl) (V.resV_tmp rfl) ?_
  first
    | rw [show rBeat d ep nw nl = (d, 1) by simp only [rBeat, stR]; grind]
  exact ⟨a22, c23, (by first | rfl | simp only [List.length_set]), F24.re, HG⟩
 ·
  try replace g2_3 := V.dec g2_3
  try simp only [V.mk0, V.mk1, V.mk2, V.mk3] at g2_3
  refine V.yes rfl rfl rfl ?_
  refine V.loadO T_ok Fk9 rfl rfl rfl rfl rfl ?_
  refine V.yes rfl rfl rfl ?_
  refine V.call (right_spec (a := nw) (b := nl)) rfl rfl rfl ?_
  rintro _ w39 ⟨rfl, G40⟩
  have z41 := V.Fr.size G40
  try replace F_o := F_o.gr G40
  try replace Fk9 := Fk9.gr G40
  try replace Fk16 := Fk16.gr G40
  try replace F24 := F24.gr G40
  try replace Fk2 := Fk2.gr G40
  replace HG := HG.grow G40
  clear G40
  refine V.run T_ok 3 rfl ?_
  refine V.nil ?_
  refine V.tN ?_
  refine V.condT rfl (fun h2 => ?_) (fun h2 => ?_)
  ·
   try replace h2 := V.dec h2
   try simp only [V.mk0, V.mk1, V.mk2, V.mk3] at h2
   refine V.seq ?_
   refine V.region ?_
   refine V.loadO T_ok Fk2 rfl rfl rfl rfl rfl ?_
   refine V.storeO Fk16 rfl rfl rfl rfl sz27 rfl rfl rfl rfl ?_
   rintro w42 G43 z45 Fs44
   clear Fk16
   have z46 := V.Fr.size G43
   first | replace F_o := F_o.mb G43 hD_o | clear F_o | skip
   first | replace Fk9 := Fk9.mv1 G43 (by omega) | clear Fk9 | skip
   first | replace F24 := F24.ma G43 | clear F24 | skip
   first | replace Fk2 := Fk2.mv1 G43 (by omega) | clear Fk2 | skip
   replace HG := HG.n1 G43
   clear G43
   have Fk16 := Fs44; clear Fs44
   simp only [V.spliceL, V.cellsL] at Fk16
   refine V.run T_ok 1 rfl ?_
   refine V.nil ?_
   refine V.tN ?_
   refine V.ret ?_
   refine V.bR ?_
   refine V.tR ?_
   refine V.done2 rfl (V.resV_cell T_ok Fk16 rfl rfl) (V.resV_tmp rfl) ?_
   first
     | rw [show rBeat d ep nw nl = (d, 1) by simp only [rBeat, stR]; grind]
   exact ⟨a22, c23, (by first | rfl | simp only [List.length_set]), F24.re, HG⟩
  ·
   try replace h2 := V.dec h2
   try simp only [V.mk0, V.mk1, V.mk2, V.mk3] at h2
   refine V.seq ?_
   refine V.region ?_
   refine V.run T_ok 1 rfl ?_
   refine V.loadO T_ok Fk2 rfl rfl rfl rfl rfl ?_
   refine V.run T_ok 2 rfl ?_
   refine V.nil ?_
   refine V.tN ?_
   refine V.condT rfl (fun h4 => ?_) (fun h4 => ?_)
   ·
    try replace h4 := V.dec h4
    try simp only [V.mk0, V.mk1, V.mk2, V.mk3] at h4
    refine V.seq ?_
    refine V.region ?_
    refine V.loadO T_ok Fk2 rfl rfl rfl rfl rfl ?_
    refine V.storeO Fk16 rfl rfl rfl rfl sz27 rfl rfl rfl rfl ?_
    rintro w47 G48 z50 Fs49
    clear Fk16
    have z51 := V.Fr.size G48
    first | replace F_o := F_o.mb G48 hD_o | clear F_o | skip
    first | replace Fk9 := Fk9.mv1 G48 (by omega) | clear Fk9 | skip
    first | replace F24 := F24.ma G48 | clear F24 | skip
    first | replace Fk2 := Fk2.mv1 G48 (by omega) | clear Fk2 | skip
    replace HG := HG.n1 G48
    clear G48
    have Fk16 := Fs49; clear Fs49
    simp only [V.spliceL, V.cellsL] at Fk16
    refine V.run T_ok 1 rfl ?_
    refine V.nil ?_
    refine V.tN ?_
    refine V.ret ?_
    refine V.bR ?_
    refine V.tR ?_
    refine V.done2 rfl (V.resV_cell T_ok Fk16 rfl rfl) (V.resV_tmp rfl) ?_
    first
      | rw [show rBeat d ep nw nl = (d, 0) by simp only [rBeat, stR]; grind]
    exact ⟨a22, c23, (by first | rfl | simp only [List.length_set]), F24.re, HG⟩
   ·
    try replace h4 := V.dec h4
    try simp only [V.mk0, V.mk1, V.mk2, V.mk3] at h4
    refine V.seq ?_
    refine V.region ?_
    refine V.run T_ok 1 rfl ?_
    refine V.loadO T_ok Fk2 rfl rfl rfl rfl rfl ?_
    refine V.run T_ok 2 rfl ?_
    refine V.nil ?_
    refine V.tN ?_
    refine V.condT rfl (fun h6 => ?_) (fun h6 => ?_)
    ·
     try replace h6 := V.dec h6
     try simp only [V.mk0, V.mk1, V.mk2, V.mk3] at h6
     refine V.seq ?_
     refine V.region ?_
     refine V.loadO T_ok Fk2 rfl rfl rfl rfl rfl ?_
     refine V.storeO Fk16 rfl rfl rfl rfl sz27 rfl rfl rfl rfl ?_
     rintro w52 G53 z55 Fs54
     clear Fk16
     have z56 := V.Fr.size G53
     first | replace F_o := F_o.mb G53 hD_o | clear F_o | skip
     first | replace Fk9 := Fk9.mv1 G53 (by omega) | clear Fk9 | skip
     first | replace F24 := F24.ma G53 | clear F24 | skip
     first | replace Fk2 := Fk2.mv1 G53 (by omega) | clear Fk2 | skip
     replace HG := HG.n1 G53
     clear G53
     have Fk16 := Fs54; clear Fs54
     simp only [V.spliceL, V.cellsL] at Fk16
     refine V.run T_ok 1 rfl ?_
     refine V.nil ?_
     refine V.tN ?_
     refine V.ret ?_
     refine V.bR ?_
     refine V.tR ?_
     refine V.done2 rfl (V.resV_cell T_ok Fk16 rfl rfl) (V.resV_tmp rfl) ?_
     first
       | rw [show rBeat d ep nw nl = (d, 122) by simp only [rBeat, stR]; grind]
     exact ⟨a22, c23, (by first | rfl | simp only [List.length_set]), F24.re, HG⟩
    ·
     try replace h6 := V.dec h6
     try simp only [V.mk0, V.mk1, V.mk2, V.mk3] at h6
     refine V.seq ?_
     refine V.region ?_
     refine V.run T_ok 1 rfl ?_
     refine V.loadO T_ok Fk2 rfl rfl rfl rfl rfl ?_
     refine V.run T_ok 3 rfl ?_
     refine V.nil ?_
     refine V.tN ?_
     refine V.condT rfl (fun h8 => ?_) (fun h8 => ?_)
     ·
      try replace h8 := V.dec h8
      try simp only [V.mk0, V.mk1, V.mk2, V.mk3] at h8
      refine V.seq ?_
      refine V.region ?_
      refine V.loadO T_ok Fk2 rfl rfl rfl rfl rfl ?_
      refine V.storeO Fk16 rfl rfl rfl rfl sz27 rfl rfl rfl rfl ?_
      rintro w57 G58 z60 Fs59
      clear Fk16
      have z61 := V.Fr.size G58
      first | replace F_o := F_o.mb G58 hD_o | clear F_o | skip
      first | replace Fk9 := Fk9.mv1 G58 (by omega) | clear Fk9 | skip
      first | replace F24 := F24.ma G58 | clear F24 | skip
      first | replace Fk2 := Fk2.mv1 G58 (by omega) | clear Fk2 | skip
      replace HG := HG.n1 G58
      clear G58
      have Fk16 := Fs59; clear Fs59
      simp only [V.spliceL, V.cellsL] at Fk16
      refine V.run T_ok 1 rfl ?_
      refine V.nil ?_
      refine V.tN ?_
      refine V.ret ?_
      refine V.bR ?_
      refine V.tR ?_
      refine V.done2 rfl (V.resV_cell T_ok Fk16 rfl rfl) (V.resV_tmp rfl) ?_
      first
        | rw [show rBeat d ep nw nl = (d, 84) by simp only [rBeat, stR]; grind]
      exact ⟨a22, c23, (by first | rfl | simp only [List.length_set]), F24.re, HG⟩
     ·
      try replace h8 := V.dec h8
      try simp only [V.mk0, V.mk1, V.mk2, V.mk3] at h8
      refine V.seq ?_
      refine V.region ?_
      refine V.run T_ok 1 rfl ?_
      refine V.loadO T_ok Fk2 rfl rfl rfl rfl rfl ?_
      refine V.run T_ok 2 rfl ?_
      refine V.split (j := 3) (t := 40) rfl rfl (fun g10_3 => ?_) (fun g10_3 => ?_)
      ·
       try replace g10_3 := V.dec g10_3
       try simp only [V.mk0, V.mk1, V.mk2, V.mk3] at g10_3
       refine V.run T_ok 6 rfl ?_
       refine V.nil ?_
       refine V.tN ?_
       refine V.condY rfl rfl ?_
       refine V.region ?_
       refine V.run T_ok 1 rfl ?_
       refine V.loadO T_ok Fk2 rfl rfl rfl rfl rfl ?_
       refine V.run T_ok 2 rfl ?_
       refine V.loadO T_ok Fk2 rfl rfl rfl rfl rfl ?_
       refine V.mkStruct T_ok zero27 rfl rfl rfl rfl rfl ?_
       refine V.storeO Fk2 rfl rfl rfl rfl sz27 rfl rfl rfl rfl ?_
       rintro w62 G63 z65 Fs64
       clear Fk2
       have z66 := V.Fr.size G63
       first | replace F_o := F_o.mb G63 hD_o | clear F_o | skip
       first | replace Fk9 := Fk9.mv1 G63 (by omega) | clear Fk9 | skip
       first | replace Fk16 := Fk16.mv1 G63 (by omega) | clear Fk16 | skip
       first | replace F24 := F24.ma G63 | clear F24 | skip
       replace HG := HG.n1 G63
       clear G63
       have Fk2 := Fs64; clear Fs64
       simp only [V.spliceL, V.cellsL] at Fk2
       refine V.nil ?_
       refine V.bN ?_
       refine V.tN ?_
       refine V.seq ?_
       refine V.region ?_
       refine V.run T_ok 1 rfl ?_
       refine V.loadO T_ok Fk2 rfl rfl rfl rfl rfl ?_
       refine V.loadO T_ok Fk9 rfl rfl rfl rfl rfl ?_
       refine V.call (max_spec (a := d.bw) (b := d.bl) (c := nw) (d := nl)) rfl rfl rfl ?_
       rintro _ w67 ⟨rfl, G68⟩
       have z69 := V.Fr.size G68
       try replace F_o := F_o.gr G68
       try replace Fk9 := Fk9.gr G68
       try replace Fk16 := Fk16.gr G68
       try replace F24 := F24.gr G68
       try replace Fk2 := Fk2.gr G68
       replace HG := HG.grow G68
       clear G68
       refine V.run T_ok 1 rfl ?_
       refine V.storeO Fk2 rfl rfl rfl rfl sz24 rfl rfl rfl rfl ?_
       rintro w70 G71 z73 Fs72
       clear Fk2
       have z74 := V.Fr.size G71
       first | replace F_o := F_o.mb G71 hD_o | clear F_o | skip
       first | replace Fk9 := Fk9.mv1 G71 (by omega) | clear Fk9 | skip
       first | replace Fk16 := Fk16.mv1 G71 (by omega) | clear Fk16 | skip
       first | replace F24 := F24.ma G71 | clear F24 | skip
       replace HG := HG.n1 G71
       clear G71
       have Fk2 := Fs72; clear Fs72
       simp only [V.spliceL, V.cellsL] at Fk2
       refine V.nil ?_
       refine V.tN ?_
       refine V.seq ?_
       refine V.region ?_
       refine V.loadO T_ok Fk2 rfl rfl rfl rfl rfl ?_
       refine V.storeO Fk16 rfl rfl rfl rfl sz27 rfl rfl rfl rfl ?_
       rintro w75 G76 z78 Fs77
       clear Fk16
       have z79 := V.Fr.size G76
       first | replace F_o := F_o.mb G76 hD_o | clear F_o | skip
       first | replace Fk9 := Fk9.mv1 G76 (by omega) | clear Fk9 | skip
       first | replace F24 := F24.ma G76 | clear F24 | skip
       first | replace Fk2 := Fk2.mv1 G76 (by omega) | clear Fk2 | skip
       replace HG := HG.n1 G76
       clear G76
       have Fk16 := Fs77; clear Fs77
       simp only [V.spliceL, V.cellsL] at Fk16
       refine V.run T_ok 1 rfl ?_
       refine V.nil ?_
       refine V.tN ?_
       refine V.ret ?_
       refine V.done2 rfl (V.resV_cell T_ok Fk16 rfl rfl) (V.resV_tmp rfl) ?_
       first
         | rw [show rBeat d ep nw nl = (⟨d.id, ep, 1, 0, 0, (maxSt d.bw d.bl nw nl).1, (maxSt d.bw d.bl nw nl).2, []⟩, 0) by simp only [rBeat, stR]; grind]
         | rw [show rBeat d ep nw nl = (⟨d.id, d.ep, d.st, d.aw, d.al, (maxSt d.bw d.bl nw nl).1, (maxSt d.bw d.bl nw nl).2, d.ws⟩, 0) by simp only [rBeat, stR]; grind]
       exact ⟨none, 0, (by first | rfl | simp only [List.length_set]), (Sl.nil _ _ _ _ _ (Nat.zero_le _)), HG⟩
      ·
       try replace g10_3 := V.dec g10_3
       try simp only [V.mk0, V.mk1, V.mk2, V.mk3] at g10_3
       refine V.run T_ok 1 rfl ?_
       refine V.yes rfl rfl rfl ?_
       refine V.loadO T_ok Fk2 rfl rfl rfl rfl rfl ?_
       refine V.run T_ok 4 rfl ?_
       refine V.nil ?_
       refine V.tN ?_
       refine V.condT rfl (fun h10 => ?_) (fun h10 => ?_)
       ·
        try replace h10 := V.dec h10
        try simp only [V.mk0, V.mk1, V.mk2, V.mk3] at h10
        refine V.region ?_
        refine V.run T_ok 1 rfl ?_
        refine V.loadO T_ok Fk2 rfl rfl rfl rfl rfl ?_
        refine V.run T_ok 2 rfl ?_
        refine V.loadO T_ok Fk2 rfl rfl rfl rfl rfl ?_
        refine V.mkStruct T_ok zero27 rfl rfl rfl rfl rfl ?_
        refine V.storeO Fk2 rfl rfl rfl rfl sz27 rfl rfl rfl rfl ?_
        rintro w80 G81 z83 Fs82
        clear Fk2
        have z84 := V.Fr.size G81
        first | replace F_o := F_o.mb G81 hD_o | clear F_o | skip
        first | replace Fk9 := Fk9.mv1 G81 (by omega) | clear Fk9 | skip
        first | replace Fk16 := Fk16.mv1 G81 (by omega) | clear Fk16 | skip
        first | replace F24 := F24.ma G81 | clear F24 | skip
        replace HG := HG.n1 G81
        clear G81
        have Fk2 := Fs82; clear Fs82
        simp only [V.spliceL, V.cellsL] at Fk2
        refine V.nil ?_
        refine V.bN ?_
        refine V.tN ?_
        refine V.seq ?_
        refine V.region ?_
        refine V.run T_ok 1 rfl ?_
        refine V.loadO T_ok Fk2 rfl rfl rfl rfl rfl ?_
        refine V.loadO T_ok Fk9 rfl rfl rfl rfl rfl ?_
        refine V.call (max_spec (a := d.bw) (b := d.bl) (c := nw) (d := nl)) rfl rfl rfl ?_
        rintro _ w85 ⟨rfl, G86⟩
        have z87 := V.Fr.size G86
        try replace F_o := F_o.gr G86
        try replace Fk9 := Fk9.gr G86
        try replace Fk16 := Fk16.gr G86
        try replace F24 := F24.gr G86
        try replace Fk2 := Fk2.gr G86
        replace HG := HG.grow G86
        clear G86
        refine V.run T_ok 1 rfl ?_
        refine V.storeO Fk2 rfl rfl rfl rfl sz24 rfl rfl rfl rfl ?_
        rintro w88 G89 z91 Fs90
        clear Fk2
        have z92 := V.Fr.size G89
        first | replace F_o := F_o.mb G89 hD_o | clear F_o | skip
        first | replace Fk9 := Fk9.mv1 G89 (by omega) | clear Fk9 | skip
        first | replace Fk16 := Fk16.mv1 G89 (by omega) | clear Fk16 | skip
        first | replace F24 := F24.ma G89 | clear F24 | skip
        replace HG := HG.n1 G89
        clear G89
        have Fk2 := Fs90; clear Fs90
        simp only [V.spliceL, V.cellsL] at Fk2
        refine V.nil ?_
        refine V.tN ?_
        refine V.seq ?_
        refine V.region ?_
        refine V.loadO T_ok Fk2 rfl rfl rfl rfl rfl ?_
        refine V.storeO Fk16 rfl rfl rfl rfl sz27 rfl rfl rfl rfl ?_
        rintro w93 G94 z96 Fs95
        clear Fk16
        have z97 := V.Fr.size G94
        first | replace F_o := F_o.mb G94 hD_o | clear F_o | skip
        first | replace Fk9 := Fk9.mv1 G94 (by omega) | clear Fk9 | skip
        first | replace F24 := F24.ma G94 | clear F24 | skip
        first | replace Fk2 := Fk2.mv1 G94 (by omega) | clear Fk2 | skip
        replace HG := HG.n1 G94
        clear G94
        have Fk16 := Fs95; clear Fs95
        simp only [V.spliceL, V.cellsL] at Fk16
        refine V.run T_ok 1 rfl ?_
        refine V.nil ?_
        refine V.tN ?_
        refine V.ret ?_
        refine V.done2 rfl (V.resV_cell T_ok Fk16 rfl rfl) (V.resV_tmp rfl) ?_
        first
          | rw [show rBeat d ep nw nl = (⟨d.id, ep, 1, 0, 0, (maxSt d.bw d.bl nw nl).1, (maxSt d.bw d.bl nw nl).2, []⟩, 0) by simp only [rBeat, stR]; grind]
          | rw [show rBeat d ep nw nl = (⟨d.id, d.ep, d.st, d.aw, d.al, (maxSt d.bw d.bl nw nl).1, (maxSt d.bw d.bl nw nl).2, d.ws⟩, 0) by simp only [rBeat, stR]; grind]
        exact ⟨none, 0, (by first | rfl | simp only [List.length_set]), (Sl.nil _ _ _ _ _ (Nat.zero_le _)), HG⟩
       ·
        try replace h10 := V.dec h10
        try simp only [V.mk0, V.mk1, V.mk2, V.mk3] at h10
        refine V.skip ?_
        refine V.bN ?_
        refine V.tN ?_
        refine V.seq ?_
        refine V.region ?_
        refine V.run T_ok 1 rfl ?_
        refine V.loadO T_ok Fk2 rfl rfl rfl rfl rfl ?_
        refine V.loadO T_ok Fk9 rfl rfl rfl rfl rfl ?_
        refine V.call (max_spec (a := d.bw) (b := d.bl) (c := nw) (d := nl)) rfl rfl rfl ?_
        rintro _ w98 ⟨rfl, G99⟩
        have z100 := V.Fr.size G99
        try replace F_o := F_o.gr G99
        try replace Fk9 := Fk9.gr G99
        try replace Fk16 := Fk16.gr G99
        try replace F24 := F24.gr G99
        try replace Fk2 := Fk2.gr G99
        replace HG := HG.grow G99
        clear G99
        refine V.run T_ok 1 rfl ?_
        refine V.storeO Fk2 rfl rfl rfl rfl sz24 rfl rfl rfl rfl ?_
        rintro w101 G102 z104 Fs103
        clear Fk2
        have z105 := V.Fr.size G102
        first | replace F_o := F_o.mb G102 hD_o | clear F_o | skip
        first | replace Fk9 := Fk9.mv1 G102 (by omega) | clear Fk9 | skip
        first | replace Fk16 := Fk16.mv1 G102 (by omega) | clear Fk16 | skip
        first | replace F24 := F24.ma G102 | clear F24 | skip
        replace HG := HG.n1 G102
        clear G102
        have Fk2 := Fs103; clear Fs103
        simp only [V.spliceL, V.cellsL] at Fk2
        refine V.nil ?_
        refine V.tN ?_
        refine V.seq ?_
        refine V.region ?_
        refine V.loadO T_ok Fk2 rfl rfl rfl rfl rfl ?_
        refine V.storeO Fk16 rfl rfl rfl rfl sz27 rfl rfl rfl rfl ?_
        rintro w106 G107 z109 Fs108
        clear Fk16
        have z110 := V.Fr.size G107
        first | replace F_o := F_o.mb G107 hD_o | clear F_o | skip
        first | replace Fk9 := Fk9.mv1 G107 (by omega) | clear Fk9 | skip
        first | replace F24 := F24.ma G107 | clear F24 | skip
        first | replace Fk2 := Fk2.mv1 G107 (by omega) | clear Fk2 | skip
        replace HG := HG.n1 G107
        clear G107
        have Fk16 := Fs108; clear Fs108
        simp only [V.spliceL, V.cellsL] at Fk16
        refine V.run T_ok 1 rfl ?_
        refine V.nil ?_
        refine V.tN ?_
        refine V.ret ?_
        refine V.done2 rfl (V.resV_cell T_ok Fk16 rfl rfl) (V.resV_tmp rfl) ?_
        first
          | rw [show rBeat d ep nw nl = (⟨d.id, ep, 1, 0, 0, (maxSt d.bw d.bl nw nl).1, (maxSt d.bw d.bl nw nl).2, []⟩, 0) by simp only [rBeat, stR]; grind]
          | rw [show rBeat d ep nw nl = (⟨d.id, d.ep, d.st, d.aw, d.al, (maxSt d.bw d.bl nw nl).1, (maxSt d.bw d.bl nw nl).2, d.ws⟩, 0) by simp only [rBeat, stR]; grind]
        exact ⟨a22, c23, (by first | rfl | simp only [List.length_set]), F24.re, HG⟩

set_option maxHeartbeats 4000000 in
set_option maxRecDepth 10000 in
theorem rbeat_spec {w : World} {d : RecV} {D_o : Nat → Prop} {c_o : Nat} {a_o : Option Addr} (F_o : Sl V.Cod.write w D_o a_o c_o d.ws) (hD_o : ∀ k, D_o k → k < w.heap.size) {ep : Int} {nw : Int} {nl : Int} (hl : d.ws.length ≤ 5864062014805) :
    Meets Try.prog 33 [.agg #[.int .i64 d.id, .int .i64 d.ep, .int .i64 d.st, .int .i64 d.aw, .int .i64 d.al, .int .i64 d.bw, .int .i64 d.bl, .slice a_o d.ws.length c_o], .int .i64 ep, .agg #[.int .i64 nw, .int .i64 nl]] w fun r w' => ∃ (ra22 : Option Addr) (rc22 : Nat), r = .tuple #[.agg #[.int .i64 ((rBeat d ep nw nl).1.id), .int .i64 ((rBeat d ep nw nl).1.ep), .int .i64 ((rBeat d ep nw nl).1.st), .int .i64 ((rBeat d ep nw nl).1.aw), .int .i64 ((rBeat d ep nw nl).1.al), .int .i64 ((rBeat d ep nw nl).1.bw), .int .i64 ((rBeat d ep nw nl).1.bl), .slice ra22 ((rBeat d ep nw nl).1.ws).length rc22], .int .i64 ((rBeat d ep nw nl).2)] ∧ Sl V.Cod.write w' (V.In w.heap.size w'.heap.size) ra22 rc22 ((rBeat d ep nw nl).1.ws) ∧ Gr w w' := by
 have HG := V.Fr.refl [] w
 refine V.enter (n := 58) Try.func33 rfl rfl (by decide) rfl ?_
 refine V.seq ?_
 refine V.region ?_
 refine V.box rfl rfl rfl rfl ?_
 rintro k1 w3 s5 s6 G4 Fk2
 have z7 := V.Fr.size G4
 try replace F_o := F_o.gr G4
 replace HG := HG.grow G4
 clear G4
 try simp only [V.cellsL, V.spliceL] at Fk2
 refine V.box rfl rfl rfl rfl ?_
 rintro k8 w10 s12 s13 G11 Fk9
 have z14 := V.Fr.size G11
 try replace F_o := F_o.gr G11
 try replace Fk2 := Fk2.gr G11
 replace HG := HG.grow G11
 clear G11
 try simp only [V.cellsL, V.spliceL] at Fk9
 refine V.alloc zero27 rfl rfl rfl ?_
 rintro k15 w17 s19 s20 G18 Fk16
 have z21 := V.Fr.size G18
 try replace F_o := F_o.gr G18
 try replace Fk2 := Fk2.gr G18
 try replace Fk9 := Fk9.gr G18
 replace HG := HG.grow G18
 clear G18
 try simp only [V.cellsL, V.spliceL] at Fk16
 refine V.run T_ok 1 rfl ?_
 refine V.nil ?_
 refine V.tN ?_
 refine V.seq ?_
 refine V.region ?_
 refine V.loadO T_ok Fk2 rfl rfl rfl rfl rfl ?_
 refine V.call (copy_spec (d := d) F_o (fun k hk => by have := hD_o k hk; omega) (by first | assumption | omega | decide)) rfl rfl rfl ?_
 rintro _ w25 ⟨a22, c23, rfl, F24, G26⟩
 have z27 := V.Fr.size G26
 try replace F_o := F_o.gr G26
 try replace Fk2 := Fk2.gr G26
 try replace Fk9 := Fk9.gr G26
 try replace Fk16 := Fk16.gr G26
 replace HG := HG.grow G26
 clear G26
 refine V.alloc zero27 rfl rfl rfl ?_
 rintro k28 w30 s32 s33 G31 Fk29
 have z34 := V.Fr.size G31
 try replace F_o := F_o.gr G31
 try replace Fk2 := Fk2.gr G31
 try replace Fk9 := Fk9.gr G31
 try replace Fk16 := Fk16.gr G31
 try replace F24 := F24.gr G31
 replace HG := HG.grow G31
 clear G31
 try simp only [V.cellsL, V.spliceL] at Fk29
 refine V.storeO Fk29 rfl rfl rfl rfl sz27 rfl rfl rfl rfl ?_
 rintro w35 G36 z38 Fs37
 clear Fk29
 have z39 := V.Fr.size G36
 first | replace F_o := F_o.mb G36 hD_o | clear F_o | skip
 first | replace Fk2 := Fk2.mv1 G36 (by omega) | clear Fk2 | skip
 first | replace Fk9 := Fk9.mv1 G36 (by omega) | clear Fk9 | skip
 first | replace Fk16 := Fk16.mv1 G36 (by omega) | clear Fk16 | skip
 first | replace F24 := F24.ma G36 | clear F24 | skip
 replace HG := HG.n1 G36
 clear G36
 have Fk29 := Fs37; clear Fs37
 simp only [V.spliceL, V.cellsL] at Fk29
 refine V.nil ?_
 refine V.tN ?_
 refine V.seq ?_
 refine V.region ?_
 refine V.run T_ok 1 rfl ?_
 refine V.call (rnumber_ok (n := ep)) rfl rfl rfl ?_
 rintro _ w35_ ⟨rfl, rfl⟩
 refine V.run T_ok 1 rfl ?_
 refine V.nil ?_
 refine V.tN ?_
 refine V.seq ?_
 refine V.region ?_
 refine V.loadO T_ok Fk9 rfl rfl rfl rfl rfl ?_
 refine V.call (rright_spec (a := nw) (b := nl)) rfl rfl rfl ?_
 rintro _ w41 ⟨rfl, G42⟩
 have z43 := V.Fr.size G42
 try replace F_o := F_o.gr G42
 try replace Fk2 := Fk2.gr G42
 try replace Fk9 := Fk9.gr G42
 try replace Fk16 := Fk16.gr G42
 try replace F24 := F24.gr G42
 try replace Fk29 := Fk29.gr G42
 replace HG := HG.grow G42
 clear G42
 refine V.run T_ok 1 rfl ?_
 refine V.nil ?_
 refine V.tN ?_
 refine V.seq ?_
 refine V.seq ?_
 refine V.region ?_
 refine V.run T_ok 3 rfl ?_
 refine V.orG T_ok 2 2 19 rfl rfl rfl rfl rfl rfl rfl rfl ?_
 refine V.nil ?_
 refine V.tN ?_
 refine V.condT rfl (fun h4 => ?_) (fun h4 => ?_)
 ·
  try replace h4 := V.dec h4
  try simp only [V.mk0, V.mk1, V.mk2, V.mk3] at h4
  refine V.seq ?_
  refine V.region ?_
  refine V.loadO T_ok Fk29 rfl rfl rfl rfl rfl ?_
  refine V.storeO Fk16 rfl rfl rfl rfl sz27 rfl rfl rfl rfl ?_
  rintro w44 G45 z47 Fs46
  clear Fk16
  have z48 := V.Fr.size G45
  first | replace F_o := F_o.mb G45 hD_o | clear F_o | skip
  first | replace Fk2 := Fk2.mv1 G45 (by omega) | clear Fk2 | skip
  first | replace Fk9 := Fk9.mv1 G45 (by omega) | clear Fk9 | skip
  first | replace F24 := F24.ma G45 | clear F24 | skip
  first | replace Fk29 := Fk29.mv1 G45 (by omega) | clear Fk29 | skip
  replace HG := HG.n1 G45
  clear G45
  have Fk16 := Fs46; clear Fs46
  simp only [V.spliceL, V.cellsL] at Fk16
  refine V.run T_ok 1 rfl ?_
  refine V.nil ?_
  refine V.tN ?_
  refine V.ret ?_
  refine V.tR ?_
  refine V.done2 rfl (V.resV_cell T_ok Fk16 rfl rfl) (V.resV_tmp rfl) ?_
  first
    | rw [show rBeat d ep nw nl = (d, 1) by simp only [rBeat, stR]; grind]
  exact ⟨a22, c23, (by first | rfl | simp only [List.length_set]), F24.re, HG⟩
 ·
  try replace h4 := V.dec h4
  try simp only [V.mk0, V.mk1, V.mk2, V.mk3] at h4
  refine V.skip ?_
  refine V.tN ?_
  refine V.seq ?_
  refine V.seq ?_
  refine V.region ?_
  refine V.run T_ok 1 rfl ?_
  refine V.loadO T_ok Fk2 rfl rfl rfl rfl rfl ?_
  refine V.run T_ok 1 rfl ?_
  refine V.nil ?_
  refine V.tN ?_
  refine V.condT rfl (fun h6 => ?_) (fun h6 => ?_)
  ·
   try replace h6 := V.dec h6
   try simp only [V.mk0, V.mk1, V.mk2, V.mk3] at h6
   refine V.seq ?_
   refine V.region ?_
   refine V.loadO T_ok Fk29 rfl rfl rfl rfl rfl ?_
   refine V.storeO Fk16 rfl rfl rfl rfl sz27 rfl rfl rfl rfl ?_
   rintro w49 G50 z52 Fs51
   clear Fk16
   have z53 := V.Fr.size G50
   first | replace F_o := F_o.mb G50 hD_o | clear F_o | skip
   first | replace Fk2 := Fk2.mv1 G50 (by omega) | clear Fk2 | skip
   first | replace Fk9 := Fk9.mv1 G50 (by omega) | clear Fk9 | skip
   first | replace F24 := F24.ma G50 | clear F24 | skip
   first | replace Fk29 := Fk29.mv1 G50 (by omega) | clear Fk29 | skip
   replace HG := HG.n1 G50
   clear G50
   have Fk16 := Fs51; clear Fs51
   simp only [V.spliceL, V.cellsL] at Fk16
   refine V.run T_ok 1 rfl ?_
   refine V.nil ?_
   refine V.tN ?_
   refine V.ret ?_
   refine V.tR ?_
   refine V.done2 rfl (V.resV_cell T_ok Fk16 rfl rfl) (V.resV_tmp rfl) ?_
   first
     | rw [show rBeat d ep nw nl = (d, 0) by simp only [rBeat, stR]; grind]
   exact ⟨a22, c23, (by first | rfl | simp only [List.length_set]), F24.re, HG⟩
  ·
   try replace h6 := V.dec h6
   try simp only [V.mk0, V.mk1, V.mk2, V.mk3] at h6
   refine V.skip ?_
   refine V.tN ?_
   refine V.seq ?_
   refine V.seq ?_
   refine V.region ?_
   refine V.run T_ok 1 rfl ?_
   refine V.loadO T_ok Fk2 rfl rfl rfl rfl rfl ?_
   refine V.run T_ok 1 rfl ?_
   refine V.nil ?_
   refine V.tN ?_
   refine V.condT rfl (fun h8 => ?_) (fun h8 => ?_)
   ·
    try replace h8 := V.dec h8
    try simp only [V.mk0, V.mk1, V.mk2, V.mk3] at h8
    refine V.seq ?_
    refine V.region ?_
    refine V.loadO T_ok Fk29 rfl rfl rfl rfl rfl ?_
    refine V.storeO Fk16 rfl rfl rfl rfl sz27 rfl rfl rfl rfl ?_
    rintro w54 G55 z57 Fs56
    clear Fk16
    have z58 := V.Fr.size G55
    first | replace F_o := F_o.mb G55 hD_o | clear F_o | skip
    first | replace Fk2 := Fk2.mv1 G55 (by omega) | clear Fk2 | skip
    first | replace Fk9 := Fk9.mv1 G55 (by omega) | clear Fk9 | skip
    first | replace F24 := F24.ma G55 | clear F24 | skip
    first | replace Fk29 := Fk29.mv1 G55 (by omega) | clear Fk29 | skip
    replace HG := HG.n1 G55
    clear G55
    have Fk16 := Fs56; clear Fs56
    simp only [V.spliceL, V.cellsL] at Fk16
    refine V.run T_ok 1 rfl ?_
    refine V.nil ?_
    refine V.tN ?_
    refine V.ret ?_
    refine V.tR ?_
    refine V.done2 rfl (V.resV_cell T_ok Fk16 rfl rfl) (V.resV_tmp rfl) ?_
    first
      | rw [show rBeat d ep nw nl = (d, 122) by simp only [rBeat, stR]; grind]
    exact ⟨a22, c23, (by first | rfl | simp only [List.length_set]), F24.re, HG⟩
   ·
    try replace h8 := V.dec h8
    try simp only [V.mk0, V.mk1, V.mk2, V.mk3] at h8
    refine V.skip ?_
    refine V.tN ?_
    refine V.seq ?_
    refine V.seq ?_
    refine V.region ?_
    refine V.run T_ok 1 rfl ?_
    refine V.loadO T_ok Fk2 rfl rfl rfl rfl rfl ?_
    refine V.run T_ok 2 rfl ?_
    refine V.nil ?_
    refine V.tN ?_
    refine V.condT rfl (fun h10 => ?_) (fun h10 => ?_)
    ·
     try replace h10 := V.dec h10
     try simp only [V.mk0, V.mk1, V.mk2, V.mk3] at h10
     refine V.seq ?_
     refine V.region ?_
     refine V.loadO T_ok Fk29 rfl rfl rfl rfl rfl ?_
     refine V.storeO Fk16 rfl rfl rfl rfl sz27 rfl rfl rfl rfl ?_
     rintro w59 G60 z62 Fs61
     clear Fk16
     have z63 := V.Fr.size G60
     first | replace F_o := F_o.mb G60 hD_o | clear F_o | skip
     first | replace Fk2 := Fk2.mv1 G60 (by omega) | clear Fk2 | skip
     first | replace Fk9 := Fk9.mv1 G60 (by omega) | clear Fk9 | skip
     first | replace F24 := F24.ma G60 | clear F24 | skip
     first | replace Fk29 := Fk29.mv1 G60 (by omega) | clear Fk29 | skip
     replace HG := HG.n1 G60
     clear G60
     have Fk16 := Fs61; clear Fs61
     simp only [V.spliceL, V.cellsL] at Fk16
     refine V.run T_ok 1 rfl ?_
     refine V.nil ?_
     refine V.tN ?_
     refine V.ret ?_
     refine V.tR ?_
     refine V.done2 rfl (V.resV_cell T_ok Fk16 rfl rfl) (V.resV_tmp rfl) ?_
     first
       | rw [show rBeat d ep nw nl = (d, 84) by simp only [rBeat, stR]; grind]
     exact ⟨a22, c23, (by first | rfl | simp only [List.length_set]), F24.re, HG⟩
    ·
     try replace h10 := V.dec h10
     try simp only [V.mk0, V.mk1, V.mk2, V.mk3] at h10
     refine V.skip ?_
     refine V.tN ?_
     refine V.seq ?_
     refine V.seq ?_
     refine V.region ?_
     refine V.run T_ok 1 rfl ?_
     refine V.loadO T_ok Fk2 rfl rfl rfl rfl rfl ?_
     refine V.run T_ok 2 rfl ?_
     refine V.split (j := 3) (t := 40) rfl rfl (fun g12_3 => ?_) (fun g12_3 => ?_)
     ·
      try replace g12_3 := V.dec g12_3
      try simp only [V.mk0, V.mk1, V.mk2, V.mk3] at g12_3
      refine V.run T_ok 5 rfl ?_
      refine V.nil ?_
      refine V.tN ?_
      refine V.condY rfl rfl ?_
      refine V.region ?_
      refine V.run T_ok 1 rfl ?_
      refine V.loadO T_ok Fk2 rfl rfl rfl rfl rfl ?_
      refine V.run T_ok 2 rfl ?_
      refine V.loadO T_ok Fk2 rfl rfl rfl rfl rfl ?_
      refine V.mkStruct T_ok zero27 rfl rfl rfl rfl rfl ?_
      refine V.storeO Fk29 rfl rfl rfl rfl sz27 rfl rfl rfl rfl ?_
      rintro w64 G65 z67 Fs66
      clear Fk29
      have z68 := V.Fr.size G65
      first | replace F_o := F_o.mb G65 hD_o | clear F_o | skip
      first | replace Fk2 := Fk2.mv1 G65 (by omega) | clear Fk2 | skip
      first | replace Fk9 := Fk9.mv1 G65 (by omega) | clear Fk9 | skip
      first | replace Fk16 := Fk16.mv1 G65 (by omega) | clear Fk16 | skip
      first | replace F24 := F24.ma G65 | clear F24 | skip
      replace HG := HG.n1 G65
      clear G65
      have Fk29 := Fs66; clear Fs66
      simp only [V.spliceL, V.cellsL] at Fk29
      refine V.nil ?_
      refine V.tN ?_
      refine V.seq ?_
      refine V.region ?_
      refine V.run T_ok 1 rfl ?_
      refine V.loadO T_ok Fk2 rfl rfl rfl rfl rfl ?_
      refine V.loadO T_ok Fk9 rfl rfl rfl rfl rfl ?_
      refine V.call (rmax_spec (a := d.bw) (b := d.bl) (c := nw) (d := nl)) rfl rfl rfl ?_
      rintro _ w69 ⟨rfl, G70⟩
      have z71 := V.Fr.size G70
      try replace F_o := F_o.gr G70
      try replace Fk2 := Fk2.gr G70
      try replace Fk9 := Fk9.gr G70
      try replace Fk16 := Fk16.gr G70
      try replace F24 := F24.gr G70
      try replace Fk29 := Fk29.gr G70
      replace HG := HG.grow G70
      clear G70
      refine V.run T_ok 1 rfl ?_
      refine V.storeO Fk29 rfl rfl rfl rfl sz24 rfl rfl rfl rfl ?_
      rintro w72 G73 z75 Fs74
      clear Fk29
      have z76 := V.Fr.size G73
      first | replace F_o := F_o.mb G73 hD_o | clear F_o | skip
      first | replace Fk2 := Fk2.mv1 G73 (by omega) | clear Fk2 | skip
      first | replace Fk9 := Fk9.mv1 G73 (by omega) | clear Fk9 | skip
      first | replace Fk16 := Fk16.mv1 G73 (by omega) | clear Fk16 | skip
      first | replace F24 := F24.ma G73 | clear F24 | skip
      replace HG := HG.n1 G73
      clear G73
      have Fk29 := Fs74; clear Fs74
      simp only [V.spliceL, V.cellsL] at Fk29
      refine V.nil ?_
      refine V.tN ?_
      refine V.seq ?_
      refine V.region ?_
      refine V.loadO T_ok Fk29 rfl rfl rfl rfl rfl ?_
      refine V.storeO Fk16 rfl rfl rfl rfl sz27 rfl rfl rfl rfl ?_
      rintro w77 G78 z80 Fs79
      clear Fk16
      have z81 := V.Fr.size G78
      first | replace F_o := F_o.mb G78 hD_o | clear F_o | skip
      first | replace Fk2 := Fk2.mv1 G78 (by omega) | clear Fk2 | skip
      first | replace Fk9 := Fk9.mv1 G78 (by omega) | clear Fk9 | skip
      first | replace F24 := F24.ma G78 | clear F24 | skip
      first | replace Fk29 := Fk29.mv1 G78 (by omega) | clear Fk29 | skip
      replace HG := HG.n1 G78
      clear G78
      have Fk16 := Fs79; clear Fs79
      simp only [V.spliceL, V.cellsL] at Fk16
      refine V.run T_ok 1 rfl ?_
      refine V.nil ?_
      refine V.tN ?_
      refine V.ret ?_
      refine V.done2 rfl (V.resV_cell T_ok Fk16 rfl rfl) (V.resV_tmp rfl) ?_
      first
        | rw [show rBeat d ep nw nl = (⟨d.id, ep, 1, 0, 0, (maxSt d.bw d.bl nw nl).1, (maxSt d.bw d.bl nw nl).2, []⟩, 0) by simp only [rBeat, stR]; grind]
        | rw [show rBeat d ep nw nl = (⟨d.id, d.ep, d.st, d.aw, d.al, (maxSt d.bw d.bl nw nl).1, (maxSt d.bw d.bl nw nl).2, d.ws⟩, 0) by simp only [rBeat, stR]; grind]
      exact ⟨none, 0, (by first | rfl | simp only [List.length_set]), (Sl.nil _ _ _ _ _ (Nat.zero_le _)), HG⟩
     ·
      try replace g12_3 := V.dec g12_3
      try simp only [V.mk0, V.mk1, V.mk2, V.mk3] at g12_3
      refine V.run T_ok 1 rfl ?_
      refine V.yes rfl rfl rfl ?_
      refine V.loadO T_ok Fk2 rfl rfl rfl rfl rfl ?_
      refine V.run T_ok 3 rfl ?_
      refine V.nil ?_
      refine V.tN ?_
      refine V.condT rfl (fun h12 => ?_) (fun h12 => ?_)
      ·
       try replace h12 := V.dec h12
       try simp only [V.mk0, V.mk1, V.mk2, V.mk3] at h12
       refine V.region ?_
       refine V.run T_ok 1 rfl ?_
       refine V.loadO T_ok Fk2 rfl rfl rfl rfl rfl ?_
       refine V.run T_ok 2 rfl ?_
       refine V.loadO T_ok Fk2 rfl rfl rfl rfl rfl ?_
       refine V.mkStruct T_ok zero27 rfl rfl rfl rfl rfl ?_
       refine V.storeO Fk29 rfl rfl rfl rfl sz27 rfl rfl rfl rfl ?_
       rintro w82 G83 z85 Fs84
       clear Fk29
       have z86 := V.Fr.size G83
       first | replace F_o := F_o.mb G83 hD_o | clear F_o | skip
       first | replace Fk2 := Fk2.mv1 G83 (by omega) | clear Fk2 | skip
       first | replace Fk9 := Fk9.mv1 G83 (by omega) | clear Fk9 | skip
       first | replace Fk16 := Fk16.mv1 G83 (by omega) | clear Fk16 | skip
       first | replace F24 := F24.ma G83 | clear F24 | skip
       replace HG := HG.n1 G83
       clear G83
       have Fk29 := Fs84; clear Fs84
       simp only [V.spliceL, V.cellsL] at Fk29
       refine V.nil ?_
       refine V.tN ?_
       refine V.seq ?_
       refine V.region ?_
       refine V.run T_ok 1 rfl ?_
       refine V.loadO T_ok Fk2 rfl rfl rfl rfl rfl ?_
       refine V.loadO T_ok Fk9 rfl rfl rfl rfl rfl ?_
       refine V.call (rmax_spec (a := d.bw) (b := d.bl) (c := nw) (d := nl)) rfl rfl rfl ?_
       rintro _ w87 ⟨rfl, G88⟩
       have z89 := V.Fr.size G88
       try replace F_o := F_o.gr G88
       try replace Fk2 := Fk2.gr G88
       try replace Fk9 := Fk9.gr G88
       try replace Fk16 := Fk16.gr G88
       try replace F24 := F24.gr G88
       try replace Fk29 := Fk29.gr G88
       replace HG := HG.grow G88
       clear G88
       refine V.run T_ok 1 rfl ?_
       refine V.storeO Fk29 rfl rfl rfl rfl sz24 rfl rfl rfl rfl ?_
       rintro w90 G91 z93 Fs92
       clear Fk29
       have z94 := V.Fr.size G91
       first | replace F_o := F_o.mb G91 hD_o | clear F_o | skip
       first | replace Fk2 := Fk2.mv1 G91 (by omega) | clear Fk2 | skip
       first | replace Fk9 := Fk9.mv1 G91 (by omega) | clear Fk9 | skip
       first | replace Fk16 := Fk16.mv1 G91 (by omega) | clear Fk16 | skip
       first | replace F24 := F24.ma G91 | clear F24 | skip
       replace HG := HG.n1 G91
       clear G91
       have Fk29 := Fs92; clear Fs92
       simp only [V.spliceL, V.cellsL] at Fk29
       refine V.nil ?_
       refine V.tN ?_
       refine V.seq ?_
       refine V.region ?_
       refine V.loadO T_ok Fk29 rfl rfl rfl rfl rfl ?_
       refine V.storeO Fk16 rfl rfl rfl rfl sz27 rfl rfl rfl rfl ?_
       rintro w95 G96 z98 Fs97
       clear Fk16
       have z99 := V.Fr.size G96
       first | replace F_o := F_o.mb G96 hD_o | clear F_o | skip
       first | replace Fk2 := Fk2.mv1 G96 (by omega) | clear Fk2 | skip
       first | replace Fk9 := Fk9.mv1 G96 (by omega) | clear Fk9 | skip
       first | replace F24 := F24.ma G96 | clear F24 | skip
       first | replace Fk29 := Fk29.mv1 G96 (by omega) | clear Fk29 | skip
       replace HG := HG.n1 G96
       clear G96
       have Fk16 := Fs97; clear Fs97
       simp only [V.spliceL, V.cellsL] at Fk16
       refine V.run T_ok 1 rfl ?_
       refine V.nil ?_
       refine V.tN ?_
       refine V.ret ?_
       refine V.done2 rfl (V.resV_cell T_ok Fk16 rfl rfl) (V.resV_tmp rfl) ?_
       first
         | rw [show rBeat d ep nw nl = (⟨d.id, ep, 1, 0, 0, (maxSt d.bw d.bl nw nl).1, (maxSt d.bw d.bl nw nl).2, []⟩, 0) by simp only [rBeat, stR]; grind]
         | rw [show rBeat d ep nw nl = (⟨d.id, d.ep, d.st, d.aw, d.al, (maxSt d.bw d.bl nw nl).1, (maxSt d.bw d.bl nw nl).2, d.ws⟩, 0) by simp only [rBeat, stR]; grind]
       exact ⟨none, 0, (by first | rfl | simp only [List.length_set]), (Sl.nil _ _ _ _ _ (Nat.zero_le _)), HG⟩
      ·
       try replace h12 := V.dec h12
       try simp only [V.mk0, V.mk1, V.mk2, V.mk3] at h12
       refine V.skip ?_
       refine V.tN ?_
       refine V.seq ?_
       refine V.region ?_
       refine V.run T_ok 1 rfl ?_
       refine V.loadO T_ok Fk2 rfl rfl rfl rfl rfl ?_
       refine V.loadO T_ok Fk9 rfl rfl rfl rfl rfl ?_
       refine V.call (rmax_spec (a := d.bw) (b := d.bl) (c := nw) (d := nl)) rfl rfl rfl ?_
       rintro _ w100 ⟨rfl, G101⟩
       have z102 := V.Fr.size G101
       try replace F_o := F_o.gr G101
       try replace Fk2 := Fk2.gr G101
       try replace Fk9 := Fk9.gr G101
       try replace Fk16 := Fk16.gr G101
       try replace F24 := F24.gr G101
       try replace Fk29 := Fk29.gr G101
       replace HG := HG.grow G101
       clear G101
       refine V.run T_ok 1 rfl ?_
       refine V.storeO Fk29 rfl rfl rfl rfl sz24 rfl rfl rfl rfl ?_
       rintro w103 G104 z106 Fs105
       clear Fk29
       have z107 := V.Fr.size G104
       first | replace F_o := F_o.mb G104 hD_o | clear F_o | skip
       first | replace Fk2 := Fk2.mv1 G104 (by omega) | clear Fk2 | skip
       first | replace Fk9 := Fk9.mv1 G104 (by omega) | clear Fk9 | skip
       first | replace Fk16 := Fk16.mv1 G104 (by omega) | clear Fk16 | skip
       first | replace F24 := F24.ma G104 | clear F24 | skip
       replace HG := HG.n1 G104
       clear G104
       have Fk29 := Fs105; clear Fs105
       simp only [V.spliceL, V.cellsL] at Fk29
       refine V.nil ?_
       refine V.tN ?_
       refine V.seq ?_
       refine V.region ?_
       refine V.loadO T_ok Fk29 rfl rfl rfl rfl rfl ?_
       refine V.storeO Fk16 rfl rfl rfl rfl sz27 rfl rfl rfl rfl ?_
       rintro w108 G109 z111 Fs110
       clear Fk16
       have z112 := V.Fr.size G109
       first | replace F_o := F_o.mb G109 hD_o | clear F_o | skip
       first | replace Fk2 := Fk2.mv1 G109 (by omega) | clear Fk2 | skip
       first | replace Fk9 := Fk9.mv1 G109 (by omega) | clear Fk9 | skip
       first | replace F24 := F24.ma G109 | clear F24 | skip
       first | replace Fk29 := Fk29.mv1 G109 (by omega) | clear Fk29 | skip
       replace HG := HG.n1 G109
       clear G109
       have Fk16 := Fs110; clear Fs110
       simp only [V.spliceL, V.cellsL] at Fk16
       refine V.run T_ok 1 rfl ?_
       refine V.nil ?_
       refine V.tN ?_
       refine V.ret ?_
       refine V.done2 rfl (V.resV_cell T_ok Fk16 rfl rfl) (V.resV_tmp rfl) ?_
       first
         | rw [show rBeat d ep nw nl = (⟨d.id, ep, 1, 0, 0, (maxSt d.bw d.bl nw nl).1, (maxSt d.bw d.bl nw nl).2, []⟩, 0) by simp only [rBeat, stR]; grind]
         | rw [show rBeat d ep nw nl = (⟨d.id, d.ep, d.st, d.aw, d.al, (maxSt d.bw d.bl nw nl).1, (maxSt d.bw d.bl nw nl).2, d.ws⟩, 0) by simp only [rBeat, stR]; grind]
       exact ⟨a22, c23, (by first | rfl | simp only [List.length_set]), F24.re, HG⟩

end Go.Proofs.Ytaokenlcjkomhaa
