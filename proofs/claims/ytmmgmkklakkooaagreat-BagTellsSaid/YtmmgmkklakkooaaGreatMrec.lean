/- Proved here: walks: what functions of this seat's program return and what they leave of memory, each as a contract. Conditions: stated at each theorem. -/
import Derived.Test.YtmmgmkklakkooaaGreatMseal
namespace Go.Proofs.YtmmgmkklakkooaaGreat
set_option linter.unusedVariables false
set_option linter.unusedSimpArgs false
open Go
open V (Bytes Meets Env Sl Own Gr Fr Cells S)
abbrev V.Cod.write : V.Cod (ByteArray × Int) := V.Cod.pair V.Cod.str (V.Cod.int .i64)
theorem V.flat_write : V.Flat (V.Cod.pair V.Cod.str (V.Cod.int .i64)) := (V.flat_pair (V.flat_str) (V.flat_int .i64))

theorem eqG78 : Tryz.prog.eqGuardType Tryz.prog.depth 78 = false := by kernel_rfl
theorem eqD78 (d : Nat) (w : World) {x0 y0 : ByteArray} {x1 y1 : Int} : (Op.equalIn (d + 2) 78 (.agg #[.string x0, .int .i64 x1]) (.agg #[.string y0, .int .i64 y1])).run Tryz.prog w = .ok ((decide (x0 = y0)) && ((decide (x1 = y1)) && (true))) w :=
  V.eqIn_struct _ Tryz.underlying78 (by kernel_rfl) (V.eqF_cons (agg := false) (by decide) sz9 (by kernel_rfl) (by kernel_rfl) rfl rfl (V.eqIn_str _ Tryz.underlying9) (V.eqF_cons (agg := false) (by decide) sz3 (by kernel_rfl) (by kernel_rfl) rfl rfl (V.eqIn_int _ Tryz.underlying3) V.eqF_nil))
theorem eqS78 (w : World) {x0 y0 : ByteArray} {x1 y1 : Int} : (Op.equalIn 10000 78 (.agg #[.string x0, .int .i64 x1]) (.agg #[.string y0, .int .i64 y1])).run Tryz.prog w = .ok ((decide (x0 = y0)) && ((decide (x1 = y1)) && (true))) w := eqD78 9998 w


/-- a record: number, epoch, status, stamp, last beat, writes -/
structure RecV where
  id : Int
  ep : Int
  st : Int
  aw : Int
  al : Int
  bw : Int
  bl : Int
  ws : List (ByteArray × Int)
def keysOk (ws : List (ByteArray × Int)) : Prop := ∀ x ∈ ws, x.1.size ≤ 9223372036854775807
theorem keysOk.nil : keysOk [] := fun _ h => by cases h
def wrB (ws : List (ByteArray × Int)) : Bool := ws.all (fun x => isKey x.1 && decide (0 ≤ x.2 ∧ x.2 ≤ 1099511627776)) && decide ((ws.map (·.1)).Nodup) && decide (1 ≤ ws.length ∧ ws.length ≤ 8)
def wmap (ws : List (ByteArray × Int)) : List (ByteArray × Value) := ws.foldl (fun m x => V.mput m x.1 (.int .i64 x.2)) []
theorem mput_keys {l : List (ByteArray × Value)} {k : ByteArray} {u : Value} : (V.mput l k u).map (·.1) = if k ∈ l.map (·.1) then l.map (·.1) else l.map (·.1) ++ [k] := by
  induction l with
  | nil => simp [V.mput]
  | cons x l ih =>
    by_cases h : k = x.1
    · simp [V.mput, h]
    · have e : V.mput (x :: l) k u = x :: V.mput l k u := by simp [V.mput, h]
      rw [e, List.map_cons, ih]
      by_cases hm : k ∈ l.map (·.1)
      · rw [if_pos hm, if_pos (by simp only [List.map_cons, List.mem_cons]; exact .inr hm)]; rfl
      · rw [if_neg hm, if_neg (by simp only [List.map_cons, List.mem_cons, not_or]; exact ⟨h, hm⟩)]; rfl
theorem wmap_len : ∀ (ws : List (ByteArray × Int)) (acc : List (ByteArray × Value)), (ws.foldl (fun m x => V.mput m x.1 (.int .i64 x.2)) acc).length ≤ acc.length + ws.length ∧
    ((ws.foldl (fun m x => V.mput m x.1 (.int .i64 x.2)) acc).length = acc.length + ws.length ↔ (ws.map (·.1)).Nodup ∧ ∀ k ∈ ws.map (·.1), k ∉ acc.map (·.1))
  | [], acc => by simp
  | x :: ws, acc => by
    obtain ⟨h1, h2⟩ := wmap_len ws (V.mput acc x.1 (.int .i64 x.2))
    have hk := mput_keys (l := acc) (k := x.1) (u := .int .i64 x.2)
    have hl : (V.mput acc x.1 (.int .i64 x.2)).length = if x.1 ∈ acc.map (·.1) then acc.length else acc.length + 1 := by
      have := congrArg List.length hk
      rw [List.length_map] at this
      by_cases hm : x.1 ∈ acc.map (·.1)
      · rw [if_pos hm] at this ⊢; rw [this, List.length_map]
      · rw [if_neg hm] at this ⊢; rw [this, List.length_append, List.length_map]; rfl
    simp only [List.foldl_cons, List.length_cons, List.map_cons, List.nodup_cons, List.mem_cons]
    by_cases hm : x.1 ∈ acc.map (·.1)
    · rw [if_pos hm] at hl hk
      refine ⟨by omega, ⟨fun h => by omega, fun h => absurd hm (h.2 x.1 (.inl rfl))⟩⟩
    · rw [if_neg hm] at hl hk
      refine ⟨by omega, ?_⟩
      rw [hl, hk] at h2
      rw [show acc.length + (ws.length + 1) = acc.length + 1 + ws.length by omega, h2]
      simp only [List.mem_append, List.mem_singleton, not_or]
      constructor
      · rintro ⟨h3, h4⟩
        refine ⟨⟨fun h5 => (h4 _ h5).2 rfl, h3⟩, ?_⟩
        rintro k (rfl | h5)
        · exact hm
        · exact (h4 k h5).1
      · rintro ⟨⟨h3, h4⟩, h5⟩
        exact ⟨h4, fun k hk => ⟨h5 k (.inr hk), fun h6 => h3 (h6 ▸ hk)⟩⟩
theorem wmap_nodup {ws : List (ByteArray × Int)} : ((wmap ws).length : Int) = (ws.length : Int) ↔ (ws.map (·.1)).Nodup := by
  have := (wmap_len ws []).2
  simp only [List.length_nil, Nat.zero_add, List.map_nil, List.not_mem_nil, not_false_eq_true, implies_true, and_true] at this
  rw [← this]; unfold wmap; omega
theorem wmap_succ {ws : List (ByteArray × Int)} {i : Nat} {x : ByteArray × Int} (hi : i < ws.length) (hx : ws[i] = x) : V.mput (wmap (ws.take i)) x.1 (.int .i64 x.2) = wmap (ws.take (i + 1)) := by
  subst hx; unfold wmap; rw [List.take_succ_eq_append_getElem hi, List.foldl_append]; rfl
theorem wrB_bad {ws : List (ByteArray × Int)} {i : Nat} {x : ByteArray × Int} (hi : i < ws.length) (hx : ws[i] = x) (h : isKey x.1 = false ∨ ¬ (0 ≤ x.2 ∧ x.2 ≤ 1099511627776)) : wrB ws = false := by
  subst hx
  have : ws.all (fun x => isKey x.1 && decide (0 ≤ x.2 ∧ x.2 ≤ 1099511627776)) = false := by
    rw [List.all_eq_false]
    refine ⟨ws[i], List.getElem_mem hi, ?_⟩
    rcases h with h | h <;> simp [h]
  unfold wrB; rw [this]; rfl
theorem wrB_all {ws : List (ByteArray × Int)} (h : ∀ j (hj : j < ws.length), isKey ws[j].1 = true ∧ 0 ≤ ws[j].2 ∧ ws[j].2 ≤ 1099511627776) : wrB ws = (decide ((ws.map (·.1)).Nodup) && decide (1 ≤ ws.length ∧ ws.length ≤ 8)) := by
  have : ws.all (fun x => isKey x.1 && decide (0 ≤ x.2 ∧ x.2 ≤ 1099511627776)) = true := by
    rw [List.all_eq_true]
    intro x hx
    obtain ⟨j, hj, rfl⟩ := List.mem_iff_getElem.1 hx
    simpa using h j hj
  unfold wrB; rw [this]; rfl
/-- is the record right? -/
def recB (r : RecV) : Bool := decide ((0 ≤ r.id ∧ r.id ≤ 1099511627776) ∧ (0 ≤ r.ep ∧ r.ep ≤ 1099511627776) ∧ stR r.aw r.al ∧ stR r.bw r.bl) &&
  (if r.st = 2 then wrB r.ws else if r.st = 0 then decide (r.ep = 0 ∧ (r.bw = 0 ∧ r.bl = 0) ∧ (r.aw = 0 ∧ r.al = 0) ∧ r.ws.length = 0) else if r.st = 1 ∨ r.st = 4 then decide ((r.aw = 0 ∧ r.al = 0) ∧ r.ws.length = 0) else if r.st = 3 then decide (r.ws.length = 0) else false)

set_option maxHeartbeats 900000 in
set_option maxRecDepth 10000 in
theorem number_ok {w : World}  {n : Int}  :
    Meets Tryz.prog 161 [.int .i64 n] w fun r w' => r = .bool (decide (0 ≤ n ∧ n ≤ 1099511627776)) ∧ w = w' := by
 refine V.enter (n := 9) Tryz.func161 rfl rfl (by decide) rfl ?_
 refine V.sr ?_
 refine V.ru 1 ?_
 refine V.nt ?_
 refine V.sr ?_
 refine V.ru 3 ?_
 refine V.andG T_ok 2 2 5 rfl rfl rfl rfl rfl rfl rfl rfl ?_
 refine V.ru 1 ?_
 refine V.nt ?_
 refine V.ret ?_
 refine V.done rfl ?_
 exact ⟨(congrArg Value.bool (by first | rfl | (grind))), rfl⟩

set_option maxHeartbeats 900000 in
set_option maxRecDepth 10000 in
theorem written_spec {w : World}  {D_ws : Nat → Prop} {c_ws : Nat} {a_ws : Option Addr} {ws : List (ByteArray × Int)} (F_ws : Sl V.Cod.write w D_ws a_ws c_ws ws) (hD_ws : ∀ k, D_ws k → k < w.heap.size) (hw : keysOk ws) :
    Meets Tryz.prog 162 [.slice a_ws ws.length c_ws] w fun r w' => r = .bool (wrB ws) ∧ Gr w w' := by
 have HG := V.Fr.refl [] w
 refine V.enter (n := 44) Tryz.func162 rfl rfl (by decide) rfl ?_
 refine V.sr ?_
 refine V.ru 1 ?_
 refine V.nt ?_
 refine V.sr ?_
 refine V.mkMap (enc := Value.string) rfl rfl rfl ?_
 rintro k1 w3 s5 s6 G4 F2
 have z7 := V.Fr.size G4
 refine V.ru 1 ?_
 refine V.nt ?_
 refine V.seq ?_
 refine V.sr ?_
 refine V.ru 3 ?_
 refine V.nt ?_
 refine V.block ?_
 replace F_ws := F_ws.gr G4
 have hl63 := F_ws.len63
 replace HG := HG.grow G4
 refine V.loopM (fun m e v10 => Fr [] w v10 ∧ w3.heap.size ≤ v10.heap.size ∧ Sl V.Cod.write v10 D_ws a_ws c_ws ws ∧ ∃ (i : Nat) , m = ws.length - i ∧ i ≤ ws.length ∧ (∀ j (hj : j < ws.length), j < i → isKey ws[j].1 = true ∧ 0 ≤ ws[j].2 ∧ ws[j].2 ≤ 1099511627776) ∧ V.MapB v10 k1 Value.string (wmap (ws.take i)) ∧ e 0 = .slice a_ws ws.length c_ws ∧ e 3 = .map (some k1) ∧ e 7 = .slice a_ws ws.length c_ws ∧ e 8 = .int .i64 (ws.length : Int) ∧ e 9 = .int .i64 (i : Int)) ?_ ?_
 ·
  exact ⟨_, HG, (by omega), F_ws, (0), rfl, (by omega), (fun j hj h => absurd h (Nat.not_lt_zero _)), (by first | exact F2 | exact F2.mono (fun _ h => h.1) (by intro h; omega)), rfl, rfl, rfl, rfl, rfl⟩
 try clear F2
 clear HG F_ws
 rintro _ e v10 ⟨HG, z11, F_ws, i, rfl, hi, hno, F8, he0_0, he0_3, he0_7, he0_8, he0_9⟩
 refine V.knownC (t := 0) he0_0 ?_
 refine V.knownC (t := 3) he0_3 ?_
 refine V.knownC (t := 7) he0_7 ?_
 refine V.knownC (t := 8) he0_8 ?_
 refine V.knownC (t := 9) he0_9 ?_
 refine V.sr ?_
 refine V.ru 1 ?_
 refine V.nt ?_
 refine V.seq ?_
 refine V.condT rfl (fun h3 => ?_) (fun h3 => ?_)
 ·
  try replace h3 := V.dec h3
  try simp only [V.mk] at h3
  refine V.skip ?_
  refine V.tN ?_
  refine V.seq ?_
  refine V.block ?_
  refine V.sr ?_
  refine V.elem T_ok F_ws rfl rfl sz78 rfl rfl rfl rfl V.lenA V.lenA ?_
  rintro b12 o13 cs14 hx15 hb16 hR19 hA17
  obtain ⟨x18, hx18⟩ : ∃ z', ws[((i : Int)).toNat] = z' := ⟨_, rfl⟩
  rw [hx18] at hR19
  obtain ⟨_, _, rfl, rfl, rfl⟩ := hR19
  try simp only [Int.toNat_natCast] at hx18 hx15
  refine V.loadA T_ok (o0 := o13) (off := 0) hA17 rfl rfl rfl rfl rfl ?_
  refine V.alloc zero78 rfl rfl rfl ?_
  rintro k20 w22 s24 s25 G23 Fk21
  have z26 := V.Fr.size G23
  try simp only [V.cellsL, V.spliceL] at Fk21
  refine V.storeO Fk21 rfl rfl rfl rfl sz78 rfl rfl rfl rfl ?_
  rintro w27 G28 z30 Fs29
  clear Fk21
  have z31 := V.Fr.size G28
  have Fk21 := Fs29; clear Fs29
  simp only [V.spliceL, V.cellsL] at Fk21
  refine V.nt ?_
  refine V.seq ?_
  refine V.sr ?_
  refine V.ru 1 ?_
  refine V.loadO T_ok Fk21 rfl rfl rfl rfl rfl ?_
  have hks := hw x18 (by rw [← hx18]; exact List.getElem_mem _)
  refine V.call (key_spec (s := x18.1) (by first | omega | decide | (simp only [V.S_size, List.length_cons, List.length_nil]; omega))) rfl rfl rfl ?_
  rintro _ w27_ ⟨rfl, rfl⟩
  refine V.ru 2 ?_
  refine V.split (j := 4) (t := 17) rfl rfl (fun g5_4 => ?_) (fun g5_4 => ?_)
  ·
   try replace g5_4 := V.dec g5_4
   try simp only [V.mk] at g5_4
   refine V.ru 5 ?_
   refine V.nt ?_
   refine V.condY rfl rfl ?_
   refine V.sr ?_
   refine V.ru 1 ?_
   refine V.nt ?_
   refine V.ret ?_
   refine V.tR ?_
   refine V.bR ?_
   refine V.tR ?_
   refine V.tR ?_
   refine V.bR ?_
   refine V.tR ?_
   refine V.done rfl ?_
   replace HG := HG.grow G23
   replace HG := HG.n1 G28
   exact ⟨congrArg Value.bool (wrB_bad (by omega) hx18 (by first | exact .inl g5_4 | exact .inr h5 | exact .inr (by omega))).symm, HG⟩
  ·
   try replace g5_4 := V.dec g5_4
   try simp only [V.mk] at g5_4
   refine V.ru 1 ?_
   refine V.yes rfl rfl rfl ?_
   refine V.loadO T_ok Fk21 rfl rfl rfl rfl rfl ?_
   refine V.yes rfl rfl rfl ?_
   refine V.call (number_ok (n := x18.2)) rfl rfl rfl ?_
   rintro _ w27_ ⟨rfl, rfl⟩
   refine V.ru 2 ?_
   refine V.nt ?_
   refine V.condT rfl (fun h5 => ?_) (fun h5 => ?_)
   ·
    try replace h5 := V.dec h5
    try simp only [V.mk] at h5
    refine V.sr ?_
    refine V.ru 1 ?_
    refine V.nt ?_
    refine V.ret ?_
    refine V.tR ?_
    refine V.bR ?_
    refine V.tR ?_
    refine V.tR ?_
    refine V.bR ?_
    refine V.tR ?_
    refine V.done rfl ?_
    replace HG := HG.grow G23
    replace HG := HG.n1 G28
    exact ⟨congrArg Value.bool (wrB_bad (by omega) hx18 (by first | exact .inl g5_4 | exact .inr h5 | exact .inr (by omega))).symm, HG⟩
   ·
    try replace h5 := V.dec h5
    try simp only [V.mk] at h5
    refine V.skip ?_
    refine V.tN ?_
    refine V.region ?_
    refine V.ru 2 ?_
    refine V.loadO T_ok Fk21 rfl rfl rfl rfl rfl ?_
    refine V.ru 1 ?_
    refine V.loadO T_ok Fk21 rfl rfl rfl rfl rfl ?_
    replace F8 := F8.gr G23
    replace F8 := F8.mv1 G28 (by first | exact ⟨by omega, by assumption⟩ | exact ⟨by omega, fun h => absurd h.1 (by assumption)⟩ | exact ⟨by omega, fun h => absurd h.1.1 (by assumption)⟩ | exact ⟨by omega, fun h => by first | (have h2 := h.1; have h3 := h.2; omega) | (have h2 := h; dsimp only at h2; omega)⟩ | first | omega | exact fun h => h | exact ⟨by omega, fun h => h⟩ | (intro h; first | (have := hD_ws _ h; omega)) | (refine ⟨by omega, ?_⟩; intro h; first | (have := hD_ws _ h; omega)))
    refine V.mapUpd (V.key_str Tryz.underlying9) (.inl rfl) Tryz.underlying211 F8 rfl rfl rfl rfl rfl ?_
    rintro w34 G35 z36 Fnew
    clear F8
    have z37 := V.Fr.size G35
    have F8 := Fnew; clear Fnew
    refine V.nil ?_
    refine V.bN ?_
    refine V.tN ?_
    refine V.region ?_
    refine V.addN rfl rfl rfl rfl rfl V.lenA V.lenA ?_
    refine V.ru 1 ?_
    refine V.nt ?_
    have hr38 : V.mput (wmap (ws.take i)) x18.1 (.int .i64 x18.2) = wmap (ws.take (i + 1)) := wmap_succ (by omega) hx18
    rw [hr38] at F8
    clear hr38
    
    replace F_ws := F_ws.gr G23
    replace F_ws := F_ws.mb G28 hD_ws
    replace F_ws := F_ws.mb G35 hD_ws
    replace HG := HG.grow G23
    replace HG := HG.n1 G28
    replace HG := HG.n1 G35
    exact ⟨_, (by omega), HG, (by omega), F_ws, (i + 1), rfl, (by omega), (fun j hj h => by rcases Nat.lt_or_ge j i with h2 | h2; exact hno j hj h2; obtain rfl : j = i := (by omega); subst_vars; first | exact ⟨g5_4, h5⟩ | exact ⟨by simpa using g5_4, by omega, by omega⟩ | grind), (by first | exact F8 | exact F8.mono (fun _ h => h.1) (by intro h; omega)), rfl, rfl, rfl, rfl, rfl⟩
 ·
  try replace h3 := V.dec h3
  try simp only [V.mk] at h3
  refine V.exit ?_
  refine V.tX ?_
  refine V.tX ?_
  refine V.bE ?_
  refine V.tN ?_
  refine V.seq ?_
  have hall := wrB_all (ws := ws) (fun j hj => hno j hj (by omega))
  rw [List.take_of_length_le (by omega : ws.length ≤ i)] at *
  refine V.region ?_
  refine V.ru 4 ?_
  refine V.andG T_ok 3 3 32 rfl rfl rfl rfl rfl rfl rfl rfl ?_
  refine V.ru 1 ?_
  refine V.split (j := 8) (t := 37) rfl rfl (fun g9_8 => ?_) (fun g9_8 => ?_)
  ·
   try replace g9_8 := V.dec g9_8
   try simp only [V.mk] at g9_8
   refine V.ru 1 ?_
   refine V.yes rfl rfl rfl ?_
   refine V.step rfl rfl (V.mlen_run rfl Tryz.underlying211 F8 rfl) ?_
   refine V.ru 5 ?_
   refine V.nt ?_
   refine V.ret ?_
   refine V.done rfl ?_
   exact ⟨congrArg Value.bool (by rw [hall, Bool.eq_iff_iff]; simp only [Bool.and_eq_true, decide_eq_true_eq, wmap_nodup]; grind), HG⟩
  ·
   try replace g9_8 := V.dec g9_8
   try simp only [V.mk] at g9_8
   refine V.ru 7 ?_
   refine V.nt ?_
   refine V.ret ?_
   refine V.done rfl ?_
   exact ⟨congrArg Value.bool (by rw [hall, Bool.eq_iff_iff]; simp only [Bool.and_eq_true, decide_eq_true_eq, wmap_nodup]; grind), HG⟩

set_option maxHeartbeats 900000 in
set_option maxRecDepth 10000 in
theorem equalW_spec {w : World}  {D_xs : Nat → Prop} {c_xs : Nat} {a_xs : Option Addr} {xs : List (ByteArray × Int)} (F_xs : Sl V.Cod.write w D_xs a_xs c_xs xs) {D_ys : Nat → Prop} {c_ys : Nat} {a_ys : Option Addr} {ys : List (ByteArray × Int)} (F_ys : Sl V.Cod.write w D_ys a_ys c_ys ys)  :
    Meets Tryz.prog 81 [.slice a_xs xs.length c_xs, .slice a_ys ys.length c_ys] w fun r w' => r = .bool (decide (xs = ys)) ∧ Gr w w' := by
 have HG := V.Fr.refl [] w
 refine V.enter (n := 26) Tryz.func81 rfl rfl (by decide) rfl ?_
 refine V.sr ?_
 refine V.ru 1 ?_
 refine V.nt ?_
 refine V.seq ?_
 refine V.sr ?_
 refine V.ru 5 ?_
 refine V.nt ?_
 refine V.condT rfl (fun h1 => ?_) (fun h1 => ?_)
 ·
  try replace h1 := V.dec h1
  try simp only [V.mk] at h1
  refine V.sr ?_
  refine V.ru 1 ?_
  refine V.nt ?_
  refine V.ret ?_
  refine V.tR ?_
  refine V.done rfl ?_
  exact ⟨congrArg Value.bool (decide_eq_false (fun h => h1 (by rw [h]))).symm, HG⟩
 ·
  try replace h1 := V.dec h1
  try simp only [V.mk] at h1
  refine V.skip ?_
  refine V.tN ?_
  refine V.seq ?_
  refine V.sr ?_
  refine V.ru 3 ?_
  refine V.nt ?_
  refine V.block ?_
  have hl63 := F_xs.len63
  refine V.loopM (fun m e v2 => Fr [] w v2 ∧ w.heap.size ≤ v2.heap.size ∧ Sl V.Cod.write v2 D_xs a_xs c_xs xs ∧ Sl V.Cod.write v2 D_ys a_ys c_ys ys ∧ ∃ (i : Nat) , m = xs.length - i ∧ i ≤ xs.length ∧ (∀ j (hj : j < xs.length) (hj2 : j < ys.length), j < i → xs[j] = ys[j]) ∧ e 0 = .slice a_xs xs.length c_xs ∧ e 1 = .slice a_ys ys.length c_ys ∧ e 12 = .int .i64 (xs.length : Int) ∧ e 13 = .int .i64 (i : Int)) ?_ ?_
  ·
   exact ⟨_, HG, (by omega), F_xs, F_ys, (0), rfl, (by omega), (fun j hj hj2 h => absurd h (Nat.not_lt_zero _)), rfl, rfl, rfl, rfl⟩
  clear HG F_xs F_ys
  rintro _ e v2 ⟨HG, z3, F_xs, F_ys, i, rfl, hi, hno, he0_0, he0_1, he0_12, he0_13⟩
  refine V.knownC (t := 0) he0_0 ?_
  refine V.knownC (t := 1) he0_1 ?_
  refine V.knownC (t := 12) he0_12 ?_
  refine V.knownC (t := 13) he0_13 ?_
  refine V.sr ?_
  refine V.ru 1 ?_
  refine V.nt ?_
  refine V.seq ?_
  refine V.condT rfl (fun h4 => ?_) (fun h4 => ?_)
  ·
   try replace h4 := V.dec h4
   try simp only [V.mk] at h4
   refine V.skip ?_
   refine V.tN ?_
   refine V.seq ?_
   refine V.block ?_
   refine V.sr ?_
   refine V.ru 2 ?_
   refine V.nt ?_
   refine V.seq ?_
   refine V.drawQ mixed (by kernel_rfl) ?_
   refine V.qrun T_ok 2 rfl ?_
   refine V.qelem T_ok F_xs rfl rfl sz78 rfl rfl rfl rfl V.lenA V.lenA ?_
   rintro b4 o5 cs6 hx7 hb8 hR11 hA9
   obtain ⟨x10, hx10⟩ : ∃ z', xs[((i : Int)).toNat] = z' := ⟨_, rfl⟩
   rw [hx10] at hR11
   obtain ⟨_, _, rfl, rfl, rfl⟩ := hR11
   try simp only [Int.toNat_natCast] at hx10 hx7
   refine V.qloadA T_ok (o0 := o5) (off := 0) hA9 rfl rfl rfl rfl rfl ?_
   refine V.qrun T_ok 2 rfl ?_
   refine V.qelem T_ok F_ys rfl rfl sz78 rfl rfl rfl rfl V.lenA V.lenA ?_
   rintro b12 o13 cs14 hx15 hb16 hR19 hA17
   obtain ⟨x18, hx18⟩ : ∃ z', ys[((i : Int)).toNat] = z' := ⟨_, rfl⟩
   rw [hx18] at hR19
   obtain ⟨_, _, rfl, rfl, rfl⟩ := hR19
   try simp only [Int.toNat_natCast] at hx18 hx15
   refine V.qloadA T_ok (o0 := o13) (off := 0) hA17 rfl rfl rfl rfl rfl ?_
   refine V.qstep rfl rfl (fun _ _ => V.neA_run rfl rfl rfl eqG78 (eqS78 _)) ?_
   refine V.qnil ?_
   rintro w20 G21
   have z22 := V.Fr.size G21
   refine V.tN ?_
   refine V.condT rfl (fun h6 => ?_) (fun h6 => ?_)
   ·
    try replace h6 := V.dec h6
    try simp only [V.mk] at h6
    refine V.sr ?_
    refine V.ru 1 ?_
    refine V.nt ?_
    refine V.ret ?_
    refine V.bR ?_
    refine V.tR ?_
    refine V.tR ?_
    refine V.bR ?_
    refine V.tR ?_
    refine V.done rfl ?_
    replace HG := HG.grow G21
    exact ⟨congrArg Value.bool (decide_eq_false (fun h => by subst h; subst_vars; simp at h6)).symm, HG⟩
   ·
    try replace h6 := V.dec h6
    try simp only [V.mk] at h6
    refine V.skip ?_
    refine V.bN ?_
    refine V.tN ?_
    refine V.region ?_
    refine V.addN rfl rfl rfl rfl rfl V.lenA V.lenA ?_
    refine V.ru 1 ?_
    refine V.nt ?_
    replace F_xs := F_xs.gr G21
    replace F_ys := F_ys.gr G21
    replace HG := HG.grow G21
    exact ⟨_, (by omega), HG, (by omega), F_xs, F_ys, (i + 1), rfl, (by omega), (fun j hj hj2 h => by rcases Nat.lt_or_ge j i with h2 | h2; exact hno j hj hj2 h2; obtain rfl : j = i := (by omega); subst_vars; grind), rfl, rfl, rfl, rfl⟩
  ·
   try replace h4 := V.dec h4
   try simp only [V.mk] at h4
   refine V.exit ?_
   refine V.tX ?_
   refine V.tX ?_
   refine V.bE ?_
   refine V.tN ?_
   refine V.sr ?_
   refine V.ru 1 ?_
   refine V.nt ?_
   refine V.ret ?_
   refine V.done rfl ?_
   exact ⟨congrArg Value.bool (decide_eq_true (List.ext_getElem (by omega) fun j h1 h2 => hno j h1 h2 (by omega))).symm, HG⟩


set_option maxHeartbeats 900000 in
set_option maxRecDepth 10000 in
theorem recR_spec {w : World} {d : RecV} {D_o : Nat → Prop} {c_o : Nat} {a_o : Option Addr} (F_o : Sl V.Cod.write w D_o a_o c_o d.ws) (hD_o : ∀ k, D_o k → k < w.heap.size)  (hw : keysOk d.ws) :
    Meets Tryz.prog 129 [.agg #[.int .i64 d.id, .int .i64 d.ep, .int .i64 d.st, .int .i64 d.aw, .int .i64 d.al, .int .i64 d.bw, .int .i64 d.bl, .slice a_o d.ws.length c_o]] w fun r w' => r = .bool (recB d) ∧ Gr w w' := by
 have HG := V.Fr.refl [] w
 refine V.enter (n := 57) Tryz.func129 rfl rfl (by decide) rfl ?_
 refine V.sr ?_
 refine V.box rfl rfl rfl rfl ?_
 rintro k1 w3 s5 s6 G4 Fk2
 have z7 := V.Fr.size G4
 try simp only [V.cellsL, V.spliceL] at Fk2
 refine V.ru 1 ?_
 refine V.nt ?_
 refine V.seq ?_
 refine V.sr ?_
 refine V.ru 1 ?_
 refine V.loadO T_ok Fk2 rfl rfl rfl rfl rfl ?_
 refine V.call (number_ok (n := d.id)) rfl rfl rfl ?_
 rintro _ w3_ ⟨rfl, rfl⟩
 refine V.ru 2 ?_
 refine V.split (j := 4) (t := 8) rfl rfl (fun g1_4 => ?_) (fun g1_4 => ?_)
 ·
  try replace g1_4 := V.dec g1_4
  try simp only [V.mk] at g1_4
  refine V.ru 17 ?_
  refine V.nt ?_
  refine V.condY rfl rfl ?_
  refine V.sr ?_
  refine V.ru 1 ?_
  refine V.nt ?_
  refine V.ret ?_
  refine V.tR ?_
  refine V.done rfl ?_
  replace HG := HG.grow G4
  exact ⟨(congrArg Value.bool (by first | rfl | (simp only [recB, stR]; grind))), HG⟩
 ·
  try replace g1_4 := V.dec g1_4
  try simp only [V.mk] at g1_4
  refine V.ru 1 ?_
  refine V.yes rfl rfl rfl ?_
  refine V.loadO T_ok Fk2 rfl rfl rfl rfl rfl ?_
  refine V.yes rfl rfl rfl ?_
  refine V.call (number_ok (n := d.ep)) rfl rfl rfl ?_
  rintro _ w3_ ⟨rfl, rfl⟩
  refine V.ru 3 ?_
  refine V.split (j := 10) (t := 14) rfl rfl (fun g1_10 => ?_) (fun g1_10 => ?_)
  ·
   try replace g1_10 := V.dec g1_10
   try simp only [V.mk] at g1_10
   refine V.ru 11 ?_
   refine V.nt ?_
   refine V.condY rfl rfl ?_
   refine V.sr ?_
   refine V.ru 1 ?_
   refine V.nt ?_
   refine V.ret ?_
   refine V.tR ?_
   refine V.done rfl ?_
   replace HG := HG.grow G4
   exact ⟨(congrArg Value.bool (by first | rfl | (simp only [recB, stR]; grind))), HG⟩
  ·
   try replace g1_10 := V.dec g1_10
   try simp only [V.mk] at g1_10
   refine V.ru 1 ?_
   refine V.yes rfl rfl rfl ?_
   refine V.loadO T_ok Fk2 rfl rfl rfl rfl rfl ?_
   refine V.yes rfl rfl rfl ?_
   refine V.call (right_spec (a := d.aw) (b := d.al)) rfl rfl rfl ?_
   rintro _ w10 ⟨rfl, G11⟩
   have z12 := V.Fr.size G11
   refine V.ru 3 ?_
   refine V.split (j := 16) (t := 20) rfl rfl (fun g1_16 => ?_) (fun g1_16 => ?_)
   ·
    try replace g1_16 := V.dec g1_16
    try simp only [V.mk] at g1_16
    refine V.ru 5 ?_
    refine V.nt ?_
    refine V.condY rfl rfl ?_
    refine V.sr ?_
    refine V.ru 1 ?_
    refine V.nt ?_
    refine V.ret ?_
    refine V.tR ?_
    refine V.done rfl ?_
    replace HG := HG.grow (G4.trans G11)
    exact ⟨(congrArg Value.bool (by first | rfl | (simp only [recB, stR]; grind))), HG⟩
   ·
    try replace g1_16 := V.dec g1_16
    try simp only [V.mk] at g1_16
    refine V.ru 1 ?_
    refine V.yes rfl rfl rfl ?_
    replace Fk2 := Fk2.gr G11
    refine V.loadO T_ok Fk2 rfl rfl rfl rfl rfl ?_
    refine V.yes rfl rfl rfl ?_
    refine V.call (right_spec (a := d.bw) (b := d.bl)) rfl rfl rfl ?_
    rintro _ w13 ⟨rfl, G14⟩
    have z15 := V.Fr.size G14
    refine V.ru 2 ?_
    refine V.nt ?_
    refine V.condT rfl (fun h1 => ?_) (fun h1 => ?_)
    ·
     try replace h1 := V.dec h1
     try simp only [V.mk] at h1
     refine V.sr ?_
     refine V.ru 1 ?_
     refine V.nt ?_
     refine V.ret ?_
     refine V.tR ?_
     refine V.done rfl ?_
     replace HG := HG.grow (G4.trans (G11.trans G14))
     exact ⟨(congrArg Value.bool (by first | rfl | (simp only [recB, stR]; grind))), HG⟩
    ·
     try replace h1 := V.dec h1
     try simp only [V.mk] at h1
     refine V.skip ?_
     refine V.tN ?_
     refine V.sr ?_
     refine V.alloc zero33 rfl rfl rfl ?_
     rintro k16 w18 s20 s21 G19 Fk17
     have z22 := V.Fr.size G19
     try simp only [V.cellsL, V.spliceL] at Fk17
     refine V.nt ?_
     refine V.seq ?_
     refine V.sr ?_
     refine V.ru 1 ?_
     replace Fk2 := Fk2.gr (G14.trans G19)
     refine V.loadO T_ok Fk2 rfl rfl rfl rfl rfl ?_
     refine V.nt ?_
     refine V.block ?_
     refine V.seq ?_
     refine V.block ?_
     refine V.seq ?_
     refine V.block ?_
     refine V.seq ?_
     refine V.block ?_
     refine V.seq ?_
     refine V.block ?_
     refine V.seq ?_
     refine V.seq ?_
     refine V.sr ?_
     refine V.ru 2 ?_
     refine V.nt ?_
     refine V.condT rfl (fun h5 => ?_) (fun h5 => ?_)
     ·
      try replace h5 := V.dec h5
      try simp only [V.mk] at h5
      refine V.exit ?_
      refine V.tX ?_
      refine V.tX ?_
      refine V.bE ?_
      refine V.tN ?_
      refine V.seq ?_
      refine V.sr ?_
      refine V.ru 1 ?_
      refine V.loadO T_ok Fk2 rfl rfl rfl rfl rfl ?_
      replace F_o := F_o.gr (G4.trans (G11.trans (G14.trans G19)))
      refine V.call (written_spec F_o (fun k hk => by have := hD_o k hk; omega) (by first | assumption | exact keysOk.nil | (unfold keysOk; decide))) rfl rfl rfl ?_
      rintro _ w23 ⟨rfl, G24⟩
      have z25 := V.Fr.size G24
      refine V.ru 1 ?_
      refine V.nt ?_
      refine V.ret ?_
      refine V.tR ?_
      refine V.bR ?_
      refine V.tR ?_
      refine V.bR ?_
      refine V.tR ?_
      refine V.bR ?_
      refine V.tR ?_
      refine V.bR ?_
      refine V.tR ?_
      refine V.done rfl ?_
      replace HG := HG.grow (G4.trans (G11.trans (G14.trans (G19.trans G24))))
      exact ⟨(congrArg Value.bool (by first | rfl | (simp only [recB, stR]; grind))), HG⟩
     ·
      try replace h5 := V.dec h5
      try simp only [V.mk] at h5
      refine V.skip ?_
      refine V.tN ?_
      refine V.seq ?_
      refine V.sr ?_
      refine V.ru 2 ?_
      refine V.nt ?_
      refine V.condT rfl (fun h6 => ?_) (fun h6 => ?_)
      ·
       try replace h6 := V.dec h6
       try simp only [V.mk] at h6
       refine V.exit ?_
       refine V.tX ?_
       refine V.tX ?_
       refine V.bX rfl ?_
       refine V.tX ?_
       refine V.bE ?_
       refine V.tN ?_
       refine V.sr ?_
       refine V.ru 1 ?_
       refine V.loadO T_ok Fk2 rfl rfl rfl rfl rfl ?_
       refine V.ru 2 ?_
       refine V.split (j := 3) (t := 43) rfl rfl (fun g11_3 => ?_) (fun g11_3 => ?_)
       ·
        try replace g11_3 := V.dec g11_3
        try simp only [V.mk] at g11_3
        refine V.ru 5 ?_
        refine V.nt ?_
        refine V.condY rfl rfl ?_
        refine V.sr ?_
        refine V.ru 1 ?_
        refine V.nt ?_
        refine V.ret ?_
        refine V.bR ?_
        refine V.tR ?_
        refine V.bR ?_
        refine V.tR ?_
        refine V.bR ?_
        refine V.tR ?_
        refine V.done rfl ?_
        replace HG := HG.grow (G4.trans (G11.trans (G14.trans G19)))
        exact ⟨(congrArg Value.bool (by first | rfl | (simp only [recB, stR]; grind))), HG⟩
       ·
        try replace g11_3 := V.dec g11_3
        try simp only [V.mk] at g11_3
        refine V.ru 1 ?_
        refine V.yes rfl rfl rfl ?_
        refine V.loadO T_ok Fk2 rfl rfl rfl rfl rfl ?_
        refine V.yes rfl rfl rfl ?_
        refine V.loadO T_ok Fk17 rfl rfl rfl rfl rfl ?_
        refine V.yes rfl rfl rfl ?_
        refine V.step rfl rfl (V.neA_run rfl rfl rfl eqG33 (eqS33 _)) ?_
        refine V.ru 1 ?_
        refine V.nt ?_
        refine V.condT rfl (fun h11 => ?_) (fun h11 => ?_)
        ·
         try replace h11 := V.dec h11
         try simp only [V.mk] at h11
         refine V.sr ?_
         refine V.ru 1 ?_
         refine V.nt ?_
         refine V.ret ?_
         refine V.bR ?_
         refine V.tR ?_
         refine V.bR ?_
         refine V.tR ?_
         refine V.bR ?_
         refine V.tR ?_
         refine V.done rfl ?_
         replace HG := HG.grow (G4.trans (G11.trans (G14.trans G19)))
         exact ⟨(congrArg Value.bool (by first | rfl | (simp only [recB, stR]; grind))), HG⟩
        ·
         try replace h11 := V.dec h11
         try simp only [V.mk] at h11
         refine V.skip ?_
         refine V.bN ?_
         refine V.tN ?_
         refine V.sr ?_
         refine V.ru 1 ?_
         refine V.loadO T_ok Fk2 rfl rfl rfl rfl rfl ?_
         refine V.loadO T_ok Fk17 rfl rfl rfl rfl rfl ?_
         refine V.step rfl rfl (V.neA_run rfl rfl rfl eqG33 (eqS33 _)) ?_
         refine V.nt ?_
         refine V.condT rfl (fun h13 => ?_) (fun h13 => ?_)
         ·
          try replace h13 := V.dec h13
          try simp only [V.mk] at h13
          refine V.sr ?_
          refine V.ru 1 ?_
          refine V.nt ?_
          refine V.ret ?_
          refine V.bR ?_
          refine V.tR ?_
          refine V.bR ?_
          refine V.tR ?_
          refine V.done rfl ?_
          replace HG := HG.grow (G4.trans (G11.trans (G14.trans G19)))
          exact ⟨(congrArg Value.bool (by first | rfl | (simp only [recB, stR]; grind))), HG⟩
         ·
          try replace h13 := V.dec h13
          try simp only [V.mk] at h13
          refine V.skip ?_
          refine V.bN ?_
          refine V.tN ?_
          refine V.seq ?_
          refine V.sr ?_
          refine V.ru 1 ?_
          refine V.loadO T_ok Fk2 rfl rfl rfl rfl rfl ?_
          refine V.ru 3 ?_
          refine V.nt ?_
          refine V.ret ?_
          refine V.tR ?_
          refine V.bR ?_
          refine V.tR ?_
          refine V.done rfl ?_
          replace HG := HG.grow (G4.trans (G11.trans (G14.trans G19)))
          exact ⟨(congrArg Value.bool (by first | rfl | (simp only [recB, stR]; grind))), HG⟩
      ·
       try replace h6 := V.dec h6
       try simp only [V.mk] at h6
       refine V.skip ?_
       refine V.tN ?_
       refine V.seq ?_
       refine V.seq ?_
       refine V.sr ?_
       refine V.ru 2 ?_
       refine V.nt ?_
       refine V.condT rfl (fun h7 => ?_) (fun h7 => ?_)
       ·
        try replace h7 := V.dec h7
        try simp only [V.mk] at h7
        refine V.skip ?_
        refine V.tN ?_
        refine V.condT rfl (fun h7 => ?_) (fun h7 => ?_)
        ·
         try replace h7 := V.dec h7
         try simp only [V.mk] at h7
         refine V.exit ?_
         refine V.tX ?_
         refine V.tX ?_
         refine V.bX rfl ?_
         refine V.tX ?_
         refine V.bX rfl ?_
         refine V.tX ?_
         refine V.bE ?_
         refine V.tN ?_
         refine V.sr ?_
         refine V.ru 1 ?_
         refine V.loadO T_ok Fk2 rfl rfl rfl rfl rfl ?_
         refine V.loadO T_ok Fk17 rfl rfl rfl rfl rfl ?_
         refine V.step rfl rfl (V.neA_run rfl rfl rfl eqG33 (eqS33 _)) ?_
         refine V.nt ?_
         refine V.condT rfl (fun h13 => ?_) (fun h13 => ?_)
         ·
          try replace h13 := V.dec h13
          try simp only [V.mk] at h13
          refine V.sr ?_
          refine V.ru 1 ?_
          refine V.nt ?_
          refine V.ret ?_
          refine V.bR ?_
          refine V.tR ?_
          refine V.bR ?_
          refine V.tR ?_
          refine V.done rfl ?_
          replace HG := HG.grow (G4.trans (G11.trans (G14.trans G19)))
          exact ⟨(congrArg Value.bool (by first | rfl | (simp only [recB, stR]; grind))), HG⟩
         ·
          try replace h13 := V.dec h13
          try simp only [V.mk] at h13
          refine V.skip ?_
          refine V.bN ?_
          refine V.tN ?_
          refine V.seq ?_
          refine V.sr ?_
          refine V.ru 1 ?_
          refine V.loadO T_ok Fk2 rfl rfl rfl rfl rfl ?_
          refine V.ru 3 ?_
          refine V.nt ?_
          refine V.ret ?_
          refine V.tR ?_
          refine V.bR ?_
          refine V.tR ?_
          refine V.done rfl ?_
          replace HG := HG.grow (G4.trans (G11.trans (G14.trans G19)))
          exact ⟨(congrArg Value.bool (by first | rfl | (simp only [recB, stR]; grind))), HG⟩
        ·
         try replace h7 := V.dec h7
         try simp only [V.mk] at h7
         refine V.skip ?_
         refine V.tN ?_
         refine V.sr ?_
         refine V.ru 2 ?_
         refine V.nt ?_
         refine V.condT rfl (fun h9 => ?_) (fun h9 => ?_)
         ·
          try replace h9 := V.dec h9
          try simp only [V.mk] at h9
          refine V.exit ?_
          refine V.tX ?_
          refine V.bX rfl ?_
          refine V.tX ?_
          refine V.bX rfl ?_
          refine V.tX ?_
          refine V.bX rfl ?_
          refine V.tX ?_
          refine V.bE ?_
          refine V.tN ?_
          refine V.seq ?_
          refine V.sr ?_
          refine V.ru 1 ?_
          refine V.loadO T_ok Fk2 rfl rfl rfl rfl rfl ?_
          refine V.ru 3 ?_
          refine V.nt ?_
          refine V.ret ?_
          refine V.tR ?_
          refine V.bR ?_
          refine V.tR ?_
          refine V.done rfl ?_
          replace HG := HG.grow (G4.trans (G11.trans (G14.trans G19)))
          exact ⟨(congrArg Value.bool (by first | rfl | (simp only [recB, stR]; grind))), HG⟩
         ·
          try replace h9 := V.dec h9
          try simp only [V.mk] at h9
          refine V.skip ?_
          refine V.tN ?_
          refine V.exit ?_
          refine V.bX rfl ?_
          refine V.tX ?_
          refine V.bX rfl ?_
          refine V.tX ?_
          refine V.bX rfl ?_
          refine V.tX ?_
          refine V.bX rfl ?_
          refine V.tX ?_
          refine V.bE ?_
          refine V.tN ?_
          refine V.sr ?_
          refine V.ru 1 ?_
          refine V.nt ?_
          refine V.ret ?_
          refine V.done rfl ?_
          replace HG := HG.grow (G4.trans (G11.trans (G14.trans G19)))
          exact ⟨(congrArg Value.bool (by first | rfl | (simp only [recB, stR]; grind))), HG⟩
       ·
        try replace h7 := V.dec h7
        try simp only [V.mk] at h7
        refine V.region ?_
        refine V.ru 2 ?_
        refine V.nt ?_
        refine V.condT rfl (fun h8 => ?_) (fun h8 => ?_)
        ·
         try replace h8 := V.dec h8
         try simp only [V.mk] at h8
         refine V.exit ?_
         refine V.tX ?_
         refine V.tX ?_
         refine V.bX rfl ?_
         refine V.tX ?_
         refine V.bX rfl ?_
         refine V.tX ?_
         refine V.bE ?_
         refine V.tN ?_
         refine V.sr ?_
         refine V.ru 1 ?_
         refine V.loadO T_ok Fk2 rfl rfl rfl rfl rfl ?_
         refine V.loadO T_ok Fk17 rfl rfl rfl rfl rfl ?_
         refine V.step rfl rfl (V.neA_run rfl rfl rfl eqG33 (eqS33 _)) ?_
         refine V.nt ?_
         refine V.condT rfl (fun h13 => ?_) (fun h13 => ?_)
         ·
          try replace h13 := V.dec h13
          try simp only [V.mk] at h13
          refine V.sr ?_
          refine V.ru 1 ?_
          refine V.nt ?_
          refine V.ret ?_
          refine V.bR ?_
          refine V.tR ?_
          refine V.bR ?_
          refine V.tR ?_
          refine V.done rfl ?_
          replace HG := HG.grow (G4.trans (G11.trans (G14.trans G19)))
          exact ⟨(congrArg Value.bool (by first | rfl | (simp only [recB, stR]; grind))), HG⟩
         ·
          try replace h13 := V.dec h13
          try simp only [V.mk] at h13
          refine V.skip ?_
          refine V.bN ?_
          refine V.tN ?_
          refine V.seq ?_
          refine V.sr ?_
          refine V.ru 1 ?_
          refine V.loadO T_ok Fk2 rfl rfl rfl rfl rfl ?_
          refine V.ru 3 ?_
          refine V.nt ?_
          refine V.ret ?_
          refine V.tR ?_
          refine V.bR ?_
          refine V.tR ?_
          refine V.done rfl ?_
          replace HG := HG.grow (G4.trans (G11.trans (G14.trans G19)))
          exact ⟨(congrArg Value.bool (by first | rfl | (simp only [recB, stR]; grind))), HG⟩
        ·
         try replace h8 := V.dec h8
         try simp only [V.mk] at h8
         refine V.skip ?_
         refine V.tN ?_
         refine V.sr ?_
         refine V.ru 2 ?_
         refine V.nt ?_
         refine V.condT rfl (fun h9 => ?_) (fun h9 => ?_)
         ·
          try replace h9 := V.dec h9
          try simp only [V.mk] at h9
          refine V.exit ?_
          refine V.tX ?_
          refine V.bX rfl ?_
          refine V.tX ?_
          refine V.bX rfl ?_
          refine V.tX ?_
          refine V.bX rfl ?_
          refine V.tX ?_
          refine V.bE ?_
          refine V.tN ?_
          refine V.seq ?_
          refine V.sr ?_
          refine V.ru 1 ?_
          refine V.loadO T_ok Fk2 rfl rfl rfl rfl rfl ?_
          refine V.ru 3 ?_
          refine V.nt ?_
          refine V.ret ?_
          refine V.tR ?_
          refine V.bR ?_
          refine V.tR ?_
          refine V.done rfl ?_
          replace HG := HG.grow (G4.trans (G11.trans (G14.trans G19)))
          exact ⟨(congrArg Value.bool (by first | rfl | (simp only [recB, stR]; grind))), HG⟩
         ·
          try replace h9 := V.dec h9
          try simp only [V.mk] at h9
          refine V.skip ?_
          refine V.tN ?_
          refine V.exit ?_
          refine V.bX rfl ?_
          refine V.tX ?_
          refine V.bX rfl ?_
          refine V.tX ?_
          refine V.bX rfl ?_
          refine V.tX ?_
          refine V.bX rfl ?_
          refine V.tX ?_
          refine V.bE ?_
          refine V.tN ?_
          refine V.sr ?_
          refine V.ru 1 ?_
          refine V.nt ?_
          refine V.ret ?_
          refine V.done rfl ?_
          replace HG := HG.grow (G4.trans (G11.trans (G14.trans G19)))
          exact ⟨(congrArg Value.bool (by first | rfl | (simp only [recB, stR]; grind))), HG⟩

end Go.Proofs.YtmmgmkklakkooaaGreat
