/- Proved here: walks: what functions of this seat's program return and what they leave of memory, each as a contract. Conditions: stated at each theorem. -/
import Derived.Test.YtnbijpijbhkcpaaMjn4
namespace Go.Proofs.Ytnbijpijbhkcpaa
set_option linter.unusedVariables false
set_option linter.unusedSimpArgs false
open Go
open V (Bytes Meets Env Sl Own Gr Fr Cells S)
/-! ### What is opened behind a crash -/
theorem scan_pre : ∀ {ls : List (List UInt8)} (r : List UInt8), FrOk ls → (scanB (allF ls ++ r)).1 = ls ++ (scanB r).1
  | [], r, _ => by simp [allF]
  | x :: ls, r, h => by
    have hx := h x (by simp)
    have ih := scan_pre (ls := ls) r (fun y hy => h y (by simp [hy]))
    have e : allF (x :: ls) ++ r = frm x ++ (allF ls ++ r) := by simp [allF]
    rw [e, scan_frm (by omega) (by omega), ih]; rfl
theorem scan_nil : (scanB []).1 = [] := by rw [scanB_none (first_short (Nat.zero_le _))]
theorem frm_part {x : List UInt8} {c : Nat} (hc : 8 < c) : (frm x).take c = (fourI (x.length : Int) ++ fourI ((sumB x).toNat : Int)) ++ x.take (c - 8) := by
  unfold frm
  rw [List.take_append, List.take_of_length_le (by simp [fourI]; omega)]
  congr 1
theorem first_torn {x : List UInt8} (h : x.length ≤ 65536) {c : Nat} (h0 : 0 < c) (hc : c < x.length + 8) : firstB (flip1 ((frm x).take c) (8 * (c - 1))) = none := by
  by_cases h8 : c ≤ 8
  · exact first_short (by rw [flip1_len, List.length_take]; omega)
  · have e := flip1_app (fourI (x.length : Int) ++ fourI ((sumB x).toNat : Int)) (x.take (c - 8)) (8 * (c - 9))
    rw [show 8 * (fourI (x.length : Int) ++ fourI ((sumB x).toNat : Int)).length + 8 * (c - 9) = 8 * (c - 1) by simp [fourI]; omega] at e
    rw [frm_part (by omega), e, firstB_mk _ _ _ (by omega), if_neg (fun h2 => by have := h2.2.2.1; rw [flip1_len, List.length_take] at this; omega)]
theorem scan_cut : ∀ (lr : List (List UInt8)) (k : Nat), FrOk lr → ∃ m, m ≤ lr.length ∧ (scanB ((allF lr).take k)).1 = lr.take m
  | [], k, _ => ⟨0, Nat.le_refl _, by simp [allF, scan_nil]⟩
  | x :: lr, k, h => by
    have hx := h x (by simp)
    have e : allF (x :: lr) = frm x ++ allF lr := by simp [allF]
    by_cases hk : k < x.length + 8
    · refine ⟨0, Nat.zero_le _, ?_⟩
      rw [e, List.take_append_of_le_length (by rw [frm_len]; omega), scanB_none (first_cut hx.2 hk)]; rfl
    · obtain ⟨m, hm, ih⟩ := scan_cut lr (k - (x.length + 8)) (fun y hy => h y (by simp [hy]))
      refine ⟨m + 1, by simp only [List.length_cons]; omega, ?_⟩
      rw [e, List.take_append, List.take_of_length_le (by rw [frm_len]; omega), frm_len, scan_frm (by omega) (by omega), ih]; rfl
theorem scan_torn : ∀ (lr : List (List UInt8)) (k : Nat), FrOk lr → 0 < k → k ≤ (allF lr).length → ∃ m, m ≤ lr.length ∧ (scanB (flip1 ((allF lr).take k) (8 * (k - 1)))).1 = lr.take m
  | [], k, _, h0, hk => by simp [allF] at hk; omega
  | x :: lr, k, h, h0, hk => by
    have hx := h x (by simp)
    have e : allF (x :: lr) = frm x ++ allF lr := by simp [allF]
    rcases Nat.lt_trichotomy k (x.length + 8) with h1 | h1 | h1
    · refine ⟨0, Nat.zero_le _, ?_⟩
      rw [e, List.take_append_of_le_length (by rw [frm_len]; omega), scanB_none (first_torn hx.2 h0 h1)]; rfl
    · refine ⟨0, Nat.zero_le _, ?_⟩
      have ef : (frm x ++ allF lr).take k = frm x := by rw [List.take_append_of_le_length (by rw [frm_len]; omega), List.take_of_length_le (by rw [frm_len]; omega)]
      have hf := first_flip (b := x) (t := []) hx.2 (k := 8 * (x.length - 1)) (by omega)
      rw [List.append_nil, show 64 + 8 * (x.length - 1) = 8 * (k - 1) by omega] at hf
      rw [e, ef, scanB_none hf]; rfl
    · have hl : k - (x.length + 8) ≤ (allF lr).length := by rw [e, List.length_append, frm_len] at hk; omega
      obtain ⟨m, hm, ih⟩ := scan_torn lr (k - (x.length + 8)) (fun y hy => h y (by simp [hy])) (by omega) hl
      refine ⟨m + 1, by simp only [List.length_cons]; omega, ?_⟩
      have ef : (frm x ++ allF lr).take k = frm x ++ (allF lr).take (k - (x.length + 8)) := by rw [List.take_append, List.take_of_length_le (by rw [frm_len]; omega), frm_len]
      have ea := flip1_app (frm x) ((allF lr).take (k - (x.length + 8))) (8 * (k - (x.length + 8) - 1))
      rw [frm_len, show 8 * (x.length + 8) + 8 * (k - (x.length + 8) - 1) = 8 * (k - 1) by omega] at ea
      rw [e, ef, ea, scan_frm (by omega) (by omega), ih]; rfl
theorem comm_pre : ∀ (a b : List UInt8), comm a (a ++ b) = a.length
  | [], b => by cases b <;> rfl
  | x :: a, b => by simp [comm, comm_pre a b]
theorem set_flip (l : List UInt8) (i : Nat) : l.set i (l.getD i 0 ^^^ 1) = flip1 l (8 * i) := by
  unfold flip1
  rw [show 8 * i / 8 = i by omega, show 8 * i % 8 = 0 by omega]; rfl
theorem crash_scan {d : DiskV} {ls lr : List (List UInt8)} (h : FrOk (ls ++ lr)) (hs : d.sf = allF ls) (hn : d.nf = allF (ls ++ lr)) (keep : Int) (torn : Bool) : ∃ m, m ≤ lr.length ∧ (scanB (dLeft d keep torn)).1 = ls ++ lr.take m := by
  have h1 : FrOk ls := fun x hx => h x (by simp [hx])
  have h2 : FrOk lr := fun x hx => h x (by simp [hx])
  have hn2 : d.nf = d.sf ++ allF lr := by rw [hn, hs, allF_app]
  have hc : comm d.sf d.nf = d.sf.length := by rw [hn2]; exact comm_pre _ _
  have hl : d.nf.length = d.sf.length + (allF lr).length := by rw [hn2, List.length_append]
  unfold dLeft
  dsimp only
  rw [hc]
  split
  · refine ⟨0, Nat.zero_le _, ?_⟩
    rw [hs, scan_file h1]; simp
  · split
    · refine ⟨lr.length, Nat.le_refl _, ?_⟩
      rw [hn, scan_file h, List.take_length]
    · have ht : ∀ k, d.nf.take (d.sf.length + k) = allF ls ++ (allF lr).take k := fun k => by rw [hn2, List.take_length_add_append, hs]
      split
      · rename_i _ _ hk
        rw [ht, set_flip]
        obtain ⟨m, hm, hq⟩ := scan_torn lr (min keep.toNat (d.nf.length - d.sf.length)) h2 hk.2 (by omega)
        refine ⟨m, hm, ?_⟩
        have hsl : d.sf.length = (allF ls).length := by rw [hs]
        rw [show 8 * (d.sf.length + min keep.toNat (d.nf.length - d.sf.length) - 1) = 8 * (allF ls).length + 8 * (min keep.toNat (d.nf.length - d.sf.length) - 1) by omega, flip1_app, scan_pre _ h1, hq]
      · rw [ht]
        obtain ⟨m, hm, hq⟩ := scan_cut lr (min keep.toNat (d.nf.length - d.sf.length)) h2
        exact ⟨m, hm, by rw [scan_pre _ h1, hq]⟩
/-- what of a journal is seen -/
def vis (j : JV) : Int × ByteArray × List (List UInt8) := (j.base, V.S j.data, j.l)
def vz (l : List (List UInt8)) : Int × ByteArray × List (List UInt8) := vis (runV ⟨0, [], [], 0, 0, 0⟩ l).1
theorem vis_run (t v b : Int) (l : List (List UInt8)) : vis (runV ⟨0, [], [], t, v, b⟩ l).1 = vz l := by
  have := runV_hard t v b l ⟨0, [], [], 0, 0, 0⟩
  show vis (runV (hset ⟨0, [], [], 0, 0, 0⟩ t v b) l).1 = _
  rw [this]; rfl
theorem run_same : ∀ (l : List (List UInt8)) (j : JV), (runV j l).1.t = j.t ∧ (runV j l).1.v = j.v ∧ (runV j l).1.b = j.b
  | [], j => ⟨rfl, rfl, rfl⟩
  | x :: l, j => by
    cases ht : takeV j x with
    | none => simp [runV, ht]
    | some j' =>
      have h1 := takeV_same ht
      have h2 := run_same l j'
      simp only [runV, ht]
      exact ⟨h2.1.trans h1.1, h2.2.1.trans h1.2.1, h2.2.2.trans h1.2.2⟩
theorem Sy.vz {j : JV} {d : DiskV} {l : List (List UInt8)} (h : Sy j d l) : vz l = vis j := by rw [← vis_run j.t j.v j.b l, h.run]
/-- ls: what was safe at the last Sync; lr: what came since; W: what was seen since -/
structure Iv (j : JV) (d : DiskV) (ls lr : List (List UInt8)) (W : List (Int × ByteArray × List (List UInt8))) (s1 s2 s3 : Int) : Prop where
  sy : Sy j d (ls ++ lr)
  sf : d.sf = allF ls
  sc : hardV d.sc = some (s1, s2, s3)
  was : ∀ m, m ≤ lr.length → vz (ls ++ lr.take m) ∈ W
theorem Iv.new : Iv ⟨0, [], [], 0, 0, 0⟩ ⟨[], [], [], []⟩ [] [] [vis ⟨0, [], [], 0, 0, 0⟩] 0 0 0 := ⟨Sy.new, rfl, (by unfold hardV; rw [if_pos rfl]), fun m hm => by
  have : m = 0 := by simpa using hm
  subst this
  exact List.mem_singleton.2 rfl⟩
theorem Iv.act {j j' : JV} {d d' : DiskV} {ls lr l' : List (List UInt8)} {W : List (Int × ByteArray × List (List UInt8))} {s1 s2 s3 : Int} (h : Iv j d ls lr W s1 s2 s3) (hs : Stp j d (ls ++ lr) j' d' l') : ∃ lr', Iv j' d' ls lr' (W ++ [vis j']) s1 s2 s3 := by
  have hvz := hs.sy.vz
  rcases hs.ch with ⟨h1, h2⟩ | ⟨x, h1⟩
  · refine ⟨lr, h1 ▸ hs.sy, hs.sf.1.trans h.sf, by rw [hs.sf.2]; exact h.sc, fun m hm => List.mem_append.2 (.inl (h.was m hm))⟩
  · refine ⟨lr ++ [x], ?_, hs.sf.1.trans h.sf, by rw [hs.sf.2]; exact h.sc, fun m hm => ?_⟩
    · rw [← List.append_assoc, ← h1]; exact hs.sy
    · rcases Nat.lt_or_ge lr.length m with h3 | h3
      · have e : (lr ++ [x]).take m = lr ++ [x] := List.take_of_length_le (by rw [List.length_append]; simp only [List.length_cons, List.length_nil]; omega)
        rw [e, ← List.append_assoc, ← h1, hvz]; simp
      · rw [List.take_append_of_le_length h3]; exact List.mem_append.2 (.inl (h.was m h3))
theorem Iv.sync {j : JV} {d : DiskV} {ls lr : List (List UInt8)} {W : List (Int × ByteArray × List (List UInt8))} {s1 s2 s3 : Int} (h : Iv j d ls lr W s1 s2 s3) : Iv j (dSync d) (ls ++ lr) [] ([] ++ [vis j]) j.t j.v j.b := by
  refine ⟨by rw [List.append_nil]; exact h.sy.sync, h.sy.nf, h.sy.hc, fun m hm => ?_⟩
  have : m = 0 := by simpa using hm
  subst this
  rw [List.take_zero, List.append_nil, h.sy.vz]; simp
/-- behind a crash something is opened that was seen -/
theorem Iv.crash {j : JV} {d : DiskV} {ls lr : List (List UInt8)} {W : List (Int × ByteArray × List (List UInt8))} {s1 s2 s3 : Int} (h : Iv j d ls lr W s1 s2 s3) (keep : Int) (torn cell : Bool) :
    ∃ t v b j2 nn, hardV (dCrash d keep torn cell).nc = some (t, v, b) ∧ runV ⟨0, [], [], t, v, b⟩ (scanB (dCrash d keep torn cell).nf).1 = (j2, nn) ∧ vis j2 ∈ W ∧ (j2.t = bif cell then j.t else s1) ∧ (j2.v = bif cell then j.v else s2) ∧ (j2.b = bif cell then j.b else s3) := by
  obtain ⟨m, hm, hq⟩ := crash_scan h.sy.fr h.sf h.sy.nf keep torn
  have hh : hardV (dCrash d keep torn cell).nc = some (bif cell then j.t else s1, bif cell then j.v else s2, bif cell then j.b else s3) := by
    cases cell
    · exact h.sc
    · exact h.sy.hc
  refine ⟨_, _, _, (runV ⟨0, [], [], bif cell then j.t else s1, bif cell then j.v else s2, bif cell then j.b else s3⟩ (ls ++ lr.take m)).1, (runV ⟨0, [], [], bif cell then j.t else s1, bif cell then j.v else s2, bif cell then j.b else s3⟩ (ls ++ lr.take m)).2, hh, ?_, ?_, (run_same _ _).1, (run_same _ _).2.1, (run_same _ _).2.2⟩
  · show runV _ (scanB (dLeft d keep torn)).1 = _
    rw [hq]
  · rw [vis_run]; exact h.was m hm
abbrev WV := Int × ByteArray × List (List UInt8)
theorem dLeft_leN (d : DiskV) (keep : Int) (torn : Bool) {N : Nat} (h1 : d.sf.length ≤ N) (h2 : d.nf.length ≤ N) : (dLeft d keep torn).length ≤ N := by
  have hc := (comm_le d.sf d.nf).2
  unfold dLeft
  dsimp only
  split
  · exact h1
  · split
    · exact h2
    · split
      · simp only [List.length_set, List.length_take]; omega
      · simp only [List.length_take]; omega
theorem Iv.nfc {j : JV} {d : DiskV} {ls lr : List (List UInt8)} {W : List WV} {s1 s2 s3 : Int} (h : Iv j d ls lr W s1 s2 s3) (keep : Int) (torn cell : Bool) : (dCrash d keep torn cell).nf.length ≤ d.nf.length :=
  dLeft_leN d keep torn (by rw [h.sf, h.sy.nf, allF_app, List.length_append]; omega) (Nat.le_refl _)
def wp (j : JV) (x : WV) : Bool := decide (x.2.2 = j.l ∧ x.1 = j.base ∧ x.2.1 = V.S j.data)
theorem any_next {p : WV → Bool} {l : List WV} {n : Nat} {x : WV} (hn : n < l.length) (hx : l[n] = x) : (l.take (n + 1)).any p = ((l.take n).any p || p x) := by
  subst hx; rw [List.take_succ_eq_append_getElem hn, List.any_append]; simp
theorem any_keep {p : WV → Bool} {l : List WV} {n : Nat} (h : (l.take n).any p = true) : (l.take (n + 1)).any p = true := by
  rw [List.any_eq_true] at h ⊢
  obtain ⟨x, h1, h2⟩ := h
  exact ⟨x, List.take_subset_take_left l (Nat.le_succ n) h1, h2⟩
theorem any_all {j : JV} {l : List WV} {n : Nat} (h : vis j ∈ l) (hn : l.length ≤ n) : (l.take n).any (wp j) = true := by
  rw [List.take_of_length_le hn, List.any_eq_true]
  exact ⟨vis j, h, decide_eq_true ⟨rfl, rfl, rfl⟩⟩
section
open V
theorem V.Row.ofCells2 {α : Type} {C : V.Cod α} {w : World} {k t lo hi : Nat} {D : Nat → Prop} {cs : List Value} {xs : List α} (F : Cells w k cs t) (hR : Reps C w D xs cs) (hk : ¬ D k) (hD : ∀ j, D j → V.In lo hi j) (h1 : lo ≤ k) (h2 : k < hi) (hm : xs.length ≤ maxLen) : V.Row C t w V.None' lo hi (some ⟨k, 0, none⟩) xs.length xs := by
  have hl := hR.len
  exact ⟨.inr ⟨k, D, h1, h2, hk, fun j h => .inr (hD j h), ⟨Nat.le_refl _, hm, .inr ⟨rfl, cs, cs, F, hl, by rw [← hl, List.take_length], hR⟩⟩⟩⟩
end


set_option maxHeartbeats 900000 in
set_option maxRecDepth 10000 in
theorem seen_spec {w : World} {k kd : Nat} {E : Nat → Prop} {jv : JV} (FX : Jn w k kd E jv)   :
    Meets Try.prog 32 [.pointer (some ⟨k, 0, none⟩)] w fun r w' => ∃ (ra74 : Option Addr) (rc74 : Nat), r = .agg #[.int .i64 jv.base, .string (V.S jv.data), .slice ra74 jv.l.length rc74] ∧ V.Row V.Cod.byte.sl 22 w' V.None' w.heap.size w'.heap.size ra74 rc74 jv.l ∧ Gr w w' := by
 have hlt := FX.lt
 have hEk := FX.ek
 obtain ⟨hb0, hb1, hll, hdl, hel⟩ := FX.ok
 have HG := V.Fr.refl [] w
 refine V.enter (n := 16) Try.func32 rfl rfl (by decide) rfl ?_
 refine V.seq ?_
 refine V.region ?_
 refine V.alloc zero56 rfl rfl rfl ?_
 rintro k1 w3 s5 s6 G4 Fk2
 have z7 := V.Fr.size G4
 try replace FX := FX.gr G4
 replace HG := HG.grow G4
 clear G4
 try simp only [V.cellsL, V.spliceL] at Fk2
 refine V.nil ?_
 refine V.tN ?_
 refine V.seq ?_
 refine V.region ?_
 refine V.run T_ok 1 rfl ?_
 refine V.call (jbase_spec FX) rfl rfl rfl ?_
 rintro _ w11 ⟨a8, c9, rfl, F10, G12⟩
 have z13 := V.Fr.size G12
 try replace FX := FX.gr G12
 try replace Fk2 := Fk2.gr G12
 replace HG := HG.grow G12
 clear G12
 refine V.run T_ok 5 rfl ?_
 refine V.nil ?_
 refine V.tN ?_
 refine V.seq ?_
 refine V.drawGT 5 (V.sel [(4, (fun v wz => ∃ (ra65 : Option Addr) (rc65 : Nat), v = .slice ra65 jv.l.length rc65 ∧ V.Row V.Cod.byte.sl 22 wz V.None' w11.heap.size wz.heap.size ra65 rc65 jv.l))]) mixed (by kernel_rfl) (V.mono_cons (by rintro v wz wz' g ⟨ra65, rc65, rfl, rF65⟩; exact ⟨ra65, rc65, rfl, (by first | exact (rF65.gr g).mono (V.In.sub (Nat.le_refl _) g.size) | exact rF65.gr g | exact (rF65.gr g).mono (fun _ h => h) (Nat.le_refl _) g.size | exact (rF65.gr g).mono (fun k h => ⟨h.1, Nat.lt_of_lt_of_le h.2 g.size⟩))⟩) V.mono_nil) ?_
 refine V.grun T_ok 2 rfl (V.sel_none rfl) ?_
 refine V.gtoStr (fun w' h => F10.sl.gr h.1) Try.underlying22 Try.underlying5 Try.underlying9 rfl rfl rfl rfl rfl ?_
 refine V.grun T_ok 1 rfl (V.sel_none rfl) ?_
 refine V.gcall (fun w' h => (jrec_spec (FX.gr h.1)).mono (by rintro v w'' ⟨ra65, rc65, rfl, rF65, G⟩; exact ⟨⟨ra65, rc65, rfl, (by first | exact rF65.mono (V.In.mono_l h.1.size) | exact rF65 | exact rF65.mono (fun _ h => h) h.1.size (Nat.le_refl _))⟩, G⟩)) rfl rfl rfl rfl ?_
 rintro _ w17 - - ⟨a14, c15, rfl, -⟩
 refine V.gnil ?_
 rintro w18 G19 hH20
 have z21 := V.Fr.size G19
 try replace FX := FX.gr G19
 try replace Fk2 := Fk2.gr G19
 try replace F10 := F10.gr G19
 replace HG := HG.grow G19
 clear G19
 have F16 : V.Row V.Cod.byte.sl 22 w18 V.None' w11.heap.size w18.heap.size a14 c15 jv.l := by
   obtain ⟨_, _, he, F0⟩ := (V.Hist.here (hH20 4))
   cases he
   exact F0
 clear hH20
 refine V.mkStruct T_ok zero56 rfl rfl rfl rfl rfl ?_
 refine V.storeO Fk2 rfl rfl rfl rfl sz56 rfl rfl rfl rfl ?_
 rintro w22 G23 z25 Fs24
 clear Fk2
 have z26 := V.Fr.size G23
 first | replace FX := FX.mv1 G23 (by (try dsimp only [V.In]); first | omega | grind) | clear FX | skip
 try replace F10 := F10.ma G23
 try replace F16 := F16.ma G23
 replace HG := HG.n1 G23
 clear G23
 have Fk2 := Fs24; clear Fs24
 simp only [V.spliceL, V.cellsL] at Fk2
 refine V.nil ?_
 refine V.tN ?_
 refine V.ret ?_
 refine V.done1 rfl (V.resV_cell T_ok Fk2 rfl rfl) ?_
 exact ⟨a14, c15, (by first | rfl | simp only [List.length_set]), F16.re, HG⟩

theorem seen_j {w : World} {k kd : Nat} {EJ : Nat → Prop} {jv : JV} {dv : DiskV} (FJ : Jst w k kd EJ jv dv)   :
    Meets Try.prog 32 [.pointer (some ⟨k, 0, none⟩)] w fun r w' => ∃ (ra74 : Option Addr) (rc74 : Nat), r = .agg #[.int .i64 jv.base, .string (V.S jv.data), .slice ra74 jv.l.length rc74] ∧ V.Row V.Cod.byte.sl 22 w' V.None' w.heap.size w'.heap.size ra74 rc74 jv.l ∧ Gr w w' := by
  obtain ⟨E, D, FX, -⟩ := FJ.ex
  exact seen_spec FX

set_option maxHeartbeats 900000 in
set_option maxRecDepth 10000 in
theorem was_spec {w : World}  {b1 : Int} {s1 : ByteArray} {D_l1 : Nat → Prop} {c_l1 : Nat} {a_l1 : Option Addr} {l1 : List (List UInt8)} (F_l1 : Sl V.Cod.byte.sl w D_l1 a_l1 c_l1 l1) {b2 : Int} {s2 : ByteArray} {D_l2 : Nat → Prop} {c_l2 : Nat} {a_l2 : Option Addr} {l2 : List (List UInt8)} (F_l2 : Sl V.Cod.byte.sl w D_l2 a_l2 c_l2 l2)  :
    Meets Try.prog 34 [.agg #[.int .i64 b1, .string s1, .slice a_l1 l1.length c_l1], .agg #[.int .i64 b2, .string s2, .slice a_l2 l2.length c_l2]] w fun r w' => r = .bool (decide (l1 = l2 ∧ b1 = b2 ∧ s1 = s2)) ∧ Gr w w' := by
 have HG := V.Fr.refl [] w
 refine V.enter (n := 26) Try.func34 rfl rfl (by decide) rfl ?_
 refine V.seq ?_
 refine V.region ?_
 refine V.box rfl rfl rfl rfl ?_
 rintro k1 w3 s5 s6 G4 Fk2
 have z7 := V.Fr.size G4
 try replace F_l1 := F_l1.gr G4
 try replace F_l2 := F_l2.gr G4
 replace HG := HG.grow G4
 clear G4
 try simp only [V.cellsL, V.spliceL] at Fk2
 refine V.box rfl rfl rfl rfl ?_
 rintro k8 w10 s12 s13 G11 Fk9
 have z14 := V.Fr.size G11
 try replace F_l1 := F_l1.gr G11
 try replace F_l2 := F_l2.gr G11
 try replace Fk2 := Fk2.gr G11
 replace HG := HG.grow G11
 clear G11
 try simp only [V.cellsL, V.spliceL] at Fk9
 refine V.run T_ok 1 rfl ?_
 refine V.nil ?_
 refine V.tN ?_
 refine V.seq ?_
 refine V.region ?_
 refine V.run T_ok 1 rfl ?_
 refine V.loadO T_ok Fk2 rfl rfl rfl rfl rfl ?_
 refine V.run T_ok 1 rfl ?_
 refine V.loadO T_ok Fk9 rfl rfl rfl rfl rfl ?_
 refine V.call (rsameL_spec F_l1 F_l2) rfl rfl rfl ?_
 rintro _ w10_ ⟨rfl, G16⟩
 have z17 := V.Fr.size G16
 try replace F_l1 := F_l1.gr G16
 try replace F_l2 := F_l2.gr G16
 try replace Fk2 := Fk2.gr G16
 try replace Fk9 := Fk9.gr G16
 replace HG := HG.grow G16
 clear G16
 refine V.run T_ok 1 rfl ?_
 refine V.nil ?_
 refine V.tN ?_
 refine V.seq ?_
 refine V.region ?_
 refine V.run T_ok 2 rfl ?_
 refine V.split (j := 1) (t := 12) rfl rfl (fun g2_1 => ?_) (fun g2_1 => ?_)
 ·
  try replace g2_1 := V.dec g2_1
  try simp only [V.mk0, V.mk1, V.mk2, V.mk3] at g2_1
  refine V.run T_ok 1 rfl ?_
  refine V.yes rfl rfl rfl ?_
  refine V.loadO T_ok Fk2 rfl rfl rfl rfl rfl ?_
  refine V.run T_ok 1 rfl ?_
  refine V.yes rfl rfl rfl ?_
  refine V.loadO T_ok Fk9 rfl rfl rfl rfl rfl ?_
  refine V.run T_ok 3 rfl ?_
  refine V.split (j := 8) (t := 19) rfl rfl (fun g2_8 => ?_) (fun g2_8 => ?_)
  ·
   try replace g2_8 := V.dec g2_8
   try simp only [V.mk0, V.mk1, V.mk2, V.mk3] at g2_8
   refine V.run T_ok 1 rfl ?_
   refine V.yes rfl rfl rfl ?_
   refine V.loadO T_ok Fk2 rfl rfl rfl rfl rfl ?_
   refine V.run T_ok 1 rfl ?_
   refine V.yes rfl rfl rfl ?_
   refine V.loadO T_ok Fk9 rfl rfl rfl rfl rfl ?_
   refine V.run T_ok 3 rfl ?_
   refine V.nil ?_
   refine V.tN ?_
   refine V.ret ?_
   refine V.done rfl ?_
   exact ⟨(congrArg Value.bool (by first | rfl | grind)), HG⟩
  ·
   try replace g2_8 := V.dec g2_8
   try simp only [V.mk0, V.mk1, V.mk2, V.mk3] at g2_8
   refine V.run T_ok 7 rfl ?_
   refine V.nil ?_
   refine V.tN ?_
   refine V.ret ?_
   refine V.done rfl ?_
   exact ⟨(congrArg Value.bool (by first | rfl | grind)), HG⟩
 ·
  try replace g2_1 := V.dec g2_1
  try simp only [V.mk0, V.mk1, V.mk2, V.mk3] at g2_1
  refine V.run T_ok 14 rfl ?_
  refine V.nil ?_
  refine V.tN ?_
  refine V.ret ?_
  refine V.done rfl ?_
  exact ⟨(congrArg Value.bool (by first | rfl | grind)), HG⟩


set_option maxHeartbeats 900000 in
set_option maxRecDepth 10000 in
theorem journalOutlives_walk {w : World}  {D_xs : Nat → Prop} {c_xs : Nat} {a_xs : Option Addr} {xs : List (Int × Int × Int × List UInt8 × Bool × Bool)} (F_xs : Sl (V.Cod.pair (V.Cod.int .i64) (V.Cod.pair (V.Cod.int .i64) (V.Cod.pair (V.Cod.int .i64) (V.Cod.pair V.Cod.byte.sl (V.Cod.pair V.Cod.bool V.Cod.bool))))) w D_xs a_xs c_xs xs) (hD_xs : ∀ k, D_xs k → k < w.heap.size) {keep : Int} {b0 : Bool} {b1 : Bool}  :
    Meets Try.prog 5 [.slice a_xs xs.length c_xs, .int .i64 keep, .agg #[.bool b0, .bool b1]] w fun r w' => r = .bool true ∧ Gr w w' := by
 have hsy0 := Sy.new
 have HG := V.Fr.refl [] w
 refine V.enter (n := 158) Try.func5 rfl rfl (by decide) rfl ?_
 refine V.seq ?_
 refine V.region ?_
 refine V.box rfl rfl rfl rfl ?_
 rintro k1 w3 s5 s6 G4 Fk2
 have z7 := V.Fr.size G4
 try replace F_xs := F_xs.gr G4
 replace HG := HG.grow G4
 clear G4
 try simp only [V.cellsL, V.spliceL] at Fk2
 refine V.run T_ok 1 rfl ?_
 refine V.nil ?_
 refine V.tN ?_
 refine V.seq ?_
 refine V.region ?_
 refine V.call (dk_new) rfl rfl rfl ?_
 rintro _ w11 ⟨k8, rfl, ⟨h9l, h9u⟩, F10, G12⟩
 have z13 := V.Fr.size G12
 try replace F_xs := F_xs.gr G12
 try replace Fk2 := Fk2.gr G12
 replace HG := HG.grow G12
 clear G12
 refine V.run T_ok 1 rfl ?_
 refine V.nil ?_
 refine V.tN ?_
 refine V.seq ?_
 refine V.region ?_
 refine V.run T_ok 1 rfl ?_
 refine V.call (open_sy F10 hsy0 (Nat.zero_le _)) rfl rfl rfl ?_
 rintro _ w17 ⟨k14, rfl, ⟨h15l, h15u⟩, F16, G18⟩
 have z19 := V.Fr.size G18
 try replace F_xs := F_xs.mb G18 hD_xs
 try replace Fk2 := Fk2.ma G18
 first | replace F10 := F10.mv1 G18 (by (try dsimp only [V.In]); first | omega | grind) | clear F10 | skip
 replace HG := HG.n1 G18
 clear G18
 refine V.run T_ok 5 rfl ?_
 refine V.nil ?_
 refine V.tN ?_
 refine V.seq ?_
 refine V.seq ?_
 refine V.region ?_
 refine V.call (alive_spec) rfl rfl rfl ?_
 rintro _ w20 ⟨rfl, G21⟩
 have z22 := V.Fr.size G21
 try replace F_xs := F_xs.gr G21
 try replace Fk2 := Fk2.gr G21
 try replace F16 := F16.gr G21
 replace HG := HG.grow G21
 clear G21
 refine V.run T_ok 9 rfl ?_
 refine V.nil ?_
 refine V.tN ?_
 refine V.condN rfl rfl ?_
 refine V.skip ?_
 refine V.tN ?_
 refine V.seq ?_
 refine V.region ?_
 refine V.run T_ok 1 rfl ?_
 refine V.call (seen_j F16) rfl rfl rfl ?_
 rintro _ w26 ⟨a23, c24, rfl, F25, G27⟩
 have z28 := V.Fr.size G27
 try replace F_xs := F_xs.gr G27
 try replace Fk2 := Fk2.gr G27
 try replace F16 := F16.gr G27
 replace HG := HG.grow G27
 clear G27
 refine V.mkSlice T_ok zero56 rfl rfl sz56 rfl rfl rfl rfl rfl rfl ?_
 rintro k29 w32 s34 s35 G33 Fk30
 have z36 := V.Fr.size G33
 try replace F_xs := F_xs.gr G33
 try replace Fk2 := Fk2.gr G33
 try replace F16 := F16.gr G33
 try replace F25 := F25.gr G33
 replace HG := HG.grow G33
 clear G33
 have F31 : V.Row (V.Cod.pair (V.Cod.int .i64) (V.Cod.pair V.Cod.str V.Cod.byte.sl.sl)) 56 w32 V.None' w20.heap.size (k29 + 1) (some ⟨k29, 0, none⟩) ([(0, V.S ([]), ([]))] : List WV).length ([(0, V.S ([]), ([]))] : List WV) := V.Row.ofCells2 Fk30 (V.reps_cons (x := (0, V.S ([]), ([]))) ⟨_, _, rfl, rfl, ⟨_, _, rfl, rfl, ⟨_, _, rfl, F25.sl⟩⟩⟩ rfl rfl) (fun h => by have := h.2; omega) (fun j h => ⟨by have := h.1; omega, by have := h.2; omega⟩) (by omega) (by omega) (by simp [maxLen])
 clear Fk30
 refine V.run T_ok 1 rfl ?_
 refine V.nil ?_
 refine V.tN ?_
 refine V.seq ?_
 have FW := V.RowE.ofRow F31; clear F31
 clear F25
 refine V.region ?_
 refine V.run T_ok 1 rfl ?_
 refine V.call (jhard_spec_j F16) rfl rfl rfl ?_
 rintro _ w37 ⟨rfl, G38⟩
 have z39 := V.Fr.size G38
 try replace F_xs := F_xs.gr G38
 try replace Fk2 := Fk2.gr G38
 try replace F16 := F16.gr G38
 try replace FW := FW.gr G38
 replace HG := HG.grow G38
 clear G38
 refine V.alloc zero47 rfl rfl rfl ?_
 rintro k40 w42 s44 s45 G43 Fk41
 have z46 := V.Fr.size G43
 try replace F_xs := F_xs.gr G43
 try replace Fk2 := Fk2.gr G43
 try replace F16 := F16.gr G43
 try replace FW := FW.gr G43
 replace HG := HG.grow G43
 clear G43
 try simp only [V.cellsL, V.spliceL] at Fk41
 refine V.storeO Fk41 rfl rfl rfl rfl sz47 rfl rfl rfl rfl ?_
 rintro w47 G48 z50 Fs49
 clear Fk41
 have z51 := V.Fr.size G48
 try replace F_xs := F_xs.mb G48 hD_xs
 try replace Fk2 := Fk2.ma G48
 first | replace F16 := F16.mv1 G48 (by (try dsimp only [V.In]); first | omega | grind) | clear F16 | skip
 first | replace FW := FW.mv1 G48 (by (try dsimp only [V.In]); first | omega | grind) | clear FW | skip
 replace HG := HG.n1 G48
 clear G48
 have Fk41 := Fs49; clear Fs49
 simp only [V.spliceL, V.cellsL] at Fk41
 refine V.nil ?_
 refine V.tN ?_
 refine V.seq ?_
 refine V.seq ?_
 refine V.region ?_
 refine V.run T_ok 1 rfl ?_
 refine V.nil ?_
 refine V.tN ?_
 refine V.block ?_
 have FJ1 := F16; clear F16
 have hl63 := F_xs.len63
 refine V.loopM (fun m e v53 => Fr [] w v53 ∧ w47.heap.size ≤ v53.heap.size ∧ Sl (V.Cod.pair (V.Cod.int .i64) (V.Cod.pair (V.Cod.int .i64) (V.Cod.pair (V.Cod.int .i64) (V.Cod.pair V.Cod.byte.sl (V.Cod.pair V.Cod.bool V.Cod.bool))))) v53 D_xs a_xs c_xs xs ∧ Cells v53 k1 [.bool b0, .bool b1] 53 ∧ ∃ (i : Nat) (jv : JV) (dv : DiskV) (ls lr : List (List UInt8)) (W : List WV) (s1 s2 s3 : Int) (E1 EW : Nat → Prop) (ra75 : Option Addr) (rc75 : Nat), m = xs.length - i ∧ i ≤ xs.length ∧ i ≤ 60 ∧ Iv jv dv ls lr W s1 s2 s3 ∧ dv.nf.length ≤ 300 * i ∧ jv.l.length ≤ i ∧ W.length ≤ i + 1 ∧ (∀ x, E1 x → w.heap.size ≤ x) ∧ ¬ E1 k40 ∧ ¬ E1 k1 ∧ (∀ x, E1 x → ¬ EW x) ∧ (∀ x, EW x → w.heap.size ≤ x ∧ x < v53.heap.size) ∧ ¬ EW k40 ∧ ¬ EW k1 ∧ V.RowE (V.Cod.pair (V.Cod.int .i64) (V.Cod.pair V.Cod.str V.Cod.byte.sl.sl)) 56 v53 V.None' EW ra75 rc75 W ∧ Jst v53 k14 k8 E1 jv dv ∧ Cells v53 k40 [.int .i64 s1, .int .i64 s2, .int .i64 s3] 47 ∧ e 0 = .slice a_xs xs.length c_xs ∧ e 1 = .int .i64 keep ∧ e 5 = .pointer (some ⟨k1, 0, none⟩) ∧ e 7 = .pointer (some ⟨k8, 0, none⟩) ∧ e 8 = .pointer (some ⟨k14, 0, none⟩) ∧ e 10 = .slice ra75 W.length rc75 ∧ e 11 = .pointer (some ⟨k40, 0, none⟩) ∧ e 12 = .int .i64 (i : Int)) ?_ ?_
 ·
  exact ⟨_, HG, (by omega), F_xs, Fk2, (0), ((⟨0, [], [], 0, 0, 0⟩ : JV)), ((⟨[], [], [], []⟩ : DiskV)), ([]), ([]), ([vis ⟨0, [], [], 0, 0, 0⟩]), (0), (0), (0), ((fun i => ((fun i => V.In w3.heap.size w11.heap.size i ∧ i ≠ k8) i ∨ i = k8) ∨ V.In w11.heap.size w17.heap.size i)), ((V.In w20.heap.size (k29 + 1))), (some ⟨k29, 0, none⟩), (([(0, V.S ([]), ([]))] : List WV).length), rfl, (Nat.zero_le _), (Nat.zero_le _), (Iv.new), (Nat.zero_le _), (Nat.zero_le _), (Nat.le_refl _), ((by intro i h; (try dsimp only [V.In] at h ⊢); first | omega | grind)), ((by (try dsimp only [V.In]); first | omega | grind)), ((by (try dsimp only [V.In]); first | omega | grind)), ((by intro i h hd; (try dsimp only [V.In] at h hd ⊢); first | omega | grind)), ((by intro i h; constructor <;> ((try dsimp only [V.In] at h ⊢); first | omega | grind))), ((by (try dsimp only [V.In]); first | omega | grind)), ((by (try dsimp only [V.In]); first | omega | grind)), FW, FJ1, Fk41, rfl, rfl, rfl, rfl, rfl, rfl, rfl, rfl⟩
 try clear FW
 clear HG F_xs Fk2 FJ1 Fk41
 rintro _ e v53 ⟨HG, z54, F_xs, Fk2, i, jv, dv, ls, lr, W, s1, s2, s3, E1, EW, ra75, rc75, rfl, hi, hi60, hiv, hnf, hjl, hwl, hE1, hE11, hE12, hEW, hW, hW11, hW12, rF75, FJ1, Fk41, he0_0, he0_1, he0_5, he0_7, he0_8, he0_10, he0_11, he0_12⟩
 have hEl1 := FJ1.lt
 refine V.knownC (t := 0) he0_0 ?_
 refine V.knownC (t := 1) he0_1 ?_
 refine V.knownC (t := 5) he0_5 ?_
 refine V.knownC (t := 7) he0_7 ?_
 refine V.knownC (t := 8) he0_8 ?_
 refine V.knownC (t := 10) he0_10 ?_
 refine V.knownC (t := 11) he0_11 ?_
 refine V.knownC (t := 12) he0_12 ?_
 refine V.seq ?_
 refine V.seq ?_
 refine V.region ?_
 refine V.run T_ok 5 rfl ?_
 refine V.andG T_ok 2 4 45 rfl rfl rfl rfl rfl rfl rfl rfl ?_
 refine V.nil ?_
 refine V.tN ?_
 refine V.condT rfl (fun h8 => ?_) (fun h8 => ?_)
 ·
  try replace h8 := V.dec h8
  try simp only [V.mk0, V.mk1, V.mk2, V.mk3] at h8
  refine V.skip ?_
  refine V.tN ?_
  refine V.seq ?_
  refine V.block ?_
  refine V.seq ?_
  refine V.region ?_
  refine V.run T_ok 2 rfl ?_
  refine V.elem T_ok F_xs rfl rfl sz42 rfl rfl rfl rfl (by first | omega | (simp only [List.length_take, List.length_drop, List.length_append, List.length_cons, List.length_nil, List.length_replicate, List.length_set, V.length_data, V.S_size]; omega)) (by first | omega | (simp only [List.length_take, List.length_drop, List.length_append, List.length_cons, List.length_nil, List.length_replicate, List.length_set, V.length_data, V.S_size]; omega)) ?_
  rintro b55 o56 cs57 hx58 hb59 hR65 hA60
  obtain ⟨x61, hx61⟩ : ∃ z', xs[((i : Int)).toNat] = z' := ⟨_, rfl⟩
  rw [hx61] at hR65
  obtain ⟨_, _, rfl, rfl, ⟨_, _, rfl, rfl, ⟨_, _, rfl, rfl, ⟨_, _, rfl, ⟨a62, c63, rfl, F64⟩, ⟨_, _, rfl, rfl, rfl⟩⟩⟩⟩⟩ := hR65
  try simp only [Int.toNat_natCast] at hx61 hx58
  refine V.loadA T_ok (o0 := o56) (off := 0) hA60 rfl rfl rfl rfl rfl ?_
  refine V.alloc zero42 rfl rfl rfl ?_
  rintro k66 w68 s70 s71 G69 Fk67
  have z72 := V.Fr.size G69
  try replace F_xs := F_xs.gr G69
  try replace Fk2 := Fk2.gr G69
  try replace FJ1 := FJ1.gr G69
  try replace Fk41 := Fk41.gr G69
  try replace rF75 := rF75.gr G69
  try replace F64 := F64.gr G69
  replace HG := HG.grow G69
  clear G69
  try simp only [V.cellsL, V.spliceL] at Fk67
  refine V.storeO Fk67 rfl rfl rfl rfl sz42 rfl rfl rfl rfl ?_
  rintro w73 G74 z76 Fs75
  clear Fk67
  have z77 := V.Fr.size G74
  try replace F_xs := F_xs.mb G74 hD_xs
  try replace Fk2 := Fk2.ma G74
  first | replace FJ1 := FJ1.mv1 G74 (by (try dsimp only [V.In]); first | omega | grind) | clear FJ1 | skip
  try replace Fk41 := Fk41.ma G74
  first | replace rF75 := rF75.mv1 G74 (by (try dsimp only [V.In]); first | omega | grind) | clear rF75 | skip
  try replace F64 := F64.mb G74 hD_xs
  replace HG := HG.n1 G74
  clear G74
  have Fk67 := Fs75; clear Fs75
  simp only [V.spliceL, V.cellsL] at Fk67
  refine V.nil ?_
  refine V.tN ?_
  refine V.seq ?_
  refine V.seq ?_
  refine V.region ?_
  refine V.run T_ok 1 rfl ?_
  refine V.loadO T_ok Fk67 rfl rfl rfl rfl rfl ?_
  refine V.run T_ok 2 rfl ?_
  refine V.nil ?_
  refine V.tN ?_
  refine V.condT rfl (fun h11 => ?_) (fun h11 => ?_)
  ·
   try replace h11 := V.dec h11
   try simp only [V.mk0, V.mk1, V.mk2, V.mk3] at h11
   refine V.exit ?_
   refine V.tX ?_
   refine V.bE ?_
   refine V.tN ?_
   refine V.region ?_
   refine V.run T_ok 1 rfl ?_
   refine V.addN rfl rfl rfl rfl rfl (by first | omega | (simp only [List.length_take, List.length_drop, List.length_append, List.length_cons, List.length_nil, List.length_replicate, List.length_set, V.length_data, V.S_size]; omega)) (by first | omega | (simp only [List.length_take, List.length_drop, List.length_append, List.length_cons, List.length_nil, List.length_replicate, List.length_set, V.length_data, V.S_size]; omega)) ?_
   refine V.run T_ok 1 rfl ?_
   refine V.nil ?_
   refine V.tN ?_
   exact ⟨_, (by omega), HG, (by omega), F_xs, Fk2, (i + 1), (jv), (dv), (ls), (lr), (W), (s1), (s2), (s3), (E1), (EW), ra75, rc75, rfl, (by omega), (by omega), (hiv), (by omega), (by omega), (by omega), (hE1), (hE11), (hE12), (hEW), ((by intro i h; have := hW i h; constructor <;> omega)), (hW11), (hW12), rF75, FJ1, Fk41, rfl, rfl, rfl, rfl, rfl, rfl, rfl, rfl⟩
  ·
   try replace h11 := V.dec h11
   try simp only [V.mk0, V.mk1, V.mk2, V.mk3] at h11
   refine V.skip ?_
   refine V.tN ?_
   refine V.seqJ (fun e v79 => Fr [] w v79 ∧ w73.heap.size ≤ v79.heap.size ∧ Sl (V.Cod.pair (V.Cod.int .i64) (V.Cod.pair (V.Cod.int .i64) (V.Cod.pair (V.Cod.int .i64) (V.Cod.pair V.Cod.byte.sl (V.Cod.pair V.Cod.bool V.Cod.bool))))) v79 D_xs a_xs c_xs xs ∧ Cells v79 k1 [.bool b0, .bool b1] 53 ∧ V.RowE (V.Cod.pair (V.Cod.int .i64) (V.Cod.pair V.Cod.str V.Cod.byte.sl.sl)) 56 v79 V.None' EW ra75 rc75 W ∧ Sl V.Cod.byte v79 D_xs a62 c63 x61.2.2.2.1 ∧ Cells v79 k66 [.int .i64 x61.1, .int .i64 x61.2.1, .int .i64 x61.2.2.1, .slice a62 x61.2.2.2.1.length c63, .bool x61.2.2.2.2.1, .bool x61.2.2.2.2.2] 42 ∧ ∃ (jv2 : JV) (dv2 : DiskV) (ls2 lr2 : List (List UInt8)) (Wb : List WV) (s4 s5 s6 : Int) (E3 : Nat → Prop) (ra76 : Option Addr) (rc76 : Nat), Iv jv2 dv2 ls2 lr2 (Wb ++ [vis jv2]) s4 s5 s6 ∧ dv2.nf.length ≤ 300 * i + 300 ∧ jv2.l.length ≤ i + 1 ∧ Wb.length ≤ i + 1 ∧ (∀ x, E3 x → w.heap.size ≤ x) ∧ ¬ E3 k40 ∧ ¬ E3 k1 ∧ (∀ x, E3 x → ¬ EW x) ∧ Jst v79 k14 k8 E3 jv2 dv2 ∧ Cells v79 k40 [.int .i64 s4, .int .i64 s5, .int .i64 s6] 47 ∧ V.RowE (V.Cod.pair (V.Cod.int .i64) (V.Cod.pair V.Cod.str V.Cod.byte.sl.sl)) 56 v79 V.None' EW ra76 rc76 Wb ∧ e 0 = .slice a_xs xs.length c_xs ∧ e 1 = .int .i64 keep ∧ e 5 = .pointer (some ⟨k1, 0, none⟩) ∧ e 7 = .pointer (some ⟨k8, 0, none⟩) ∧ e 8 = .pointer (some ⟨k14, 0, none⟩) ∧ e 10 = .slice ra76 Wb.length rc76 ∧ e 11 = .pointer (some ⟨k40, 0, none⟩) ∧ e 12 = .int .i64 (i : Int) ∧ True) ?_ ?_
   ·
    refine V.seq ?_
    refine V.region ?_
    refine V.run T_ok 1 rfl ?_
    refine V.loadO T_ok Fk67 rfl rfl rfl rfl rfl ?_
    refine V.nil ?_
    refine V.tN ?_
    refine V.block ?_
    refine V.seq ?_
    refine V.region ?_
    refine V.run T_ok 2 rfl ?_
    refine V.nil ?_
    refine V.tN ?_
    refine V.condT rfl (fun h13 => ?_) (fun h13 => ?_)
    ·
     try replace h13 := V.dec h13
     try simp only [V.mk0, V.mk1, V.mk2, V.mk3] at h13
     refine V.region ?_
     refine V.run T_ok 2 rfl ?_
     refine V.loadO T_ok Fk67 rfl rfl rfl rfl rfl ?_
     refine V.call (jappend_spec FJ1 F64 (fun k hk => by have := hD_xs k hk; omega) (by first | assumption | omega | decide | (dsimp only; omega) | (simp only [List.length_append, List.length_take, List.length_cons, List.length_nil]; omega))) rfl rfl rfl ?_
     rintro _ w81 ⟨rfl, F80, G82⟩
     have z83 := V.FrE.size G82
     first | replace F_xs := F_xs.mvE G82 (by intro j h hd; (try dsimp only [V.In] at h hd ⊢); first | omega | grind) | clear F_xs | skip
     first | replace Fk2 := Fk2.mvE G82 (by (try dsimp only [V.In]); first | omega | grind) | clear Fk2 | skip
     first | replace FJ1 := FJ1.mvE G82 (by intro j h hd; (try dsimp only [V.In] at h hd ⊢); first | omega | grind) | clear FJ1 | skip
     first | replace Fk41 := Fk41.mvE G82 (by (try dsimp only [V.In]); first | omega | grind) | clear Fk41 | skip
     first | replace rF75 := rF75.mvE G82 (by intro j h hd; (try dsimp only [V.In] at h hd ⊢); first | omega | grind) | clear rF75 | skip
     first | replace F64 := F64.mvE G82 (by intro j h hd; (try dsimp only [V.In] at h hd ⊢); first | omega | grind) | clear F64 | skip
     first | replace Fk67 := Fk67.mvE G82 (by (try dsimp only [V.In]); first | omega | grind) | clear Fk67 | skip
     replace HG := HG.stepE G82 (by intro i h; (try dsimp only [V.In] at h ⊢); first | omega | grind)
     clear G82
     refine V.nil ?_
     refine V.bN ?_
     refine V.tN ?_
     obtain ⟨lf9, hst9⟩ := hiv.sy.appS (b := x61.2.2.2.1) (by omega) (by omega)
     obtain ⟨lr9, hiv9⟩ := hiv.act hst9
     have hst9n := hst9.nf
     have hst9l := hst9.ll
     exact ⟨HG, (by omega), F_xs, Fk2, rF75, F64, Fk67, (_), (_), (ls), (lr9), (W), (s1), (s2), (s3), ((fun i => E1 i ∨ V.In w73.heap.size w81.heap.size i)), ra75, rc75, (hiv9), (by omega), (by omega), (by omega), ((by intro i h; (try dsimp only [V.In] at h ⊢); first | omega | grind)), ((by (try dsimp only [V.In]); first | omega | grind)), ((by (try dsimp only [V.In]); first | omega | grind)), ((by intro i h hd; (try dsimp only [V.In] at h hd ⊢); first | omega | grind)), F80, Fk41, rF75, rfl, rfl, rfl, rfl, rfl, rfl, rfl, rfl, trivial⟩
    ·
     try replace h13 := V.dec h13
     try simp only [V.mk0, V.mk1, V.mk2, V.mk3] at h13
     refine V.seq ?_
     refine V.region ?_
     refine V.run T_ok 2 rfl ?_
     refine V.nil ?_
     refine V.tN ?_
     refine V.condT rfl (fun h15 => ?_) (fun h15 => ?_)
     ·
      try replace h15 := V.dec h15
      try simp only [V.mk0, V.mk1, V.mk2, V.mk3] at h15
      refine V.region ?_
      refine V.run T_ok 2 rfl ?_
      refine V.loadO T_ok Fk67 rfl rfl rfl rfl rfl ?_
      refine V.call (jcut_spec (n := x61.2.1) FJ1 (by first | assumption | omega | decide | (dsimp only; omega) | (simp only [List.length_append, List.length_take, List.length_cons, List.length_nil]; omega))) rfl rfl rfl ?_
      rintro _ w85 ⟨rfl, F84, G86⟩
      have z87 := V.FrE.size G86
      first | replace F_xs := F_xs.mvE G86 (by intro j h hd; (try dsimp only [V.In] at h hd ⊢); first | omega | grind) | clear F_xs | skip
      first | replace Fk2 := Fk2.mvE G86 (by (try dsimp only [V.In]); first | omega | grind) | clear Fk2 | skip
      first | replace FJ1 := FJ1.mvE G86 (by intro j h hd; (try dsimp only [V.In] at h hd ⊢); first | omega | grind) | clear FJ1 | skip
      first | replace Fk41 := Fk41.mvE G86 (by (try dsimp only [V.In]); first | omega | grind) | clear Fk41 | skip
      first | replace rF75 := rF75.mvE G86 (by intro j h hd; (try dsimp only [V.In] at h hd ⊢); first | omega | grind) | clear rF75 | skip
      first | replace F64 := F64.mvE G86 (by intro j h hd; (try dsimp only [V.In] at h hd ⊢); first | omega | grind) | clear F64 | skip
      first | replace Fk67 := Fk67.mvE G86 (by (try dsimp only [V.In]); first | omega | grind) | clear Fk67 | skip
      replace HG := HG.stepE G86 (by intro i h; (try dsimp only [V.In] at h ⊢); first | omega | grind)
      clear G86
      refine V.nil ?_
      refine V.bN ?_
      refine V.tN ?_
      obtain ⟨lf9, hst9⟩ := hiv.sy.cutS x61.2.1 (by omega) (by omega)
      obtain ⟨lr9, hiv9⟩ := hiv.act hst9
      have hst9n := hst9.nf
      have hst9l := hst9.ll
      exact ⟨HG, (by omega), F_xs, Fk2, rF75, F64, Fk67, (_), (_), (ls), (lr9), (W), (s1), (s2), (s3), ((fun i => E1 i ∨ V.In w73.heap.size w85.heap.size i)), ra75, rc75, (hiv9), (by omega), (by omega), (by omega), ((by intro i h; (try dsimp only [V.In] at h ⊢); first | omega | grind)), ((by (try dsimp only [V.In]); first | omega | grind)), ((by (try dsimp only [V.In]); first | omega | grind)), ((by intro i h hd; (try dsimp only [V.In] at h hd ⊢); first | omega | grind)), F84, Fk41, rF75, rfl, rfl, rfl, rfl, rfl, rfl, rfl, rfl, trivial⟩
     ·
      try replace h15 := V.dec h15
      try simp only [V.mk0, V.mk1, V.mk2, V.mk3] at h15
      refine V.seq ?_
      refine V.region ?_
      refine V.run T_ok 2 rfl ?_
      refine V.nil ?_
      refine V.tN ?_
      refine V.condT rfl (fun h17 => ?_) (fun h17 => ?_)
      ·
       try replace h17 := V.dec h17
       try simp only [V.mk0, V.mk1, V.mk2, V.mk3] at h17
       refine V.region ?_
       refine V.run T_ok 2 rfl ?_
       refine V.loadO T_ok Fk67 rfl rfl rfl rfl rfl ?_
       refine V.run T_ok 1 rfl ?_
       refine V.loadO T_ok Fk67 rfl rfl rfl rfl rfl ?_
       refine V.call (jreb_spec (n := x61.2.1) FJ1 F64 (fun k hk => by have := hD_xs k hk; omega) (by first | assumption | omega | decide | (dsimp only; omega) | (simp only [List.length_append, List.length_take, List.length_cons, List.length_nil]; omega))) rfl rfl rfl ?_
       rintro _ w89 ⟨rfl, F88, G90⟩
       have z91 := V.FrE.size G90
       first | replace F_xs := F_xs.mvE G90 (by intro j h hd; (try dsimp only [V.In] at h hd ⊢); first | omega | grind) | clear F_xs | skip
       first | replace Fk2 := Fk2.mvE G90 (by (try dsimp only [V.In]); first | omega | grind) | clear Fk2 | skip
       first | replace FJ1 := FJ1.mvE G90 (by intro j h hd; (try dsimp only [V.In] at h hd ⊢); first | omega | grind) | clear FJ1 | skip
       first | replace Fk41 := Fk41.mvE G90 (by (try dsimp only [V.In]); first | omega | grind) | clear Fk41 | skip
       first | replace rF75 := rF75.mvE G90 (by intro j h hd; (try dsimp only [V.In] at h hd ⊢); first | omega | grind) | clear rF75 | skip
       first | replace F64 := F64.mvE G90 (by intro j h hd; (try dsimp only [V.In] at h hd ⊢); first | omega | grind) | clear F64 | skip
       first | replace Fk67 := Fk67.mvE G90 (by (try dsimp only [V.In]); first | omega | grind) | clear Fk67 | skip
       replace HG := HG.stepE G90 (by intro i h; (try dsimp only [V.In] at h ⊢); first | omega | grind)
       clear G90
       refine V.nil ?_
       refine V.bN ?_
       refine V.tN ?_
       obtain ⟨lf9, hst9⟩ := hiv.sy.rebS (b := x61.2.2.2.1) x61.2.1 (by omega) (by omega)
       obtain ⟨lr9, hiv9⟩ := hiv.act hst9
       have hst9n := hst9.nf
       have hst9l := hst9.ll
       exact ⟨HG, (by omega), F_xs, Fk2, rF75, F64, Fk67, (_), (_), (ls), (lr9), (W), (s1), (s2), (s3), ((fun i => E1 i ∨ V.In w73.heap.size w89.heap.size i)), ra75, rc75, (hiv9), (by omega), (by omega), (by omega), ((by intro i h; (try dsimp only [V.In] at h ⊢); first | omega | grind)), ((by (try dsimp only [V.In]); first | omega | grind)), ((by (try dsimp only [V.In]); first | omega | grind)), ((by intro i h hd; (try dsimp only [V.In] at h hd ⊢); first | omega | grind)), F88, Fk41, rF75, rfl, rfl, rfl, rfl, rfl, rfl, rfl, rfl, trivial⟩
      ·
       try replace h17 := V.dec h17
       try simp only [V.mk0, V.mk1, V.mk2, V.mk3] at h17
       refine V.seq ?_
       refine V.region ?_
       refine V.run T_ok 2 rfl ?_
       refine V.nil ?_
       refine V.tN ?_
       refine V.condT rfl (fun h19 => ?_) (fun h19 => ?_)
       ·
        try replace h19 := V.dec h19
        try simp only [V.mk0, V.mk1, V.mk2, V.mk3] at h19
        refine V.region ?_
        refine V.run T_ok 2 rfl ?_
        refine V.loadO T_ok Fk67 rfl rfl rfl rfl rfl ?_
        refine V.run T_ok 1 rfl ?_
        refine V.loadO T_ok Fk67 rfl rfl rfl rfl rfl ?_
        refine V.mkStruct T_ok zero47 rfl rfl rfl rfl rfl ?_
        refine V.call (jset_spec (n1 := x61.2.1) (n2 := x61.2.2.1) (n3 := 0) FJ1) rfl rfl rfl ?_
        rintro _ w93 ⟨rfl, F92, G94⟩
        have z95 := V.FrE.size G94
        first | replace F_xs := F_xs.mvE G94 (by intro j h hd; (try dsimp only [V.In] at h hd ⊢); first | omega | grind) | clear F_xs | skip
        first | replace Fk2 := Fk2.mvE G94 (by (try dsimp only [V.In]); first | omega | grind) | clear Fk2 | skip
        first | replace FJ1 := FJ1.mvE G94 (by intro j h hd; (try dsimp only [V.In] at h hd ⊢); first | omega | grind) | clear FJ1 | skip
        first | replace Fk41 := Fk41.mvE G94 (by (try dsimp only [V.In]); first | omega | grind) | clear Fk41 | skip
        first | replace rF75 := rF75.mvE G94 (by intro j h hd; (try dsimp only [V.In] at h hd ⊢); first | omega | grind) | clear rF75 | skip
        first | replace F64 := F64.mvE G94 (by intro j h hd; (try dsimp only [V.In] at h hd ⊢); first | omega | grind) | clear F64 | skip
        first | replace Fk67 := Fk67.mvE G94 (by (try dsimp only [V.In]); first | omega | grind) | clear Fk67 | skip
        replace HG := HG.stepE G94 (by intro i h; (try dsimp only [V.In] at h ⊢); first | omega | grind)
        clear G94
        refine V.nil ?_
        refine V.bN ?_
        refine V.tN ?_
        have hst9 := hiv.sy.setS x61.2.1 x61.2.2.1 0
        obtain ⟨lr9, hiv9⟩ := hiv.act hst9
        have hst9n := hst9.nf
        have hst9l := hst9.ll
        exact ⟨HG, (by omega), F_xs, Fk2, rF75, F64, Fk67, (_), (_), (ls), (lr9), (W), (s1), (s2), (s3), ((fun i => E1 i ∨ V.In w73.heap.size w93.heap.size i)), ra75, rc75, (hiv9), (by omega), (by omega), (by omega), ((by intro i h; (try dsimp only [V.In] at h ⊢); first | omega | grind)), ((by (try dsimp only [V.In]); first | omega | grind)), ((by (try dsimp only [V.In]); first | omega | grind)), ((by intro i h hd; (try dsimp only [V.In] at h hd ⊢); first | omega | grind)), F92, Fk41, rF75, rfl, rfl, rfl, rfl, rfl, rfl, rfl, rfl, trivial⟩
       ·
        try replace h19 := V.dec h19
        try simp only [V.mk0, V.mk1, V.mk2, V.mk3] at h19
        refine V.seq ?_
        refine V.region ?_
        refine V.run T_ok 2 rfl ?_
        refine V.nil ?_
        refine V.tN ?_
        refine V.condT rfl (fun h21 => ?_) (fun h21 => ?_)
        ·
         try replace h21 := V.dec h21
         try simp only [V.mk0, V.mk1, V.mk2, V.mk3] at h21
         refine V.seq ?_
         refine V.region ?_
         refine V.run T_ok 1 rfl ?_
         refine V.call (jsync_spec FJ1) rfl rfl rfl ?_
         rintro _ w97 ⟨rfl, F96, G98⟩
         have z99 := V.FrE.size G98
         first | replace F_xs := F_xs.mvE G98 (by intro j h hd; (try dsimp only [V.In] at h hd ⊢); first | omega | grind) | clear F_xs | skip
         first | replace Fk2 := Fk2.mvE G98 (by (try dsimp only [V.In]); first | omega | grind) | clear Fk2 | skip
         first | replace FJ1 := FJ1.mvE G98 (by intro j h hd; (try dsimp only [V.In] at h hd ⊢); first | omega | grind) | clear FJ1 | skip
         first | replace Fk41 := Fk41.mvE G98 (by (try dsimp only [V.In]); first | omega | grind) | clear Fk41 | skip
         first | replace rF75 := rF75.mvE G98 (by intro j h hd; (try dsimp only [V.In] at h hd ⊢); first | omega | grind) | clear rF75 | skip
         first | replace F64 := F64.mvE G98 (by intro j h hd; (try dsimp only [V.In] at h hd ⊢); first | omega | grind) | clear F64 | skip
         first | replace Fk67 := Fk67.mvE G98 (by (try dsimp only [V.In]); first | omega | grind) | clear Fk67 | skip
         replace HG := HG.stepE G98 (by intro i h; (try dsimp only [V.In] at h ⊢); first | omega | grind)
         clear G98
         refine V.nil ?_
         refine V.tN ?_
         refine V.seq ?_
         refine V.region ?_
         refine V.run T_ok 1 rfl ?_
         refine V.nil ?_
         refine V.tN ?_
         refine V.region ?_
         refine V.run T_ok 1 rfl ?_
         refine V.call (jhard_spec_j F96) rfl rfl rfl ?_
         rintro _ w100 ⟨rfl, G101⟩
         have z102 := V.Fr.size G101
         try replace F_xs := F_xs.gr G101
         try replace Fk2 := Fk2.gr G101
         try replace Fk41 := Fk41.gr G101
         try replace rF75 := rF75.gr G101
         try replace F64 := F64.gr G101
         try replace Fk67 := Fk67.gr G101
         try replace F96 := F96.gr G101
         replace HG := HG.grow G101
         clear G101
         refine V.storeO Fk41 rfl rfl rfl rfl sz47 rfl rfl rfl rfl ?_
         rintro w103 G104 z106 Fs105
         clear Fk41
         have z107 := V.Fr.size G104
         try replace F_xs := F_xs.mb G104 hD_xs
         try replace Fk2 := Fk2.ma G104
         first | replace rF75 := rF75.mv1 G104 (by (try dsimp only [V.In]); first | omega | grind) | clear rF75 | skip
         try replace F64 := F64.mb G104 hD_xs
         try replace Fk67 := Fk67.ma G104
         first | replace F96 := F96.mv1 G104 (by (try dsimp only [V.In]); first | omega | grind) | clear F96 | skip
         replace HG := HG.n1 G104
         clear G104
         have Fk41 := Fs105; clear Fs105
         simp only [V.spliceL, V.cellsL] at Fk41
         refine V.nil ?_
         refine V.bN ?_
         refine V.tN ?_
         exact ⟨HG, (by omega), F_xs, Fk2, rF75, F64, Fk67, (jv), (dSync dv), (ls ++ lr), ([]), ([]), (jv.t), (jv.v), (jv.b), ((fun i => E1 i ∨ V.In w73.heap.size w97.heap.size i)), none, 0, (hiv.sync), ((by show dv.nf.length ≤ _; omega)), (by omega), ((Nat.zero_le _)), ((by intro i h; (try dsimp only [V.In] at h ⊢); first | omega | grind)), ((by (try dsimp only [V.In]); first | omega | grind)), ((by (try dsimp only [V.In]); first | omega | grind)), ((by intro i h hd; (try dsimp only [V.In] at h hd ⊢); first | omega | grind)), F96, Fk41, V.RowE.nil, rfl, rfl, rfl, rfl, rfl, rfl, rfl, rfl, trivial⟩
        ·
         try replace h21 := V.dec h21
         try simp only [V.mk0, V.mk1, V.mk2, V.mk3] at h21
         refine V.skip ?_
         refine V.bN ?_
         refine V.tN ?_
         have hst9 := hiv.sy.none
         obtain ⟨lr9, hiv9⟩ := hiv.act hst9
         have hst9n := hst9.nf
         have hst9l := hst9.ll
         exact ⟨HG, (by omega), F_xs, Fk2, rF75, F64, Fk67, (_), (_), (ls), (lr9), (W), (s1), (s2), (s3), (E1), ra75, rc75, (hiv9), (by omega), (by omega), (by omega), ((by intro i h; (try dsimp only [V.In] at h ⊢); first | omega | grind)), ((by (try dsimp only [V.In]); first | omega | grind)), ((by (try dsimp only [V.In]); first | omega | grind)), ((by intro i h hd; (try dsimp only [V.In] at h hd ⊢); first | omega | grind)), FJ1, Fk41, rF75, rfl, rfl, rfl, rfl, rfl, rfl, rfl, rfl, trivial⟩
   clear HG F_xs Fk2 rF75 F64 Fk67 FJ1 Fk41
   rintro e v79 ⟨HG, z108, F_xs, Fk2, rF75, F64, Fk67, jv2, dv2, ls2, lr2, Wb, s4, s5, s6, E3, ra76, rc76, hiv2, hnf2, hjl2, hwb, hE3, hE31, hE32, hEW3, FJ1, Fk41, rF76, hjn78_0, hjn78_1, hjn78_5, hjn78_7, hjn78_8, hjn78_10, hjn78_11, hjn78_12, -⟩
   refine V.knownC (t := 0) hjn78_0 ?_
   refine V.knownC (t := 1) hjn78_1 ?_
   refine V.knownC (t := 5) hjn78_5 ?_
   refine V.knownC (t := 7) hjn78_7 ?_
   refine V.knownC (t := 8) hjn78_8 ?_
   refine V.knownC (t := 10) hjn78_10 ?_
   refine V.knownC (t := 11) hjn78_11 ?_
   refine V.knownC (t := 12) hjn78_12 ?_
   have hEl3 := FJ1.lt
   refine V.region ?_
   refine V.run T_ok 2 rfl ?_
   refine V.call (seen_j FJ1) rfl rfl rfl ?_
   rintro _ w112 ⟨a109, c110, rfl, F111, G113⟩
   have z114 := V.Fr.size G113
   try replace F_xs := F_xs.gr G113
   try replace Fk2 := Fk2.gr G113
   try replace FJ1 := FJ1.gr G113
   try replace Fk41 := Fk41.gr G113
   try replace rF75 := rF75.gr G113
   try replace F64 := F64.gr G113
   try replace Fk67 := Fk67.gr G113
   try replace rF76 := rF76.gr G113
   replace HG := HG.grow G113
   clear G113
   refine V.mkSlice T_ok zero56 rfl rfl sz56 rfl rfl rfl rfl rfl rfl ?_
   rintro k115 w118 s120 s121 G119 Fk116
   have z122 := V.Fr.size G119
   try replace F_xs := F_xs.gr G119
   try replace Fk2 := Fk2.gr G119
   try replace FJ1 := FJ1.gr G119
   try replace Fk41 := Fk41.gr G119
   try replace rF75 := rF75.gr G119
   try replace F64 := F64.gr G119
   try replace Fk67 := Fk67.gr G119
   try replace rF76 := rF76.gr G119
   try replace F111 := F111.gr G119
   replace HG := HG.grow G119
   clear G119
   have F117 : V.Row (V.Cod.pair (V.Cod.int .i64) (V.Cod.pair V.Cod.str V.Cod.byte.sl.sl)) 56 w118 V.None' v79.heap.size (k115 + 1) (some ⟨k115, 0, none⟩) ([(jv2.base, V.S jv2.data, jv2.l)] : List WV).length ([(jv2.base, V.S jv2.data, jv2.l)] : List WV) := V.Row.ofCells2 Fk116 (V.reps_cons (x := (jv2.base, V.S jv2.data, jv2.l)) ⟨_, _, rfl, rfl, ⟨_, _, rfl, rfl, ⟨_, _, rfl, F111.sl⟩⟩⟩ rfl rfl) (fun h => by have := h.2; omega) (fun j h => ⟨by have := h.1; omega, by have := h.2; omega⟩) (by omega) (by omega) (by simp [maxLen])
   clear Fk116
   refine V.appendZ rF76 (F117.sl.from Try.underlying58) elT58_58 rfl rfl rfl rfl rfl (by first | omega | (simp only [List.length_take, List.length_drop, List.length_append, List.length_cons, List.length_nil, List.length_replicate, List.length_set, V.length_data, V.S_size]; omega)) (by unfold maxLen; first | omega | (simp only [List.length_take, List.length_drop, List.length_append, List.length_cons, List.length_nil, List.length_replicate, List.length_set, V.length_data, V.S_size]; omega)) (by intro k h; (try dsimp only [V.In] at h ⊢); first | omega | grind) (fun _ h => h.elim) (by intro k h; (try dsimp only [V.In] at h ⊢); first | omega | grind) ?_
   rintro a123 c124 w126 G127 s128 F125
   clear rF76
   have z129 := V.FrE.size G127
   first | replace F_xs := F_xs.mvE G127 (by intro j h hd; (try dsimp only [V.In] at h hd ⊢); first | omega | grind) | clear F_xs | skip
   first | replace Fk2 := Fk2.mvE G127 (by (try dsimp only [V.In]); first | omega | grind) | clear Fk2 | skip
   first | replace FJ1 := FJ1.mvE G127 (by intro j h hd; (try dsimp only [V.In] at h hd ⊢); first | omega | grind) | clear FJ1 | skip
   first | replace Fk41 := Fk41.mvE G127 (by (try dsimp only [V.In]); first | omega | grind) | clear Fk41 | skip
   first | replace rF75 := rF75.mvE G127 (by intro j h hd; (try dsimp only [V.In] at h hd ⊢); first | omega | grind) | clear rF75 | skip
   first | replace F64 := F64.mvE G127 (by intro j h hd; (try dsimp only [V.In] at h hd ⊢); first | omega | grind) | clear F64 | skip
   first | replace Fk67 := Fk67.mvE G127 (by (try dsimp only [V.In]); first | omega | grind) | clear Fk67 | skip
   first | replace F111 := F111.mvE G127 (by intro j h; refine ⟨fun hd => ?_, fun hd => ?_⟩ <;> first | exact hd.elim | (try dsimp only [V.In] at h hd ⊢); first | omega | grind) | clear F111 | skip
   first | replace F117 := F117.mvE G127 (by intro j h; refine ⟨fun hd => ?_, fun hd => ?_⟩ <;> first | exact hd.elim | (try dsimp only [V.In] at h hd ⊢); first | omega | grind) | clear F117 | skip
   replace HG := HG.stepE G127 (by intro i h; (try dsimp only [V.In] at h ⊢); first | omega | grind)
   clear G127
   replace F125 := F125.mono2 (B' := V.None') (E' := (fun j => EW j ∨ V.In v79.heap.size w126.heap.size j)) (by intro k h; (first | exact (h.elim (fun h => h.elim) (fun h => h.elim)) | ((try dsimp only [V.In] at h ⊢); first | omega | grind))) (by intro k h; (try dsimp only [V.In] at h ⊢); first | omega | grind)
   refine V.run T_ok 1 rfl ?_
   refine V.nil ?_
   refine V.bN ?_
   refine V.tN ?_
   refine V.region ?_
   refine V.run T_ok 1 rfl ?_
   refine V.addN rfl rfl rfl rfl rfl (by first | omega | (simp only [List.length_take, List.length_drop, List.length_append, List.length_cons, List.length_nil, List.length_replicate, List.length_set, V.length_data, V.S_size]; omega)) (by first | omega | (simp only [List.length_take, List.length_drop, List.length_append, List.length_cons, List.length_nil, List.length_replicate, List.length_set, V.length_data, V.S_size]; omega)) ?_
   refine V.run T_ok 1 rfl ?_
   refine V.nil ?_
   refine V.tN ?_
   exact ⟨_, (by omega), HG, (by omega), F_xs, Fk2, (i + 1), (jv2), (dv2), (ls2), (lr2), (Wb ++ ([(jv2.base, V.S jv2.data, jv2.l)] : List WV)), (s4), (s5), (s6), (E3), ((fun j => EW j ∨ V.In v79.heap.size w126.heap.size j)), a123, c124, rfl, (by omega), (by omega), (hiv2), (by omega), (by omega), ((by rw [List.length_append]; simp only [List.length_cons, List.length_nil]; omega)), (hE3), (hE31), (hE32), ((by intro i h hd; (try dsimp only [V.In] at h hd ⊢); first | omega | grind)), ((by intro i h; constructor <;> ((try dsimp only [V.In] at h ⊢); first | omega | grind))), ((by (try dsimp only [V.In]); first | omega | grind)), ((by (try dsimp only [V.In]); first | omega | grind)), F125, FJ1, Fk41, rfl, rfl, rfl, rfl, rfl, rfl, rfl, rfl⟩
 ·
  try replace h8 := V.dec h8
  try simp only [V.mk0, V.mk1, V.mk2, V.mk3] at h8
  refine V.exit ?_
  refine V.tX ?_
  refine V.tX ?_
  refine V.bE ?_
  refine V.tN ?_
  refine V.seq ?_
  cases b1
  ·
   obtain ⟨t1, t2, t3, j2, nn, hh9, hr9, hmem, hj1, hj2, hj3⟩ := hiv.crash keep b0 false
   have hnf9 := hiv.nfc keep b0 false
   refine V.region ?_
   refine V.run T_ok 2 rfl ?_
   refine V.elemP T_ok rfl rfl rfl rfl rfl rfl (by first | omega | decide) (by first | omega | decide) ?_
   refine V.loadO T_ok Fk2 rfl rfl rfl rfl rfl ?_
   refine V.elemP T_ok rfl rfl rfl rfl rfl rfl (by first | omega | decide) (by first | omega | decide) ?_
   refine V.loadO T_ok Fk2 rfl rfl rfl rfl rfl ?_
   refine V.call (jd_crash (keep := keep) (torn := b0) (cell := false) FJ1) rfl rfl rfl ?_
   rintro _ w133 ⟨k130, rfl, ⟨h131l, h131u⟩, F132, G134⟩
   have z135 := V.Fr.size G134
   try replace F_xs := F_xs.gr G134
   try replace Fk2 := Fk2.gr G134
   try replace FJ1 := FJ1.gr G134
   try replace Fk41 := Fk41.gr G134
   try replace rF75 := rF75.gr G134
   replace HG := HG.grow G134
   clear G134
   refine V.call (open_some F132 hh9 hr9 (by omega)) rfl rfl rfl ?_
   rintro _ w139 ⟨k136, rfl, ⟨h137l, h137u⟩, F138, G140⟩
   have z141 := V.Fr.size G140
   try replace F_xs := F_xs.mb G140 hD_xs
   try replace Fk2 := Fk2.ma G140
   first | replace FJ1 := FJ1.mv1 G140 (by (try dsimp only [V.In]); first | omega | grind) | clear FJ1 | skip
   try replace Fk41 := Fk41.ma G140
   first | replace rF75 := rF75.mv1 G140 (by (try dsimp only [V.In]); first | omega | grind) | clear rF75 | skip
   first | replace F132 := F132.mv1 G140 (by (try dsimp only [V.In]); first | omega | grind) | clear F132 | skip
   replace HG := HG.n1 G140
   clear G140
   refine V.run T_ok 5 rfl ?_
   refine V.nil ?_
   refine V.tN ?_
   refine V.seq ?_
   refine V.seq ?_
   refine V.region ?_
   refine V.run T_ok 6 rfl ?_
   refine V.nil ?_
   refine V.tN ?_
   refine V.condN rfl rfl ?_
   refine V.skip ?_
   refine V.tN ?_
   refine V.seq ?_
   refine V.region ?_
   refine V.run T_ok 1 rfl ?_
   refine V.call (seen_j F138) rfl rfl rfl ?_
   rintro _ w145 ⟨a142, c143, rfl, F144, G146⟩
   have z147 := V.Fr.size G146
   try replace F_xs := F_xs.gr G146
   try replace Fk2 := Fk2.gr G146
   try replace FJ1 := FJ1.gr G146
   try replace Fk41 := Fk41.gr G146
   try replace rF75 := rF75.gr G146
   try replace F138 := F138.gr G146
   replace HG := HG.grow G146
   clear G146
   refine V.alloc zero56 rfl rfl rfl ?_
   rintro k148 w150 s152 s153 G151 Fk149
   have z154 := V.Fr.size G151
   try replace F_xs := F_xs.gr G151
   try replace Fk2 := Fk2.gr G151
   try replace FJ1 := FJ1.gr G151
   try replace Fk41 := Fk41.gr G151
   try replace rF75 := rF75.gr G151
   try replace F138 := F138.gr G151
   try replace F144 := F144.gr G151
   replace HG := HG.grow G151
   clear G151
   try simp only [V.cellsL, V.spliceL] at Fk149
   refine V.storeO Fk149 rfl rfl rfl rfl sz56 rfl rfl rfl rfl ?_
   rintro w155 G156 z158 Fs157
   clear Fk149
   have z159 := V.Fr.size G156
   try replace F_xs := F_xs.mb G156 hD_xs
   try replace Fk2 := Fk2.ma G156
   first | replace FJ1 := FJ1.mv1 G156 (by (try dsimp only [V.In]); first | omega | grind) | clear FJ1 | skip
   try replace Fk41 := Fk41.ma G156
   first | replace rF75 := rF75.mv1 G156 (by (try dsimp only [V.In]); first | omega | grind) | clear rF75 | skip
   first | replace F138 := F138.mv1 G156 (by (try dsimp only [V.In]); first | omega | grind) | clear F138 | skip
   try replace F144 := F144.ma G156
   replace HG := HG.n1 G156
   clear G156
   have Fk149 := Fs157; clear Fs157
   simp only [V.spliceL, V.cellsL] at Fk149
   refine V.nil ?_
   refine V.tN ?_
   refine V.seq ?_
   refine V.region ?_
   refine V.run T_ok 1 rfl ?_
   refine V.nil ?_
   refine V.tN ?_
   refine V.seq ?_
   refine V.seq ?_
   refine V.region ?_
   refine V.run T_ok 1 rfl ?_
   refine V.nil ?_
   refine V.tN ?_
   refine V.block ?_
   have hW63 : W.length ≤ 61 := by omega
   refine V.loopM (fun m e v161 => Fr [] w v161 ∧ w155.heap.size ≤ v161.heap.size ∧ Sl (V.Cod.pair (V.Cod.int .i64) (V.Cod.pair (V.Cod.int .i64) (V.Cod.pair (V.Cod.int .i64) (V.Cod.pair V.Cod.byte.sl (V.Cod.pair V.Cod.bool V.Cod.bool))))) v161 D_xs a_xs c_xs xs ∧ Cells v161 k1 [.bool b0, .bool false] 53 ∧ Jst v161 k14 k8 E1 jv dv ∧ Cells v161 k40 [.int .i64 s1, .int .i64 s2, .int .i64 s3] 47 ∧ V.RowE (V.Cod.pair (V.Cod.int .i64) (V.Cod.pair V.Cod.str V.Cod.byte.sl.sl)) 56 v161 V.None' EW ra75 rc75 W ∧ Jst v161 k136 k130 (fun i => ((fun i => V.In v53.heap.size w133.heap.size i ∧ i ≠ k130) i ∨ i = k130) ∨ V.In w133.heap.size w139.heap.size i) j2 (openD (dCrash dv keep b0 false) nn) ∧ V.Row V.Cod.byte.sl 22 v161 V.None' w139.heap.size w145.heap.size a142 c143 j2.l ∧ Cells v161 k148 [.int .i64 j2.base, .string (V.S j2.data), .slice a142 j2.l.length c143] 56 ∧ ∃ (n : Nat) , m = W.length - n ∧ n ≤ W.length ∧ e 5 = .pointer (some ⟨k1, 0, none⟩) ∧ e 8 = .pointer (some ⟨k14, 0, none⟩) ∧ e 10 = .slice ra75 W.length rc75 ∧ e 11 = .pointer (some ⟨k40, 0, none⟩) ∧ e 14 = .pointer (some ⟨k136, 0, none⟩) ∧ e 16 = .pointer (some ⟨k148, 0, none⟩) ∧ e 17 = .bool ((W.take n).any (wp j2)) ∧ e 18 = .int .i64 (n : Int)) ?_ ?_
   ·
    exact ⟨_, HG, (by omega), F_xs, Fk2, FJ1, Fk41, rF75, F138, F144, Fk149, (0), rfl, (Nat.zero_le _), rfl, rfl, rfl, rfl, rfl, rfl, rfl, rfl⟩
   clear HG F_xs Fk2 FJ1 Fk41 rF75 F138 F144 Fk149
   rintro _ e v161 ⟨HG, z162, F_xs, Fk2, FJ1, Fk41, rF75, F138, F144, Fk149, n, rfl, hn, he1_5, he1_8, he1_10, he1_11, he1_14, he1_16, he1_17, he1_18⟩
   refine V.knownC (t := 5) he1_5 ?_
   refine V.knownC (t := 8) he1_8 ?_
   refine V.knownC (t := 10) he1_10 ?_
   refine V.knownC (t := 11) he1_11 ?_
   refine V.knownC (t := 14) he1_14 ?_
   refine V.knownC (t := 16) he1_16 ?_
   refine V.knownC (t := 17) he1_17 ?_
   refine V.knownC (t := 18) he1_18 ?_
   refine V.seq ?_
   refine V.seq ?_
   refine V.region ?_
   refine V.run T_ok 4 rfl ?_
   refine V.nil ?_
   refine V.tN ?_
   refine V.condT rfl (fun h32 => ?_) (fun h32 => ?_)
   ·
    try replace h32 := V.dec h32
    try simp only [V.mk0, V.mk1, V.mk2, V.mk3] at h32
    refine V.skip ?_
    refine V.tN ?_
    refine V.seq ?_
    refine V.block ?_
    refine V.drawQ mixed (by kernel_rfl) ?_
    refine V.qrun T_ok 2 rfl ?_
    refine V.qsplit (j := 1) (t := 127) rfl rfl (fun g34_1 => ?_) (fun g34_1 => ?_)
    ·
     try replace g34_1 := V.dec g34_1
     try simp only [V.mk0, V.mk1, V.mk2, V.mk3] at g34_1
     refine V.qrun T_ok 8 rfl ?_
     refine V.qnil ?_
     rintro w163 G164
     have z165 := V.Fr.size G164
     try replace F_xs := F_xs.gr G164
     try replace Fk2 := Fk2.gr G164
     try replace FJ1 := FJ1.gr G164
     try replace Fk41 := Fk41.gr G164
     try replace rF75 := rF75.gr G164
     try replace F138 := F138.gr G164
     try replace F144 := F144.gr G164
     try replace Fk149 := Fk149.gr G164
     replace HG := HG.grow G164
     clear G164
     refine V.bN ?_
     refine V.tN ?_
     refine V.region ?_
     refine V.run T_ok 1 rfl ?_
     refine V.addN rfl rfl rfl rfl rfl (by first | omega | (simp only [List.length_take, List.length_drop, List.length_append, List.length_cons, List.length_nil, List.length_replicate, List.length_set, V.length_data, V.S_size]; omega)) (by first | omega | (simp only [List.length_take, List.length_drop, List.length_append, List.length_cons, List.length_nil, List.length_replicate, List.length_set, V.length_data, V.S_size]; omega)) ?_
     refine V.run T_ok 1 rfl ?_
     refine V.nil ?_
     refine V.tN ?_
     exact ⟨_, (by omega), HG, (by omega), F_xs, Fk2, FJ1, Fk41, rF75, F138, F144, Fk149, (n + 1), rfl, (by omega), rfl, rfl, rfl, rfl, rfl, rfl, (congrArg Value.bool (by first | exact (any_keep g34_1).symm | (rw [any_next (by omega) hx, g34_1]; rfl))), rfl⟩
    ·
     try replace g34_1 := V.dec g34_1
     try simp only [V.mk0, V.mk1, V.mk2, V.mk3] at g34_1
     refine V.qrun T_ok 2 rfl ?_
     refine V.qyes rfl rfl rfl ?_
     refine V.qelem T_ok rF75.sl rfl rfl sz56 rfl rfl rfl rfl (by first | omega | (simp only [List.length_take, List.length_drop, List.length_append, List.length_cons, List.length_nil, List.length_replicate, List.length_set, V.length_data, V.S_size]; omega)) (by first | omega | (simp only [List.length_take, List.length_drop, List.length_append, List.length_cons, List.length_nil, List.length_replicate, List.length_set, V.length_data, V.S_size]; omega)) ?_
     rintro b166 o167 cs168 hx169 hb170 hR176 hA171
     obtain ⟨x172, hx172⟩ : ∃ z', W[((n : Int)).toNat] = z' := ⟨_, rfl⟩
     rw [hx172] at hR176
     obtain ⟨_, _, rfl, rfl, ⟨_, _, rfl, rfl, ⟨a173, c174, rfl, F175⟩⟩⟩ := hR176
     try simp only [Int.toNat_natCast] at hx172 hx169
     refine V.qyes rfl rfl rfl ?_
     refine V.qloadA T_ok (o0 := o167) (off := 0) hA171 rfl rfl rfl rfl rfl ?_
     refine V.qyes rfl rfl rfl ?_
     refine V.qloadO T_ok Fk149 rfl rfl rfl rfl rfl ?_
     refine V.qyes rfl rfl rfl ?_
     refine V.qcall V.clo (fun w1 g => (was_spec (b1 := x172.1) (s1 := x172.2.1) (b2 := j2.base) (s2 := (V.S j2.data)) (F175.gr g) (F144.sl.gr g))) rfl rfl rfl ?_
     refine V.qrun T_ok 2 rfl ?_
     refine V.qnil ?_
     rintro w177 G178
     have z179 := V.Fr.size G178
     try replace F_xs := F_xs.gr G178
     try replace Fk2 := Fk2.gr G178
     try replace FJ1 := FJ1.gr G178
     try replace Fk41 := Fk41.gr G178
     try replace rF75 := rF75.gr G178
     try replace F138 := F138.gr G178
     try replace F144 := F144.gr G178
     try replace Fk149 := Fk149.gr G178
     try replace F175 := F175.gr G178
     replace HG := HG.grow G178
     clear G178
     refine V.bN ?_
     refine V.tN ?_
     refine V.region ?_
     refine V.run T_ok 1 rfl ?_
     refine V.addN rfl rfl rfl rfl rfl (by first | omega | (simp only [List.length_take, List.length_drop, List.length_append, List.length_cons, List.length_nil, List.length_replicate, List.length_set, V.length_data, V.S_size]; omega)) (by first | omega | (simp only [List.length_take, List.length_drop, List.length_append, List.length_cons, List.length_nil, List.length_replicate, List.length_set, V.length_data, V.S_size]; omega)) ?_
     refine V.run T_ok 1 rfl ?_
     refine V.nil ?_
     refine V.tN ?_
     exact ⟨_, (by omega), HG, (by omega), F_xs, Fk2, FJ1, Fk41, rF75, F138, F144, Fk149, (n + 1), rfl, (by omega), rfl, rfl, rfl, rfl, rfl, rfl, (congrArg Value.bool (by first | exact (any_keep g34_1).symm | (rw [any_next (by omega) hx172, g34_1]; rfl))), rfl⟩
   ·
    try replace h32 := V.dec h32
    try simp only [V.mk0, V.mk1, V.mk2, V.mk3] at h32
    refine V.exit ?_
    refine V.tX ?_
    refine V.tX ?_
    refine V.bE ?_
    refine V.tN ?_
    refine V.seq ?_
    have hfd := any_all hmem (by omega : W.length ≤ n)
    rw [hfd]
    refine V.region ?_
    refine V.run T_ok 1 rfl ?_
    refine V.call (jhard_spec_j F138) rfl rfl rfl ?_
    rintro _ w180 ⟨rfl, G181⟩
    have z182 := V.Fr.size G181
    try replace F_xs := F_xs.gr G181
    try replace Fk2 := Fk2.gr G181
    try replace FJ1 := FJ1.gr G181
    try replace Fk41 := Fk41.gr G181
    try replace rF75 := rF75.gr G181
    try replace F138 := F138.gr G181
    try replace F144 := F144.gr G181
    try replace Fk149 := Fk149.gr G181
    replace HG := HG.grow G181
    clear G181
    refine V.alloc zero47 rfl rfl rfl ?_
    rintro k183 w185 s187 s188 G186 Fk184
    have z189 := V.Fr.size G186
    try replace F_xs := F_xs.gr G186
    try replace Fk2 := Fk2.gr G186
    try replace FJ1 := FJ1.gr G186
    try replace Fk41 := Fk41.gr G186
    try replace rF75 := rF75.gr G186
    try replace F138 := F138.gr G186
    try replace F144 := F144.gr G186
    try replace Fk149 := Fk149.gr G186
    replace HG := HG.grow G186
    clear G186
    try simp only [V.cellsL, V.spliceL] at Fk184
    refine V.storeO Fk184 rfl rfl rfl rfl sz47 rfl rfl rfl rfl ?_
    rintro w190 G191 z193 Fs192
    clear Fk184
    have z194 := V.Fr.size G191
    try replace F_xs := F_xs.mb G191 hD_xs
    try replace Fk2 := Fk2.ma G191
    first | replace FJ1 := FJ1.mv1 G191 (by (try dsimp only [V.In]); first | omega | grind) | clear FJ1 | skip
    try replace Fk41 := Fk41.ma G191
    first | replace rF75 := rF75.mv1 G191 (by (try dsimp only [V.In]); first | omega | grind) | clear rF75 | skip
    first | replace F138 := F138.mv1 G191 (by (try dsimp only [V.In]); first | omega | grind) | clear F138 | skip
    try replace F144 := F144.ma G191
    try replace Fk149 := Fk149.ma G191
    replace HG := HG.n1 G191
    clear G191
    have Fk184 := Fs192; clear Fs192
    simp only [V.spliceL, V.cellsL] at Fk184
    refine V.nil ?_
    refine V.tN ?_
    refine V.seq ?_
    refine V.drawQ mixed (by kernel_rfl) ?_
    refine V.qrun T_ok 2 rfl ?_
    refine V.qyes rfl rfl rfl ?_
    refine V.qloadO T_ok Fk184 rfl rfl rfl rfl rfl ?_
    refine V.qyes rfl rfl rfl ?_
    refine V.qloadO T_ok Fk41 rfl rfl rfl rfl rfl ?_
    refine V.qyes rfl rfl rfl ?_
    refine V.qstep rfl rfl (fun _ _ => V.eqA_run rfl rfl rfl eqG47 (eqS47 _)) ?_
    refine V.qrun T_ok 1 rfl ?_
    refine V.qsplitT (j := 5) (t := 142) rfl rfl (by simp [hj1, hj2, hj3]) ?_
    refine V.qyes rfl rfl rfl ?_
    refine V.qelemP T_ok rfl rfl rfl rfl rfl rfl (by first | omega | decide) (by first | omega | decide) ?_
    refine V.qyes rfl rfl rfl ?_
    refine V.qloadO T_ok Fk2 rfl rfl rfl rfl rfl ?_
    refine V.qrun T_ok 14 rfl ?_
    refine V.qnil ?_
    rintro w195 G196
    have z197 := V.Fr.size G196
    try replace F_xs := F_xs.gr G196
    try replace Fk2 := Fk2.gr G196
    try replace FJ1 := FJ1.gr G196
    try replace Fk41 := Fk41.gr G196
    try replace rF75 := rF75.gr G196
    try replace F138 := F138.gr G196
    try replace F144 := F144.gr G196
    try replace Fk149 := Fk149.gr G196
    try replace Fk184 := Fk184.gr G196
    replace HG := HG.grow G196
    clear G196
    refine V.tN ?_
    refine V.ret ?_
    refine V.done rfl ?_
    exact ⟨(congrArg Value.bool (by first | rfl | simp [hj1, hj2, hj3])), HG⟩
  ·
   obtain ⟨t1, t2, t3, j2, nn, hh9, hr9, hmem, hj1, hj2, hj3⟩ := hiv.crash keep b0 true
   have hnf9 := hiv.nfc keep b0 true
   refine V.region ?_
   refine V.run T_ok 2 rfl ?_
   refine V.elemP T_ok rfl rfl rfl rfl rfl rfl (by first | omega | decide) (by first | omega | decide) ?_
   refine V.loadO T_ok Fk2 rfl rfl rfl rfl rfl ?_
   refine V.elemP T_ok rfl rfl rfl rfl rfl rfl (by first | omega | decide) (by first | omega | decide) ?_
   refine V.loadO T_ok Fk2 rfl rfl rfl rfl rfl ?_
   refine V.call (jd_crash (keep := keep) (torn := b0) (cell := true) FJ1) rfl rfl rfl ?_
   rintro _ w201 ⟨k198, rfl, ⟨h199l, h199u⟩, F200, G202⟩
   have z203 := V.Fr.size G202
   try replace F_xs := F_xs.gr G202
   try replace Fk2 := Fk2.gr G202
   try replace FJ1 := FJ1.gr G202
   try replace Fk41 := Fk41.gr G202
   try replace rF75 := rF75.gr G202
   replace HG := HG.grow G202
   clear G202
   refine V.call (open_some F200 hh9 hr9 (by omega)) rfl rfl rfl ?_
   rintro _ w207 ⟨k204, rfl, ⟨h205l, h205u⟩, F206, G208⟩
   have z209 := V.Fr.size G208
   try replace F_xs := F_xs.mb G208 hD_xs
   try replace Fk2 := Fk2.ma G208
   first | replace FJ1 := FJ1.mv1 G208 (by (try dsimp only [V.In]); first | omega | grind) | clear FJ1 | skip
   try replace Fk41 := Fk41.ma G208
   first | replace rF75 := rF75.mv1 G208 (by (try dsimp only [V.In]); first | omega | grind) | clear rF75 | skip
   first | replace F200 := F200.mv1 G208 (by (try dsimp only [V.In]); first | omega | grind) | clear F200 | skip
   replace HG := HG.n1 G208
   clear G208
   refine V.run T_ok 5 rfl ?_
   refine V.nil ?_
   refine V.tN ?_
   refine V.seq ?_
   refine V.seq ?_
   refine V.region ?_
   refine V.run T_ok 6 rfl ?_
   refine V.nil ?_
   refine V.tN ?_
   refine V.condN rfl rfl ?_
   refine V.skip ?_
   refine V.tN ?_
   refine V.seq ?_
   refine V.region ?_
   refine V.run T_ok 1 rfl ?_
   refine V.call (seen_j F206) rfl rfl rfl ?_
   rintro _ w213 ⟨a210, c211, rfl, F212, G214⟩
   have z215 := V.Fr.size G214
   try replace F_xs := F_xs.gr G214
   try replace Fk2 := Fk2.gr G214
   try replace FJ1 := FJ1.gr G214
   try replace Fk41 := Fk41.gr G214
   try replace rF75 := rF75.gr G214
   try replace F206 := F206.gr G214
   replace HG := HG.grow G214
   clear G214
   refine V.alloc zero56 rfl rfl rfl ?_
   rintro k216 w218 s220 s221 G219 Fk217
   have z222 := V.Fr.size G219
   try replace F_xs := F_xs.gr G219
   try replace Fk2 := Fk2.gr G219
   try replace FJ1 := FJ1.gr G219
   try replace Fk41 := Fk41.gr G219
   try replace rF75 := rF75.gr G219
   try replace F206 := F206.gr G219
   try replace F212 := F212.gr G219
   replace HG := HG.grow G219
   clear G219
   try simp only [V.cellsL, V.spliceL] at Fk217
   refine V.storeO Fk217 rfl rfl rfl rfl sz56 rfl rfl rfl rfl ?_
   rintro w223 G224 z226 Fs225
   clear Fk217
   have z227 := V.Fr.size G224
   try replace F_xs := F_xs.mb G224 hD_xs
   try replace Fk2 := Fk2.ma G224
   first | replace FJ1 := FJ1.mv1 G224 (by (try dsimp only [V.In]); first | omega | grind) | clear FJ1 | skip
   try replace Fk41 := Fk41.ma G224
   first | replace rF75 := rF75.mv1 G224 (by (try dsimp only [V.In]); first | omega | grind) | clear rF75 | skip
   first | replace F206 := F206.mv1 G224 (by (try dsimp only [V.In]); first | omega | grind) | clear F206 | skip
   try replace F212 := F212.ma G224
   replace HG := HG.n1 G224
   clear G224
   have Fk217 := Fs225; clear Fs225
   simp only [V.spliceL, V.cellsL] at Fk217
   refine V.nil ?_
   refine V.tN ?_
   refine V.seq ?_
   refine V.region ?_
   refine V.run T_ok 1 rfl ?_
   refine V.nil ?_
   refine V.tN ?_
   refine V.seq ?_
   refine V.seq ?_
   refine V.region ?_
   refine V.run T_ok 1 rfl ?_
   refine V.nil ?_
   refine V.tN ?_
   refine V.block ?_
   have hW63 : W.length ≤ 61 := by omega
   refine V.loopM (fun m e v229 => Fr [] w v229 ∧ w223.heap.size ≤ v229.heap.size ∧ Sl (V.Cod.pair (V.Cod.int .i64) (V.Cod.pair (V.Cod.int .i64) (V.Cod.pair (V.Cod.int .i64) (V.Cod.pair V.Cod.byte.sl (V.Cod.pair V.Cod.bool V.Cod.bool))))) v229 D_xs a_xs c_xs xs ∧ Cells v229 k1 [.bool b0, .bool true] 53 ∧ Jst v229 k14 k8 E1 jv dv ∧ Cells v229 k40 [.int .i64 s1, .int .i64 s2, .int .i64 s3] 47 ∧ V.RowE (V.Cod.pair (V.Cod.int .i64) (V.Cod.pair V.Cod.str V.Cod.byte.sl.sl)) 56 v229 V.None' EW ra75 rc75 W ∧ Jst v229 k204 k198 (fun i => ((fun i => V.In v53.heap.size w201.heap.size i ∧ i ≠ k198) i ∨ i = k198) ∨ V.In w201.heap.size w207.heap.size i) j2 (openD (dCrash dv keep b0 true) nn) ∧ V.Row V.Cod.byte.sl 22 v229 V.None' w207.heap.size w213.heap.size a210 c211 j2.l ∧ Cells v229 k216 [.int .i64 j2.base, .string (V.S j2.data), .slice a210 j2.l.length c211] 56 ∧ ∃ (n : Nat) , m = W.length - n ∧ n ≤ W.length ∧ e 5 = .pointer (some ⟨k1, 0, none⟩) ∧ e 8 = .pointer (some ⟨k14, 0, none⟩) ∧ e 10 = .slice ra75 W.length rc75 ∧ e 11 = .pointer (some ⟨k40, 0, none⟩) ∧ e 14 = .pointer (some ⟨k204, 0, none⟩) ∧ e 16 = .pointer (some ⟨k216, 0, none⟩) ∧ e 17 = .bool ((W.take n).any (wp j2)) ∧ e 18 = .int .i64 (n : Int)) ?_ ?_
   ·
    exact ⟨_, HG, (by omega), F_xs, Fk2, FJ1, Fk41, rF75, F206, F212, Fk217, (0), rfl, (Nat.zero_le _), rfl, rfl, rfl, rfl, rfl, rfl, rfl, rfl⟩
   clear HG F_xs Fk2 FJ1 Fk41 rF75 F206 F212 Fk217
   rintro _ e v229 ⟨HG, z230, F_xs, Fk2, FJ1, Fk41, rF75, F206, F212, Fk217, n, rfl, hn, he1_5, he1_8, he1_10, he1_11, he1_14, he1_16, he1_17, he1_18⟩
   refine V.knownC (t := 5) he1_5 ?_
   refine V.knownC (t := 8) he1_8 ?_
   refine V.knownC (t := 10) he1_10 ?_
   refine V.knownC (t := 11) he1_11 ?_
   refine V.knownC (t := 14) he1_14 ?_
   refine V.knownC (t := 16) he1_16 ?_
   refine V.knownC (t := 17) he1_17 ?_
   refine V.knownC (t := 18) he1_18 ?_
   refine V.seq ?_
   refine V.seq ?_
   refine V.region ?_
   refine V.run T_ok 4 rfl ?_
   refine V.nil ?_
   refine V.tN ?_
   refine V.condT rfl (fun h32 => ?_) (fun h32 => ?_)
   ·
    try replace h32 := V.dec h32
    try simp only [V.mk0, V.mk1, V.mk2, V.mk3] at h32
    refine V.skip ?_
    refine V.tN ?_
    refine V.seq ?_
    refine V.block ?_
    refine V.drawQ mixed (by kernel_rfl) ?_
    refine V.qrun T_ok 2 rfl ?_
    refine V.qsplit (j := 1) (t := 127) rfl rfl (fun g34_1 => ?_) (fun g34_1 => ?_)
    ·
     try replace g34_1 := V.dec g34_1
     try simp only [V.mk0, V.mk1, V.mk2, V.mk3] at g34_1
     refine V.qrun T_ok 8 rfl ?_
     refine V.qnil ?_
     rintro w231 G232
     have z233 := V.Fr.size G232
     try replace F_xs := F_xs.gr G232
     try replace Fk2 := Fk2.gr G232
     try replace FJ1 := FJ1.gr G232
     try replace Fk41 := Fk41.gr G232
     try replace rF75 := rF75.gr G232
     try replace F206 := F206.gr G232
     try replace F212 := F212.gr G232
     try replace Fk217 := Fk217.gr G232
     replace HG := HG.grow G232
     clear G232
     refine V.bN ?_
     refine V.tN ?_
     refine V.region ?_
     refine V.run T_ok 1 rfl ?_
     refine V.addN rfl rfl rfl rfl rfl (by first | omega | (simp only [List.length_take, List.length_drop, List.length_append, List.length_cons, List.length_nil, List.length_replicate, List.length_set, V.length_data, V.S_size]; omega)) (by first | omega | (simp only [List.length_take, List.length_drop, List.length_append, List.length_cons, List.length_nil, List.length_replicate, List.length_set, V.length_data, V.S_size]; omega)) ?_
     refine V.run T_ok 1 rfl ?_
     refine V.nil ?_
     refine V.tN ?_
     exact ⟨_, (by omega), HG, (by omega), F_xs, Fk2, FJ1, Fk41, rF75, F206, F212, Fk217, (n + 1), rfl, (by omega), rfl, rfl, rfl, rfl, rfl, rfl, (congrArg Value.bool (by first | exact (any_keep g34_1).symm | (rw [any_next (by omega) hx, g34_1]; rfl))), rfl⟩
    ·
     try replace g34_1 := V.dec g34_1
     try simp only [V.mk0, V.mk1, V.mk2, V.mk3] at g34_1
     refine V.qrun T_ok 2 rfl ?_
     refine V.qyes rfl rfl rfl ?_
     refine V.qelem T_ok rF75.sl rfl rfl sz56 rfl rfl rfl rfl (by first | omega | (simp only [List.length_take, List.length_drop, List.length_append, List.length_cons, List.length_nil, List.length_replicate, List.length_set, V.length_data, V.S_size]; omega)) (by first | omega | (simp only [List.length_take, List.length_drop, List.length_append, List.length_cons, List.length_nil, List.length_replicate, List.length_set, V.length_data, V.S_size]; omega)) ?_
     rintro b234 o235 cs236 hx237 hb238 hR244 hA239
     obtain ⟨x240, hx240⟩ : ∃ z', W[((n : Int)).toNat] = z' := ⟨_, rfl⟩
     rw [hx240] at hR244
     obtain ⟨_, _, rfl, rfl, ⟨_, _, rfl, rfl, ⟨a241, c242, rfl, F243⟩⟩⟩ := hR244
     try simp only [Int.toNat_natCast] at hx240 hx237
     refine V.qyes rfl rfl rfl ?_
     refine V.qloadA T_ok (o0 := o235) (off := 0) hA239 rfl rfl rfl rfl rfl ?_
     refine V.qyes rfl rfl rfl ?_
     refine V.qloadO T_ok Fk217 rfl rfl rfl rfl rfl ?_
     refine V.qyes rfl rfl rfl ?_
     refine V.qcall V.clo (fun w1 g => (was_spec (b1 := x240.1) (s1 := x240.2.1) (b2 := j2.base) (s2 := (V.S j2.data)) (F243.gr g) (F212.sl.gr g))) rfl rfl rfl ?_
     refine V.qrun T_ok 2 rfl ?_
     refine V.qnil ?_
     rintro w245 G246
     have z247 := V.Fr.size G246
     try replace F_xs := F_xs.gr G246
     try replace Fk2 := Fk2.gr G246
     try replace FJ1 := FJ1.gr G246
     try replace Fk41 := Fk41.gr G246
     try replace rF75 := rF75.gr G246
     try replace F206 := F206.gr G246
     try replace F212 := F212.gr G246
     try replace Fk217 := Fk217.gr G246
     try replace F243 := F243.gr G246
     replace HG := HG.grow G246
     clear G246
     refine V.bN ?_
     refine V.tN ?_
     refine V.region ?_
     refine V.run T_ok 1 rfl ?_
     refine V.addN rfl rfl rfl rfl rfl (by first | omega | (simp only [List.length_take, List.length_drop, List.length_append, List.length_cons, List.length_nil, List.length_replicate, List.length_set, V.length_data, V.S_size]; omega)) (by first | omega | (simp only [List.length_take, List.length_drop, List.length_append, List.length_cons, List.length_nil, List.length_replicate, List.length_set, V.length_data, V.S_size]; omega)) ?_
     refine V.run T_ok 1 rfl ?_
     refine V.nil ?_
     refine V.tN ?_
     exact ⟨_, (by omega), HG, (by omega), F_xs, Fk2, FJ1, Fk41, rF75, F206, F212, Fk217, (n + 1), rfl, (by omega), rfl, rfl, rfl, rfl, rfl, rfl, (congrArg Value.bool (by first | exact (any_keep g34_1).symm | (rw [any_next (by omega) hx240, g34_1]; rfl))), rfl⟩
   ·
    try replace h32 := V.dec h32
    try simp only [V.mk0, V.mk1, V.mk2, V.mk3] at h32
    refine V.exit ?_
    refine V.tX ?_
    refine V.tX ?_
    refine V.bE ?_
    refine V.tN ?_
    refine V.seq ?_
    have hfd := any_all hmem (by omega : W.length ≤ n)
    rw [hfd]
    refine V.region ?_
    refine V.run T_ok 1 rfl ?_
    refine V.call (jhard_spec_j F206) rfl rfl rfl ?_
    rintro _ w248 ⟨rfl, G249⟩
    have z250 := V.Fr.size G249
    try replace F_xs := F_xs.gr G249
    try replace Fk2 := Fk2.gr G249
    try replace FJ1 := FJ1.gr G249
    try replace Fk41 := Fk41.gr G249
    try replace rF75 := rF75.gr G249
    try replace F206 := F206.gr G249
    try replace F212 := F212.gr G249
    try replace Fk217 := Fk217.gr G249
    replace HG := HG.grow G249
    clear G249
    refine V.alloc zero47 rfl rfl rfl ?_
    rintro k251 w253 s255 s256 G254 Fk252
    have z257 := V.Fr.size G254
    try replace F_xs := F_xs.gr G254
    try replace Fk2 := Fk2.gr G254
    try replace FJ1 := FJ1.gr G254
    try replace Fk41 := Fk41.gr G254
    try replace rF75 := rF75.gr G254
    try replace F206 := F206.gr G254
    try replace F212 := F212.gr G254
    try replace Fk217 := Fk217.gr G254
    replace HG := HG.grow G254
    clear G254
    try simp only [V.cellsL, V.spliceL] at Fk252
    refine V.storeO Fk252 rfl rfl rfl rfl sz47 rfl rfl rfl rfl ?_
    rintro w258 G259 z261 Fs260
    clear Fk252
    have z262 := V.Fr.size G259
    try replace F_xs := F_xs.mb G259 hD_xs
    try replace Fk2 := Fk2.ma G259
    first | replace FJ1 := FJ1.mv1 G259 (by (try dsimp only [V.In]); first | omega | grind) | clear FJ1 | skip
    try replace Fk41 := Fk41.ma G259
    first | replace rF75 := rF75.mv1 G259 (by (try dsimp only [V.In]); first | omega | grind) | clear rF75 | skip
    first | replace F206 := F206.mv1 G259 (by (try dsimp only [V.In]); first | omega | grind) | clear F206 | skip
    try replace F212 := F212.ma G259
    try replace Fk217 := Fk217.ma G259
    replace HG := HG.n1 G259
    clear G259
    have Fk252 := Fs260; clear Fs260
    simp only [V.spliceL, V.cellsL] at Fk252
    refine V.nil ?_
    refine V.tN ?_
    refine V.seq ?_
    refine V.drawQ mixed (by kernel_rfl) ?_
    refine V.qrun T_ok 2 rfl ?_
    refine V.qyes rfl rfl rfl ?_
    refine V.qloadO T_ok Fk252 rfl rfl rfl rfl rfl ?_
    refine V.qyes rfl rfl rfl ?_
    refine V.qloadO T_ok Fk41 rfl rfl rfl rfl rfl ?_
    refine V.qyes rfl rfl rfl ?_
    refine V.qstep rfl rfl (fun _ _ => V.eqA_run rfl rfl rfl eqG47 (eqS47 _)) ?_
    refine V.qrun T_ok 1 rfl ?_
    refine V.qsplit (j := 5) (t := 142) rfl rfl (fun g36_5 => ?_) (fun g36_5 => ?_)
    ·
     try replace g36_5 := V.dec g36_5
     try simp only [V.mk0, V.mk1, V.mk2, V.mk3] at g36_5
     refine V.qyes rfl rfl rfl ?_
     refine V.qelemP T_ok rfl rfl rfl rfl rfl rfl (by first | omega | decide) (by first | omega | decide) ?_
     refine V.qyes rfl rfl rfl ?_
     refine V.qloadO T_ok Fk2 rfl rfl rfl rfl rfl ?_
     refine V.qrun T_ok 3 rfl ?_
     refine V.qyes rfl rfl rfl ?_
     refine V.qloadO T_ok Fk252 rfl rfl rfl rfl rfl ?_
     refine V.qrun T_ok 1 rfl ?_
     refine V.qyes rfl rfl rfl ?_
     refine V.qcall V.clo (fun w1 g => (jhard_spec_j (FJ1.gr g))) rfl rfl rfl ?_
     refine V.qyes rfl rfl rfl ?_
     refine V.qstep rfl rfl (fun _ _ => V.eqA_run rfl rfl rfl eqG47 (eqS47 _)) ?_
     refine V.qrun T_ok 1 rfl ?_
     refine V.qsplitT (j := 15) (t := 152) rfl rfl (by simp [hj1, hj2, hj3]) ?_
     refine V.qyes rfl rfl rfl ?_
     refine V.qelemP T_ok rfl rfl rfl rfl rfl rfl (by first | omega | decide) (by first | omega | decide) ?_
     refine V.qyes rfl rfl rfl ?_
     refine V.qloadO T_ok Fk2 rfl rfl rfl rfl rfl ?_
     refine V.qrun T_ok 4 rfl ?_
     refine V.qnil ?_
     rintro w263 G264
     have z265 := V.Fr.size G264
     try replace F_xs := F_xs.gr G264
     try replace Fk2 := Fk2.gr G264
     try replace FJ1 := FJ1.gr G264
     try replace Fk41 := Fk41.gr G264
     try replace rF75 := rF75.gr G264
     try replace F206 := F206.gr G264
     try replace F212 := F212.gr G264
     try replace Fk217 := Fk217.gr G264
     try replace Fk252 := Fk252.gr G264
     replace HG := HG.grow G264
     clear G264
     refine V.tN ?_
     refine V.ret ?_
     refine V.done rfl ?_
     exact ⟨(congrArg Value.bool (by first | rfl | simp [hj1, hj2, hj3])), HG⟩
    ·
     try replace g36_5 := V.dec g36_5
     try simp only [V.mk0, V.mk1, V.mk2, V.mk3] at g36_5
     refine V.qrun T_ok 5 rfl ?_
     refine V.qyes rfl rfl rfl ?_
     refine V.qloadO T_ok Fk252 rfl rfl rfl rfl rfl ?_
     refine V.qrun T_ok 1 rfl ?_
     refine V.qyes rfl rfl rfl ?_
     refine V.qcall V.clo (fun w1 g => (jhard_spec_j (FJ1.gr g))) rfl rfl rfl ?_
     refine V.qyes rfl rfl rfl ?_
     refine V.qstep rfl rfl (fun _ _ => V.eqA_run rfl rfl rfl eqG47 (eqS47 _)) ?_
     refine V.qrun T_ok 1 rfl ?_
     refine V.qsplitT (j := 15) (t := 152) rfl rfl (by simp [hj1, hj2, hj3]) ?_
     refine V.qyes rfl rfl rfl ?_
     refine V.qelemP T_ok rfl rfl rfl rfl rfl rfl (by first | omega | decide) (by first | omega | decide) ?_
     refine V.qyes rfl rfl rfl ?_
     refine V.qloadO T_ok Fk2 rfl rfl rfl rfl rfl ?_
     refine V.qrun T_ok 4 rfl ?_
     refine V.qnil ?_
     rintro w266 G267
     have z268 := V.Fr.size G267
     try replace F_xs := F_xs.gr G267
     try replace Fk2 := Fk2.gr G267
     try replace FJ1 := FJ1.gr G267
     try replace Fk41 := Fk41.gr G267
     try replace rF75 := rF75.gr G267
     try replace F206 := F206.gr G267
     try replace F212 := F212.gr G267
     try replace Fk217 := Fk217.gr G267
     try replace Fk252 := Fk252.gr G267
     replace HG := HG.grow G267
     clear G267
     refine V.tN ?_
     refine V.ret ?_
     refine V.done rfl ?_
     exact ⟨(congrArg Value.bool (by first | rfl | simp [hj1, hj2, hj3])), HG⟩

end Go.Proofs.Ytnbijpijbhkcpaa
