/- Proved here: walks: what functions of this seat's program return and what they leave of memory, each as a contract. Conditions: stated at each theorem. -/
import Derived.Test.YtnbijpijbhkcpaaMjn2
namespace Go.Proofs.Ytnbijpijbhkcpaa
set_option linter.unusedVariables false
set_option linter.unusedSimpArgs false
open Go
open V (Bytes Meets Env Sl Own Gr Fr Cells S)
/-! ### Opening -/
def lsum : List (List UInt8) → Nat
  | [] => 0
  | x :: l => 8 + x.length + lsum l
theorem scan_sum (b : List UInt8) : lsum (scanB b).1 ≤ b.length := by
  cases h : firstB b with
  | none => rw [scanB_none h]; exact Nat.zero_le _
  | some x =>
    have h1 := firstB_len h
    have h2 := scan_sum (b.drop (8 + x.length))
    rw [List.length_drop] at h2
    rw [scanB_some h]
    show 8 + x.length + lsum (scanB (b.drop (8 + x.length))).1 ≤ _
    omega
termination_by b.length
decreasing_by (have := firstB_len h; simp only [List.length_drop]; omega)
theorem drop_cons {l : List (List UInt8)} {i : Nat} {x : List UInt8} (hi : i < l.length) (hx : l[i] = x) : l.drop i = x :: l.drop (i + 1) := by
  subst hx; exact List.drop_eq_getElem_cons hi
theorem lsum_at {l : List (List UInt8)} {i : Nat} {x : List UInt8} (hi : i < l.length) (hx : l[i] = x) : lsum (l.drop i) = 8 + x.length + lsum (l.drop (i + 1)) := by
  rw [drop_cons hi hx]; rfl
theorem run_step {j0 jr : JV} {l : List (List UInt8)} {n i : Nat} {x : List UInt8} (h : runV j0 l = ((runV jr (l.drop i)).1, n + (runV jr (l.drop i)).2)) (hi : i < l.length) (hx : l[i] = x) (hs : (takeV jr x).isSome = true) :
    runV j0 l = ((runV ((takeV jr x).getD jr) (l.drop (i + 1))).1, (n + (8 + x.length)) + (runV ((takeV jr x).getD jr) (l.drop (i + 1))).2) := by
  rw [h, drop_cons hi hx]
  cases ht : takeV jr x with
  | none => rw [ht] at hs; cases hs
  | some j' =>
    simp only [runV, ht, Option.getD_some]
    congr 1; omega
theorem run_stop {j0 jr : JV} {l : List (List UInt8)} {n i : Nat} {x : List UInt8} (h : runV j0 l = ((runV jr (l.drop i)).1, n + (runV jr (l.drop i)).2)) (hi : i < l.length) (hx : l[i] = x) (hs : (takeV jr x).isSome = false) : runV j0 l = (jr, n) := by
  rw [h, drop_cons hi hx]
  cases ht : takeV jr x with
  | none => simp only [runV, ht]; rfl
  | some j' => rw [ht] at hs; cases hs
theorem run_end {j0 jr : JV} {l : List (List UInt8)} {n i : Nat} (h : runV j0 l = ((runV jr (l.drop i)).1, n + (runV jr (l.drop i)).2)) (hi : l.length ≤ i) : runV j0 l = (jr, n) := by
  rw [h, List.drop_eq_nil_of_le hi]; rfl
def openD (d : DiskV) (n : Nat) : DiskV := if n < d.nf.length then dSync (dCut d n) else d

set_option maxHeartbeats 900000 in
set_option maxRecDepth 10000 in
theorem open_nil {w : World}    :
    Meets Try.prog 15 [.pointer none] w fun r w' => r = .tuple #[.pointer none, .int .i64 1] ∧ Gr w w' := by
 have HG := V.Fr.refl [] w
 refine V.enter (n := 60) Try.func15 rfl rfl (by decide) rfl ?_
 refine V.seq ?_
 refine V.region ?_
 refine V.run T_ok 2 rfl ?_
 refine V.nil ?_
 refine V.tN ?_
 refine V.seq ?_
 refine V.seq ?_
 refine V.region ?_
 refine V.run T_ok 2 rfl ?_
 refine V.nil ?_
 refine V.tN ?_
 refine V.condY rfl rfl ?_
 refine V.seq ?_
 refine V.region ?_
 refine V.run T_ok 2 rfl ?_
 refine V.nil ?_
 refine V.tN ?_
 refine V.ret ?_
 refine V.tR ?_
 refine V.done rfl ?_
 exact ⟨(by first | rfl | simp only [List.length_set]), HG⟩

set_option maxHeartbeats 900000 in
set_option maxRecDepth 10000 in
theorem open_none {w : World} {kd : Nat} {D : Nat → Prop} {dv : DiskV} (FD : Dk w kd D dv)  (hh : hardV dv.nc = none) :
    Meets Try.prog 15 [.pointer (some ⟨kd, 0, none⟩)] w fun r w' => r = .tuple #[.pointer none, .int .i64 71] ∧ Gr w w' := by
 have hDl := FD.lt
 have hnk := FD.nk
 have hkdl := FD.klt
 obtain ⟨hs0, hs1, hs2, hs3⟩ := FD.small
 have HG := V.Fr.refl [] w
 refine V.enter (n := 60) Try.func15 rfl rfl (by decide) rfl ?_
 refine V.seq ?_
 refine V.region ?_
 refine V.run T_ok 2 rfl ?_
 refine V.nil ?_
 refine V.tN ?_
 refine V.seq ?_
 refine V.seq ?_
 refine V.region ?_
 refine V.run T_ok 2 rfl ?_
 refine V.nil ?_
 refine V.tN ?_
 refine V.condN rfl rfl ?_
 refine V.skip ?_
 refine V.tN ?_
 refine V.seq ?_
 refine V.region ?_
 refine V.run T_ok 1 rfl ?_
 refine V.call (dk_cell FD) rfl rfl rfl ?_
 rintro _ w4 ⟨a1, c2, rfl, F3, G5⟩
 have z6 := V.Fr.size G5
 try replace FD := FD.gr G5
 replace HG := HG.grow G5
 clear G5
 refine V.call (hard_spec F3.sl (fun k hk => by have := hk.2; omega) (by first | omega | (simp only [List.length_take, List.length_drop, List.length_append, List.length_cons, List.length_nil, List.length_replicate, List.length_set, V.length_data, V.S_size]; omega))) rfl rfl rfl ?_
 rintro _ w11 ⟨t7, v8, b9, rfl, h10, G12⟩
 have z13 := V.Fr.size G12
 try replace FD := FD.gr G12
 try replace F3 := F3.gr G12
 replace HG := HG.grow G12
 clear G12
 refine V.run T_ok 3 rfl ?_
 refine V.alloc zero47 rfl rfl rfl ?_
 rintro k14 w16 s18 s19 G17 Fk15
 have z20 := V.Fr.size G17
 try replace FD := FD.gr G17
 try replace F3 := F3.gr G17
 replace HG := HG.grow G17
 clear G17
 try simp only [V.cellsL, V.spliceL] at Fk15
 refine V.storeO Fk15 rfl rfl rfl rfl sz47 rfl rfl rfl rfl ?_
 rintro w21 G22 z24 Fs23
 clear Fk15
 have z25 := V.Fr.size G22
 first | replace FD := FD.mv1 G22 (by (try dsimp only [V.In]); first | omega | grind) | clear FD | skip
 try replace F3 := F3.ma G22
 replace HG := HG.n1 G22
 clear G22
 have Fk15 := Fs23; clear Fs23
 simp only [V.spliceL, V.cellsL] at Fk15
 refine V.run T_ok 1 rfl ?_
 refine V.nil ?_
 refine V.tN ?_
 refine V.seq ?_
 refine V.seq ?_
 refine V.region ?_
 refine V.run T_ok 2 rfl ?_
 refine V.nil ?_
 refine V.tN ?_
 refine V.condY rfl (by rw [hh]; rfl) ?_
 refine V.seq ?_
 refine V.region ?_
 refine V.run T_ok 2 rfl ?_
 refine V.nil ?_
 refine V.tN ?_
 refine V.ret ?_
 refine V.tR ?_
 refine V.done rfl ?_
 exact ⟨(by first | rfl | simp only [List.length_set]), HG⟩

set_option maxHeartbeats 900000 in
set_option maxRecDepth 10000 in
theorem open_some {w : World} {kd : Nat} {D : Nat → Prop} {dv : DiskV} (FD : Dk w kd D dv)  {t1 t2 t3 : Int} {j2 : JV} {nn : Nat} (hh : hardV dv.nc = some (t1, t2, t3)) (hr : runV ⟨0, [], [], t1, t2, t3⟩ (scanB dv.nf).1 = (j2, nn)) (hnf : dv.nf.length ≤ 4000000) :
    Meets Try.prog 15 [.pointer (some ⟨kd, 0, none⟩)] w fun r w' => ∃ (rk1 : Nat), r = .tuple #[.pointer (some ⟨rk1, 0, none⟩), .int .i64 0] ∧ (w.heap.size ≤ rk1 ∧ rk1 < w'.heap.size) ∧ Jst w' rk1 kd (fun i => (D i ∨ i = kd) ∨ V.In w.heap.size w'.heap.size i) j2 (openD dv nn) ∧ Fr [kd] w w' := by
 have hDl := FD.lt
 have hnk := FD.nk
 have hkdl := FD.klt
 obtain ⟨hs0, hs1, hs2, hs3⟩ := FD.small
 have HG := V.Fr.refl [kd] w
 refine V.enter (n := 60) Try.func15 rfl rfl (by decide) rfl ?_
 refine V.seq ?_
 refine V.region ?_
 refine V.run T_ok 2 rfl ?_
 refine V.nil ?_
 refine V.tN ?_
 refine V.seq ?_
 refine V.seq ?_
 refine V.region ?_
 refine V.run T_ok 2 rfl ?_
 refine V.nil ?_
 refine V.tN ?_
 refine V.condN rfl rfl ?_
 refine V.skip ?_
 refine V.tN ?_
 refine V.seq ?_
 refine V.region ?_
 refine V.run T_ok 1 rfl ?_
 refine V.call (dk_cell FD) rfl rfl rfl ?_
 rintro _ w4 ⟨a1, c2, rfl, F3, G5⟩
 have z6 := V.Fr.size G5
 try replace FD := FD.gr G5
 replace HG := HG.grow G5
 clear G5
 refine V.call (hard_spec F3.sl (fun k hk => by have := hk.2; omega) (by first | omega | (simp only [List.length_take, List.length_drop, List.length_append, List.length_cons, List.length_nil, List.length_replicate, List.length_set, V.length_data, V.S_size]; omega))) rfl rfl rfl ?_
 rintro _ w11 ⟨t7, v8, b9, rfl, h10, G12⟩
 have z13 := V.Fr.size G12
 try replace FD := FD.gr G12
 try replace F3 := F3.gr G12
 replace HG := HG.grow G12
 clear G12
 refine V.run T_ok 3 rfl ?_
 refine V.alloc zero47 rfl rfl rfl ?_
 rintro k14 w16 s18 s19 G17 Fk15
 have z20 := V.Fr.size G17
 try replace FD := FD.gr G17
 try replace F3 := F3.gr G17
 replace HG := HG.grow G17
 clear G17
 try simp only [V.cellsL, V.spliceL] at Fk15
 refine V.storeO Fk15 rfl rfl rfl rfl sz47 rfl rfl rfl rfl ?_
 rintro w21 G22 z24 Fs23
 clear Fk15
 have z25 := V.Fr.size G22
 first | replace FD := FD.mv1 G22 (by (try dsimp only [V.In]); first | omega | grind) | clear FD | skip
 try replace F3 := F3.ma G22
 replace HG := HG.n1 G22
 clear G22
 have Fk15 := Fs23; clear Fs23
 simp only [V.spliceL, V.cellsL] at Fk15
 refine V.run T_ok 1 rfl ?_
 refine V.nil ?_
 refine V.tN ?_
 refine V.seq ?_
 refine V.seq ?_
 have hz8 : ∀ z, hardV dv.nc = some z → z = (t7, v8, b9) := by assumption
 have hz9 := hz8 _ hh
 simp only [Prod.mk.injEq] at hz9
 obtain ⟨rfl, rfl, rfl⟩ := hz9
 refine V.region ?_
 refine V.run T_ok 2 rfl ?_
 refine V.nil ?_
 refine V.tN ?_
 refine V.condN rfl (by rw [hh]; rfl) ?_
 refine V.skip ?_
 refine V.tN ?_
 refine V.seq ?_
 refine V.region ?_
 refine V.run T_ok 1 rfl ?_
 refine V.loadO T_ok Fk15 rfl rfl rfl rfl rfl ?_
 refine V.mkStruct T_ok zero77 rfl rfl rfl rfl rfl ?_
 refine V.box rfl rfl rfl rfl ?_
 rintro k26 w28 s30 s31 G29 Fk27
 have z32 := V.Fr.size G29
 try replace FD := FD.gr G29
 try replace F3 := F3.gr G29
 try replace Fk15 := Fk15.gr G29
 replace HG := HG.grow G29
 clear G29
 try simp only [V.cellsL, V.spliceL] at Fk27
 refine V.run T_ok 1 rfl ?_
 refine V.nil ?_
 refine V.tN ?_
 refine V.seq ?_
 have FJn := Jn.mk2 (E := fun i => i = k26) (j := ⟨0, [], [], t1, t2, t3⟩) Fk27 (V.RowW.nil (B := V.None') (E := V.None')) (Sl.nil _ _ V.None' _ _ (Nat.zero_le _)) ⟨Int.le_refl _, (by show (0 : Int) ≤ 1099511627776; decide), Nat.zero_le _, Nat.zero_le _, fun x h => by cases h⟩ (by intro i h; omega) ⟨⟨fun h => h, fun h => h⟩, fun i h => h.elim⟩ (by rintro i (h | h | h); exact h; exact h.elim; exact h.elim)
 clear Fk27
 refine V.region ?_
 refine V.run T_ok 1 rfl ?_
 refine V.call (dk_file FD) rfl rfl rfl ?_
 rintro _ w36 ⟨a33, c34, rfl, F35, G37⟩
 have z38 := V.Fr.size G37
 try replace FD := FD.gr G37
 try replace F3 := F3.gr G37
 try replace Fk15 := Fk15.gr G37
 try replace FJn := FJn.gr G37
 replace HG := HG.grow G37
 clear G37
 refine V.run T_ok 1 rfl ?_
 refine V.nil ?_
 refine V.tN ?_
 refine V.seq ?_
 refine V.region ?_
 refine V.run T_ok 1 rfl ?_
 refine V.call (scan_spec F35.sl (fun k hk => by have := hk.2; omega) (by first | omega | (simp only [List.length_take, List.length_drop, List.length_append, List.length_cons, List.length_nil, List.length_replicate, List.length_set, V.length_data, V.S_size]; omega))) rfl rfl rfl ?_
 rintro _ w42 ⟨a39, c40, rfl, F41, G43⟩
 have z44 := V.Fr.size G43
 try replace FD := FD.gr G43
 try replace F3 := F3.gr G43
 try replace Fk15 := Fk15.gr G43
 try replace FJn := FJn.gr G43
 try replace F35 := F35.gr G43
 replace HG := HG.grow G43
 clear G43
 refine V.run T_ok 5 rfl ?_
 refine V.nil ?_
 refine V.tN ?_
 refine V.seq ?_
 refine V.region ?_
 refine V.run T_ok 1 rfl ?_
 refine V.nil ?_
 refine V.tN ?_
 refine V.seq ?_
 refine V.seq ?_
 refine V.region ?_
 refine V.run T_ok 3 rfl ?_
 refine V.nil ?_
 refine V.tN ?_
 refine V.block ?_
 have hsum := scan_sum dv.nf
 refine V.loopM (fun m e v46 => Fr [kd] w v46 ∧ w42.heap.size ≤ v46.heap.size ∧ Dk v46 kd D dv ∧ V.Row V.Cod.byte 5 v46 V.None' w.heap.size w4.heap.size a1 c2 dv.nc ∧ Cells v46 k14 [.int .i64 t1, .int .i64 t2, .int .i64 t3] 47 ∧ V.Row V.Cod.byte 5 v46 V.None' w28.heap.size w36.heap.size a33 c34 dv.nf ∧ V.Row (V.Cod.own 5) 22 v46 V.None' w36.heap.size w42.heap.size a39 c40 ((scanB dv.nf).1) ∧ ∃ (i n : Nat) (jr : JV) (E : Nat → Prop) , m = (scanB dv.nf).1.length - i ∧ i ≤ (scanB dv.nf).1.length ∧ runV ⟨0, [], [], t1, t2, t3⟩ (scanB dv.nf).1 = ((runV jr ((scanB dv.nf).1.drop i)).1, n + (runV jr ((scanB dv.nf).1.drop i)).2) ∧ n + lsum ((scanB dv.nf).1.drop i) ≤ dv.nf.length ∧ 8 * i ≤ n ∧ jr.l.length ≤ i ∧ (∀ x, E x → x = k26 ∨ w42.heap.size ≤ x) ∧ Jn v46 k26 kd E jr ∧ e 0 = .pointer (some ⟨kd, 0, none⟩) ∧ e 6 = .pointer (some ⟨k26, 0, none⟩) ∧ e 7 = .slice a33 dv.nf.length c34 ∧ e 10 = .int .i64 (n : Int) ∧ e 34 = .slice a39 ((scanB dv.nf).1).length c40 ∧ e 35 = .int .i64 (((scanB dv.nf).1).length : Int) ∧ e 36 = .int .i64 (i : Int)) ?_ ?_
 ·
  exact ⟨_, HG, (by omega), FD, F3, Fk15, F35, F41, (0), (0), (⟨0, [], [], t1, t2, t3⟩), ((fun i => i = k26)), rfl, (Nat.zero_le _), (by simp), (by simpa using hsum), (Nat.le_refl _), (Nat.zero_le _), (fun x h => .inl h), FJn, rfl, rfl, rfl, rfl, rfl, rfl, rfl⟩
 clear HG FD F3 Fk15 F35 F41 FJn
 rintro _ e v46 ⟨HG, z47, FD, F3, Fk15, F35, F41, i, n, jr, E, rfl, hi, hrun, hls, h8, hjl, hEn, FJn, he0_0, he0_6, he0_7, he0_10, he0_34, he0_35, he0_36⟩
 have hok9 := FJn.ok
 have hEl9 := FJn.lt
 refine V.knownC (t := 0) he0_0 ?_
 refine V.knownC (t := 6) he0_6 ?_
 refine V.knownC (t := 7) he0_7 ?_
 refine V.knownC (t := 10) he0_10 ?_
 refine V.knownC (t := 34) he0_34 ?_
 refine V.knownC (t := 35) he0_35 ?_
 refine V.knownC (t := 36) he0_36 ?_
 refine V.seq ?_
 refine V.region ?_
 refine V.run T_ok 1 rfl ?_
 refine V.nil ?_
 refine V.tN ?_
 refine V.seq ?_
 refine V.condT rfl (fun h11 => ?_) (fun h11 => ?_)
 ·
  try replace h11 := V.dec h11
  try simp only [V.mk0, V.mk1, V.mk2, V.mk3] at h11
  refine V.skip ?_
  refine V.tN ?_
  refine V.seq ?_
  refine V.block ?_
  refine V.seq ?_
  refine V.region ?_
  refine V.elem T_ok F41.sl rfl rfl sz22 rfl rfl rfl rfl (by first | omega | (simp only [List.length_take, List.length_drop, List.length_append, List.length_cons, List.length_nil, List.length_replicate, List.length_set, V.length_data, V.S_size]; omega)) (by first | omega | (simp only [List.length_take, List.length_drop, List.length_append, List.length_cons, List.length_nil, List.length_replicate, List.length_set, V.length_data, V.S_size]; omega)) ?_
  rintro b48 o49 cs50 hx51 hb52 hR58 hA53
  obtain ⟨x54, hx54⟩ : ∃ z', ((scanB dv.nf).1)[((i : Int)).toNat] = z' := ⟨_, rfl⟩
  rw [hx54] at hR58
  obtain ⟨a55, c56, rfl, F57⟩ := hR58
  try simp only [Int.toNat_natCast] at hx54 hx51
  refine V.loadA T_ok (o0 := o49) (off := 0) hA53 rfl rfl rfl rfl rfl ?_
  refine V.run T_ok 1 rfl ?_
  refine V.nil ?_
  refine V.tN ?_
  refine V.seq ?_
  refine V.seq ?_
  have hla := lsum_at (by omega) hx54
  refine V.region ?_
  refine V.run T_ok 2 rfl ?_
  refine V.call (take_spec FJn F57.sl (fun k hk => by have := hk.2; omega) (by first | assumption | omega) (by first | omega | (simp only [List.length_take, List.length_drop, List.length_append, List.length_cons, List.length_nil, List.length_replicate, List.length_set, V.length_data, V.S_size]; omega))) rfl rfl rfl ?_
  rintro _ w60 ⟨rfl, F59, G61⟩
  have z62 := V.FrE.size G61
  first | replace FD := FD.mvE G61 (by intro j h hd; (try dsimp only [V.In] at h hd ⊢); first | omega | grind) | clear FD | skip
  first | replace F3 := F3.mvE G61 (by intro j h; refine ⟨fun hd => ?_, fun hd => ?_⟩ <;> first | exact hd.elim | (try dsimp only [V.In] at h hd ⊢); first | omega | grind) | clear F3 | skip
  first | replace Fk15 := Fk15.mvE G61 (by (try dsimp only [V.In]); first | omega | grind) | clear Fk15 | skip
  first | replace FJn := FJn.mvE G61 (by intro j h hd; (try dsimp only [V.In] at h hd ⊢); first | omega | grind) | clear FJn | skip
  first | replace F35 := F35.mvE G61 (by intro j h; refine ⟨fun hd => ?_, fun hd => ?_⟩ <;> first | exact hd.elim | (try dsimp only [V.In] at h hd ⊢); first | omega | grind) | clear F35 | skip
  first | replace F41 := F41.mvE G61 (by intro j h; refine ⟨fun hd => ?_, fun hd => ?_⟩ <;> first | exact hd.elim | (try dsimp only [V.In] at h hd ⊢); first | omega | grind) | clear F41 | skip
  first | replace F57 := F57.mvE G61 (by intro j h hd; (try dsimp only [V.In] at h hd ⊢); first | omega | grind) | clear F57 | skip
  replace HG := HG.stepE G61 (by intro i h; (try dsimp only [V.In] at h ⊢); first | omega | grind)
  clear G61
  refine V.run T_ok 1 rfl ?_
  refine V.nil ?_
  refine V.tN ?_
  refine V.condT rfl (fun h13 => ?_) (fun h13 => ?_)
  ·
   try replace h13 := V.dec h13
   try simp only [V.mk0, V.mk1, V.mk2, V.mk3] at h13
   refine V.exit ?_
   refine V.tX ?_
   refine V.bX rfl ?_
   refine V.tX ?_
   refine V.tX ?_
   refine V.bE ?_
   refine V.tN ?_
   refine V.seq ?_
   refine V.seq ?_
   have hrr := run_stop hrun (by omega) hx54 (by simpa using h13)
   rw [hr] at hrr
   simp only [Prod.mk.injEq] at hrr
   obtain ⟨hrj, hrn⟩ := hrr
   have hgd : (takeV jr x54).getD jr = jr := by cases hq9 : takeV jr x54 with
     | none => rfl
     | some y => rw [hq9] at h13; simp at h13
   rw [hgd, ← hrj] at F59
   refine V.region ?_
   refine V.run T_ok 4 rfl ?_
   refine V.nil ?_
   refine V.tN ?_
   refine V.condT rfl (fun h16 => ?_) (fun h16 => ?_)
   ·
    try replace h16 := V.dec h16
    try simp only [V.mk0, V.mk1, V.mk2, V.mk3] at h16
    refine V.seq ?_
    refine V.region ?_
    refine V.run T_ok 2 rfl ?_
    refine V.call (dk_cut (n := (n : Int)) FD) rfl rfl rfl ?_
    rintro _ w64 ⟨rfl, F63, G65⟩
    have z66 := V.Fr.size G65
    first | replace FD := FD.mv1 G65 (by (try dsimp only [V.In]); first | omega | grind) | clear FD | skip
    try replace F3 := F3.ma G65
    try replace Fk15 := Fk15.ma G65
    try replace F35 := F35.ma G65
    try replace F41 := F41.ma G65
    try replace F57 := F57.ma G65
    first | replace F59 := F59.mv1 G65 (by (try dsimp only [V.In]); first | omega | grind) | clear F59 | skip
    replace HG := HG.n1 G65
    clear G65
    refine V.nil ?_
    refine V.tN ?_
    refine V.region ?_
    refine V.run T_ok 1 rfl ?_
    refine V.call (dk_sync F63) rfl rfl rfl ?_
    rintro _ w68 ⟨rfl, F67, G69⟩
    have z70 := V.Fr.size G69
    try replace F3 := F3.ma G69
    try replace Fk15 := Fk15.ma G69
    try replace F35 := F35.ma G69
    try replace F41 := F41.ma G69
    try replace F57 := F57.ma G69
    first | replace F59 := F59.mv1 G69 (by (try dsimp only [V.In]); first | omega | grind) | clear F59 | skip
    first | replace F63 := F63.mv1 G69 (by (try dsimp only [V.In]); first | omega | grind) | clear F63 | skip
    replace HG := HG.n1 G69
    clear G69
    refine V.nil ?_
    refine V.tN ?_
    refine V.seq ?_
    refine V.region ?_
    refine V.run T_ok 3 rfl ?_
    refine V.nil ?_
    refine V.tN ?_
    refine V.ret ?_
    rw [show openD dv nn = dSync (dCut dv (n : Int)) by unfold openD; rw [if_pos (by omega), hrn]]
    have FJ9 := Jst.mk2 (EJ := (fun i => (D i ∨ i = kd) ∨ V.In w.heap.size w68.heap.size i)) F59 F67 ⟨by intro i h; ((try dsimp only [V.In] at h ⊢); first | omega | grind), by (try dsimp only [V.In]); first | omega | grind⟩ (by intro i h; ((try dsimp only [V.In] at h ⊢); first | omega | grind)) (by intro i h; ((try dsimp only [V.In] at h ⊢); first | omega | grind)) (.inl (.inr rfl)) (by intro i h; ((try dsimp only [V.In] at h ⊢); first | omega | grind))
    refine V.done rfl ?_
    exact ⟨k26, (by first | rfl | simp only [List.length_set]), ⟨by omega, by omega⟩, FJ9, HG⟩
   ·
    try replace h16 := V.dec h16
    try simp only [V.mk0, V.mk1, V.mk2, V.mk3] at h16
    refine V.skip ?_
    refine V.tN ?_
    refine V.seq ?_
    refine V.region ?_
    refine V.run T_ok 3 rfl ?_
    refine V.nil ?_
    refine V.tN ?_
    refine V.ret ?_
    rw [show openD dv nn = dv by unfold openD; rw [if_neg (by omega)]]
    have FJ9 := Jst.mk2 (EJ := (fun i => (D i ∨ i = kd) ∨ V.In w.heap.size w60.heap.size i)) F59 FD ⟨by intro i h; ((try dsimp only [V.In] at h ⊢); first | omega | grind), by (try dsimp only [V.In]); first | omega | grind⟩ (by intro i h; ((try dsimp only [V.In] at h ⊢); first | omega | grind)) (by intro i h; ((try dsimp only [V.In] at h ⊢); first | omega | grind)) (.inl (.inr rfl)) (by intro i h; ((try dsimp only [V.In] at h ⊢); first | omega | grind))
    refine V.done rfl ?_
    exact ⟨k26, (by first | rfl | simp only [List.length_set]), ⟨by omega, by omega⟩, FJ9, HG⟩
  ·
   try replace h13 := V.dec h13
   try simp only [V.mk0, V.mk1, V.mk2, V.mk3] at h13
   refine V.skip ?_
   refine V.tN ?_
   refine V.region ?_
   refine V.run T_ok 3 rfl ?_
   refine V.addN rfl rfl rfl rfl rfl (by first | omega | (simp only [List.length_take, List.length_drop, List.length_append, List.length_cons, List.length_nil, List.length_replicate, List.length_set, V.length_data, V.S_size]; omega)) (by first | omega | (simp only [List.length_take, List.length_drop, List.length_append, List.length_cons, List.length_nil, List.length_replicate, List.length_set, V.length_data, V.S_size]; omega)) ?_
   refine V.addN rfl rfl rfl rfl rfl (by first | omega | (simp only [List.length_take, List.length_drop, List.length_append, List.length_cons, List.length_nil, List.length_replicate, List.length_set, V.length_data, V.S_size]; omega)) (by first | omega | (simp only [List.length_take, List.length_drop, List.length_append, List.length_cons, List.length_nil, List.length_replicate, List.length_set, V.length_data, V.S_size]; omega)) ?_
   refine V.run T_ok 1 rfl ?_
   refine V.nil ?_
   refine V.bN ?_
   refine V.tN ?_
   refine V.region ?_
   refine V.addN rfl rfl rfl rfl rfl (by first | omega | (simp only [List.length_take, List.length_drop, List.length_append, List.length_cons, List.length_nil, List.length_replicate, List.length_set, V.length_data, V.S_size]; omega)) (by first | omega | (simp only [List.length_take, List.length_drop, List.length_append, List.length_cons, List.length_nil, List.length_replicate, List.length_set, V.length_data, V.S_size]; omega)) ?_
   refine V.run T_ok 1 rfl ?_
   refine V.nil ?_
   refine V.tN ?_
   exact ⟨_, (by omega), HG, (by omega), FD, F3, Fk15, F35, F41, (i + 1), (n + (8 + x54.length)), ((takeV jr x54).getD jr), ((fun i => E i ∨ V.In v46.heap.size w60.heap.size i)), rfl, (by omega), (run_step hrun (by omega) hx54 (by simpa using h13)), (by omega), (by omega), ((by have := takeV_len' (x := x54) hok9 (by omega); omega)), (by intro x h; (try dsimp only [V.In] at h ⊢); first | omega | grind), F59, rfl, rfl, rfl, (congrArg (Value.int .i64) (by omega)), rfl, rfl, rfl⟩
 ·
  try replace h11 := V.dec h11
  try simp only [V.mk0, V.mk1, V.mk2, V.mk3] at h11
  refine V.exit ?_
  refine V.tX ?_
  refine V.tX ?_
  refine V.bE ?_
  refine V.tN ?_
  refine V.seq ?_
  refine V.seq ?_
  have hrr := run_end hrun (by omega)
  rw [hr] at hrr
  simp only [Prod.mk.injEq] at hrr
  obtain ⟨hrj, hrn⟩ := hrr
  rw [← hrj] at FJn
  refine V.region ?_
  refine V.run T_ok 4 rfl ?_
  refine V.nil ?_
  refine V.tN ?_
  refine V.condT rfl (fun h16 => ?_) (fun h16 => ?_)
  ·
   try replace h16 := V.dec h16
   try simp only [V.mk0, V.mk1, V.mk2, V.mk3] at h16
   refine V.seq ?_
   refine V.region ?_
   refine V.run T_ok 2 rfl ?_
   refine V.call (dk_cut (n := (n : Int)) FD) rfl rfl rfl ?_
   rintro _ w72 ⟨rfl, F71, G73⟩
   have z74 := V.Fr.size G73
   first | replace FD := FD.mv1 G73 (by (try dsimp only [V.In]); first | omega | grind) | clear FD | skip
   try replace F3 := F3.ma G73
   try replace Fk15 := Fk15.ma G73
   first | replace FJn := FJn.mv1 G73 (by (try dsimp only [V.In]); first | omega | grind) | clear FJn | skip
   try replace F35 := F35.ma G73
   try replace F41 := F41.ma G73
   replace HG := HG.n1 G73
   clear G73
   refine V.nil ?_
   refine V.tN ?_
   refine V.region ?_
   refine V.run T_ok 1 rfl ?_
   refine V.call (dk_sync F71) rfl rfl rfl ?_
   rintro _ w76 ⟨rfl, F75, G77⟩
   have z78 := V.Fr.size G77
   try replace F3 := F3.ma G77
   try replace Fk15 := Fk15.ma G77
   first | replace FJn := FJn.mv1 G77 (by (try dsimp only [V.In]); first | omega | grind) | clear FJn | skip
   try replace F35 := F35.ma G77
   try replace F41 := F41.ma G77
   first | replace F71 := F71.mv1 G77 (by (try dsimp only [V.In]); first | omega | grind) | clear F71 | skip
   replace HG := HG.n1 G77
   clear G77
   refine V.nil ?_
   refine V.tN ?_
   refine V.seq ?_
   refine V.region ?_
   refine V.run T_ok 3 rfl ?_
   refine V.nil ?_
   refine V.tN ?_
   refine V.ret ?_
   rw [show openD dv nn = dSync (dCut dv (n : Int)) by unfold openD; rw [if_pos (by omega), hrn]]
   have FJ9 := Jst.mk2 (EJ := (fun i => (D i ∨ i = kd) ∨ V.In w.heap.size w76.heap.size i)) FJn F75 ⟨by intro i h; ((try dsimp only [V.In] at h ⊢); first | omega | grind), by (try dsimp only [V.In]); first | omega | grind⟩ (by intro i h; ((try dsimp only [V.In] at h ⊢); first | omega | grind)) (by intro i h; ((try dsimp only [V.In] at h ⊢); first | omega | grind)) (.inl (.inr rfl)) (by intro i h; ((try dsimp only [V.In] at h ⊢); first | omega | grind))
   refine V.done rfl ?_
   exact ⟨k26, (by first | rfl | simp only [List.length_set]), ⟨by omega, by omega⟩, FJ9, HG⟩
  ·
   try replace h16 := V.dec h16
   try simp only [V.mk0, V.mk1, V.mk2, V.mk3] at h16
   refine V.skip ?_
   refine V.tN ?_
   refine V.seq ?_
   refine V.region ?_
   refine V.run T_ok 3 rfl ?_
   refine V.nil ?_
   refine V.tN ?_
   refine V.ret ?_
   rw [show openD dv nn = dv by unfold openD; rw [if_neg (by omega)]]
   have FJ9 := Jst.mk2 (EJ := (fun i => (D i ∨ i = kd) ∨ V.In w.heap.size v46.heap.size i)) FJn FD ⟨by intro i h; ((try dsimp only [V.In] at h ⊢); first | omega | grind), by (try dsimp only [V.In]); first | omega | grind⟩ (by intro i h; ((try dsimp only [V.In] at h ⊢); first | omega | grind)) (by intro i h; ((try dsimp only [V.In] at h ⊢); first | omega | grind)) (.inl (.inr rfl)) (by intro i h; ((try dsimp only [V.In] at h ⊢); first | omega | grind))
   refine V.done rfl ?_
   exact ⟨k26, (by first | rfl | simp only [List.length_set]), ⟨by omega, by omega⟩, FJ9, HG⟩

set_option maxHeartbeats 900000 in
set_option maxRecDepth 10000 in
theorem open_keep {w : World} {kd : Nat} {D : Nat → Prop} {dv : DiskV} (FD : Dk w kd D dv)  {t1 t2 t3 : Int} {j2 : JV} {nn : Nat} (hh : hardV dv.nc = some (t1, t2, t3)) (hr : runV ⟨0, [], [], t1, t2, t3⟩ (scanB dv.nf).1 = (j2, nn)) (hnf : dv.nf.length ≤ 4000000) (hnn : nn = dv.nf.length) :
    Meets Try.prog 15 [.pointer (some ⟨kd, 0, none⟩)] w fun r w' => ∃ (rk1 : Nat), r = .tuple #[.pointer (some ⟨rk1, 0, none⟩), .int .i64 0] ∧ (w.heap.size ≤ rk1 ∧ rk1 < w'.heap.size) ∧ Jn w' rk1 kd (V.In w.heap.size w'.heap.size) j2 ∧ Gr w w' := by
 have hDl := FD.lt
 have hnk := FD.nk
 have hkdl := FD.klt
 obtain ⟨hs0, hs1, hs2, hs3⟩ := FD.small
 have HG := V.Fr.refl [] w
 refine V.enter (n := 60) Try.func15 rfl rfl (by decide) rfl ?_
 refine V.seq ?_
 refine V.region ?_
 refine V.run T_ok 2 rfl ?_
 refine V.nil ?_
 refine V.tN ?_
 refine V.seq ?_
 refine V.seq ?_
 refine V.region ?_
 refine V.run T_ok 2 rfl ?_
 refine V.nil ?_
 refine V.tN ?_
 refine V.condN rfl rfl ?_
 refine V.skip ?_
 refine V.tN ?_
 refine V.seq ?_
 refine V.region ?_
 refine V.run T_ok 1 rfl ?_
 refine V.call (dk_cell FD) rfl rfl rfl ?_
 rintro _ w4 ⟨a1, c2, rfl, F3, G5⟩
 have z6 := V.Fr.size G5
 try replace FD := FD.gr G5
 replace HG := HG.grow G5
 clear G5
 refine V.call (hard_spec F3.sl (fun k hk => by have := hk.2; omega) (by first | omega | (simp only [List.length_take, List.length_drop, List.length_append, List.length_cons, List.length_nil, List.length_replicate, List.length_set, V.length_data, V.S_size]; omega))) rfl rfl rfl ?_
 rintro _ w11 ⟨t7, v8, b9, rfl, h10, G12⟩
 have z13 := V.Fr.size G12
 try replace FD := FD.gr G12
 try replace F3 := F3.gr G12
 replace HG := HG.grow G12
 clear G12
 refine V.run T_ok 3 rfl ?_
 refine V.alloc zero47 rfl rfl rfl ?_
 rintro k14 w16 s18 s19 G17 Fk15
 have z20 := V.Fr.size G17
 try replace FD := FD.gr G17
 try replace F3 := F3.gr G17
 replace HG := HG.grow G17
 clear G17
 try simp only [V.cellsL, V.spliceL] at Fk15
 refine V.storeO Fk15 rfl rfl rfl rfl sz47 rfl rfl rfl rfl ?_
 rintro w21 G22 z24 Fs23
 clear Fk15
 have z25 := V.Fr.size G22
 first | replace FD := FD.mv1 G22 (by (try dsimp only [V.In]); first | omega | grind) | clear FD | skip
 try replace F3 := F3.ma G22
 replace HG := HG.n1 G22
 clear G22
 have Fk15 := Fs23; clear Fs23
 simp only [V.spliceL, V.cellsL] at Fk15
 refine V.run T_ok 1 rfl ?_
 refine V.nil ?_
 refine V.tN ?_
 refine V.seq ?_
 refine V.seq ?_
 have hz8 : ∀ z, hardV dv.nc = some z → z = (t7, v8, b9) := by assumption
 have hz9 := hz8 _ hh
 simp only [Prod.mk.injEq] at hz9
 obtain ⟨rfl, rfl, rfl⟩ := hz9
 refine V.region ?_
 refine V.run T_ok 2 rfl ?_
 refine V.nil ?_
 refine V.tN ?_
 refine V.condN rfl (by rw [hh]; rfl) ?_
 refine V.skip ?_
 refine V.tN ?_
 refine V.seq ?_
 refine V.region ?_
 refine V.run T_ok 1 rfl ?_
 refine V.loadO T_ok Fk15 rfl rfl rfl rfl rfl ?_
 refine V.mkStruct T_ok zero77 rfl rfl rfl rfl rfl ?_
 refine V.box rfl rfl rfl rfl ?_
 rintro k26 w28 s30 s31 G29 Fk27
 have z32 := V.Fr.size G29
 try replace FD := FD.gr G29
 try replace F3 := F3.gr G29
 try replace Fk15 := Fk15.gr G29
 replace HG := HG.grow G29
 clear G29
 try simp only [V.cellsL, V.spliceL] at Fk27
 refine V.run T_ok 1 rfl ?_
 refine V.nil ?_
 refine V.tN ?_
 refine V.seq ?_
 have FJn := Jn.mk2 (E := fun i => i = k26) (j := ⟨0, [], [], t1, t2, t3⟩) Fk27 (V.RowW.nil (B := V.None') (E := V.None')) (Sl.nil _ _ V.None' _ _ (Nat.zero_le _)) ⟨Int.le_refl _, (by show (0 : Int) ≤ 1099511627776; decide), Nat.zero_le _, Nat.zero_le _, fun x h => by cases h⟩ (by intro i h; omega) ⟨⟨fun h => h, fun h => h⟩, fun i h => h.elim⟩ (by rintro i (h | h | h); exact h; exact h.elim; exact h.elim)
 clear Fk27
 refine V.region ?_
 refine V.run T_ok 1 rfl ?_
 refine V.call (dk_file FD) rfl rfl rfl ?_
 rintro _ w36 ⟨a33, c34, rfl, F35, G37⟩
 have z38 := V.Fr.size G37
 try replace FD := FD.gr G37
 try replace F3 := F3.gr G37
 try replace Fk15 := Fk15.gr G37
 try replace FJn := FJn.gr G37
 replace HG := HG.grow G37
 clear G37
 refine V.run T_ok 1 rfl ?_
 refine V.nil ?_
 refine V.tN ?_
 refine V.seq ?_
 refine V.region ?_
 refine V.run T_ok 1 rfl ?_
 refine V.call (scan_spec F35.sl (fun k hk => by have := hk.2; omega) (by first | omega | (simp only [List.length_take, List.length_drop, List.length_append, List.length_cons, List.length_nil, List.length_replicate, List.length_set, V.length_data, V.S_size]; omega))) rfl rfl rfl ?_
 rintro _ w42 ⟨a39, c40, rfl, F41, G43⟩
 have z44 := V.Fr.size G43
 try replace FD := FD.gr G43
 try replace F3 := F3.gr G43
 try replace Fk15 := Fk15.gr G43
 try replace FJn := FJn.gr G43
 try replace F35 := F35.gr G43
 replace HG := HG.grow G43
 clear G43
 refine V.run T_ok 5 rfl ?_
 refine V.nil ?_
 refine V.tN ?_
 refine V.seq ?_
 refine V.region ?_
 refine V.run T_ok 1 rfl ?_
 refine V.nil ?_
 refine V.tN ?_
 refine V.seq ?_
 refine V.seq ?_
 refine V.region ?_
 refine V.run T_ok 3 rfl ?_
 refine V.nil ?_
 refine V.tN ?_
 refine V.block ?_
 have hsum := scan_sum dv.nf
 refine V.loopM (fun m e v46 => Fr [] w v46 ∧ w42.heap.size ≤ v46.heap.size ∧ Dk v46 kd D dv ∧ V.Row V.Cod.byte 5 v46 V.None' w.heap.size w4.heap.size a1 c2 dv.nc ∧ Cells v46 k14 [.int .i64 t1, .int .i64 t2, .int .i64 t3] 47 ∧ V.Row V.Cod.byte 5 v46 V.None' w28.heap.size w36.heap.size a33 c34 dv.nf ∧ V.Row (V.Cod.own 5) 22 v46 V.None' w36.heap.size w42.heap.size a39 c40 ((scanB dv.nf).1) ∧ ∃ (i n : Nat) (jr : JV) (E : Nat → Prop) , m = (scanB dv.nf).1.length - i ∧ i ≤ (scanB dv.nf).1.length ∧ runV ⟨0, [], [], t1, t2, t3⟩ (scanB dv.nf).1 = ((runV jr ((scanB dv.nf).1.drop i)).1, n + (runV jr ((scanB dv.nf).1.drop i)).2) ∧ n + lsum ((scanB dv.nf).1.drop i) ≤ dv.nf.length ∧ 8 * i ≤ n ∧ jr.l.length ≤ i ∧ (∀ x, E x → x = k26 ∨ w42.heap.size ≤ x) ∧ Jn v46 k26 kd E jr ∧ e 0 = .pointer (some ⟨kd, 0, none⟩) ∧ e 6 = .pointer (some ⟨k26, 0, none⟩) ∧ e 7 = .slice a33 dv.nf.length c34 ∧ e 10 = .int .i64 (n : Int) ∧ e 34 = .slice a39 ((scanB dv.nf).1).length c40 ∧ e 35 = .int .i64 (((scanB dv.nf).1).length : Int) ∧ e 36 = .int .i64 (i : Int)) ?_ ?_
 ·
  exact ⟨_, HG, (by omega), FD, F3, Fk15, F35, F41, (0), (0), (⟨0, [], [], t1, t2, t3⟩), ((fun i => i = k26)), rfl, (Nat.zero_le _), (by simp), (by simpa using hsum), (Nat.le_refl _), (Nat.zero_le _), (fun x h => .inl h), FJn, rfl, rfl, rfl, rfl, rfl, rfl, rfl⟩
 clear HG FD F3 Fk15 F35 F41 FJn
 rintro _ e v46 ⟨HG, z47, FD, F3, Fk15, F35, F41, i, n, jr, E, rfl, hi, hrun, hls, h8, hjl, hEn, FJn, he0_0, he0_6, he0_7, he0_10, he0_34, he0_35, he0_36⟩
 have hok9 := FJn.ok
 have hEl9 := FJn.lt
 refine V.knownC (t := 0) he0_0 ?_
 refine V.knownC (t := 6) he0_6 ?_
 refine V.knownC (t := 7) he0_7 ?_
 refine V.knownC (t := 10) he0_10 ?_
 refine V.knownC (t := 34) he0_34 ?_
 refine V.knownC (t := 35) he0_35 ?_
 refine V.knownC (t := 36) he0_36 ?_
 refine V.seq ?_
 refine V.region ?_
 refine V.run T_ok 1 rfl ?_
 refine V.nil ?_
 refine V.tN ?_
 refine V.seq ?_
 refine V.condT rfl (fun h11 => ?_) (fun h11 => ?_)
 ·
  try replace h11 := V.dec h11
  try simp only [V.mk0, V.mk1, V.mk2, V.mk3] at h11
  refine V.skip ?_
  refine V.tN ?_
  refine V.seq ?_
  refine V.block ?_
  refine V.seq ?_
  refine V.region ?_
  refine V.elem T_ok F41.sl rfl rfl sz22 rfl rfl rfl rfl (by first | omega | (simp only [List.length_take, List.length_drop, List.length_append, List.length_cons, List.length_nil, List.length_replicate, List.length_set, V.length_data, V.S_size]; omega)) (by first | omega | (simp only [List.length_take, List.length_drop, List.length_append, List.length_cons, List.length_nil, List.length_replicate, List.length_set, V.length_data, V.S_size]; omega)) ?_
  rintro b48 o49 cs50 hx51 hb52 hR58 hA53
  obtain ⟨x54, hx54⟩ : ∃ z', ((scanB dv.nf).1)[((i : Int)).toNat] = z' := ⟨_, rfl⟩
  rw [hx54] at hR58
  obtain ⟨a55, c56, rfl, F57⟩ := hR58
  try simp only [Int.toNat_natCast] at hx54 hx51
  refine V.loadA T_ok (o0 := o49) (off := 0) hA53 rfl rfl rfl rfl rfl ?_
  refine V.run T_ok 1 rfl ?_
  refine V.nil ?_
  refine V.tN ?_
  refine V.seq ?_
  refine V.seq ?_
  have hla := lsum_at (by omega) hx54
  refine V.region ?_
  refine V.run T_ok 2 rfl ?_
  refine V.call (take_spec FJn F57.sl (fun k hk => by have := hk.2; omega) (by first | assumption | omega) (by first | omega | (simp only [List.length_take, List.length_drop, List.length_append, List.length_cons, List.length_nil, List.length_replicate, List.length_set, V.length_data, V.S_size]; omega))) rfl rfl rfl ?_
  rintro _ w60 ⟨rfl, F59, G61⟩
  have z62 := V.FrE.size G61
  first | replace FD := FD.mvE G61 (by intro j h hd; (try dsimp only [V.In] at h hd ⊢); first | omega | grind) | clear FD | skip
  first | replace F3 := F3.mvE G61 (by intro j h; refine ⟨fun hd => ?_, fun hd => ?_⟩ <;> first | exact hd.elim | (try dsimp only [V.In] at h hd ⊢); first | omega | grind) | clear F3 | skip
  first | replace Fk15 := Fk15.mvE G61 (by (try dsimp only [V.In]); first | omega | grind) | clear Fk15 | skip
  first | replace FJn := FJn.mvE G61 (by intro j h hd; (try dsimp only [V.In] at h hd ⊢); first | omega | grind) | clear FJn | skip
  first | replace F35 := F35.mvE G61 (by intro j h; refine ⟨fun hd => ?_, fun hd => ?_⟩ <;> first | exact hd.elim | (try dsimp only [V.In] at h hd ⊢); first | omega | grind) | clear F35 | skip
  first | replace F41 := F41.mvE G61 (by intro j h; refine ⟨fun hd => ?_, fun hd => ?_⟩ <;> first | exact hd.elim | (try dsimp only [V.In] at h hd ⊢); first | omega | grind) | clear F41 | skip
  first | replace F57 := F57.mvE G61 (by intro j h hd; (try dsimp only [V.In] at h hd ⊢); first | omega | grind) | clear F57 | skip
  replace HG := HG.stepE G61 (by intro i h; (try dsimp only [V.In] at h ⊢); first | omega | grind)
  clear G61
  refine V.run T_ok 1 rfl ?_
  refine V.nil ?_
  refine V.tN ?_
  refine V.condT rfl (fun h13 => ?_) (fun h13 => ?_)
  ·
   try replace h13 := V.dec h13
   try simp only [V.mk0, V.mk1, V.mk2, V.mk3] at h13
   refine V.exit ?_
   refine V.tX ?_
   refine V.bX rfl ?_
   refine V.tX ?_
   refine V.tX ?_
   refine V.bE ?_
   refine V.tN ?_
   refine V.seq ?_
   refine V.seq ?_
   have hrr := run_stop hrun (by omega) hx54 (by simpa using h13)
   rw [hr] at hrr
   simp only [Prod.mk.injEq] at hrr
   obtain ⟨hrj, hrn⟩ := hrr
   have hgd : (takeV jr x54).getD jr = jr := by cases hq9 : takeV jr x54 with
     | none => rfl
     | some y => rw [hq9] at h13; simp at h13
   rw [hgd, ← hrj] at F59
   refine V.region ?_
   refine V.run T_ok 4 rfl ?_
   refine V.nil ?_
   refine V.tN ?_
   refine V.condN rfl (by simp only [decide_eq_false_iff_not]; omega) ?_
   refine V.skip ?_
   refine V.tN ?_
   refine V.seq ?_
   refine V.region ?_
   refine V.run T_ok 3 rfl ?_
   refine V.nil ?_
   refine V.tN ?_
   refine V.ret ?_
   have FX9 := F59.mono (E' := (V.In w.heap.size w60.heap.size)) (by intro i h; ((try dsimp only [V.In] at h ⊢); first | omega | grind)) (by intro i h; ((try dsimp only [V.In] at h ⊢); first | omega | grind))
   refine V.done rfl ?_
   exact ⟨k26, (by first | rfl | simp only [List.length_set]), ⟨by omega, by omega⟩, FX9, HG⟩
  ·
   try replace h13 := V.dec h13
   try simp only [V.mk0, V.mk1, V.mk2, V.mk3] at h13
   refine V.skip ?_
   refine V.tN ?_
   refine V.region ?_
   refine V.run T_ok 3 rfl ?_
   refine V.addN rfl rfl rfl rfl rfl (by first | omega | (simp only [List.length_take, List.length_drop, List.length_append, List.length_cons, List.length_nil, List.length_replicate, List.length_set, V.length_data, V.S_size]; omega)) (by first | omega | (simp only [List.length_take, List.length_drop, List.length_append, List.length_cons, List.length_nil, List.length_replicate, List.length_set, V.length_data, V.S_size]; omega)) ?_
   refine V.addN rfl rfl rfl rfl rfl (by first | omega | (simp only [List.length_take, List.length_drop, List.length_append, List.length_cons, List.length_nil, List.length_replicate, List.length_set, V.length_data, V.S_size]; omega)) (by first | omega | (simp only [List.length_take, List.length_drop, List.length_append, List.length_cons, List.length_nil, List.length_replicate, List.length_set, V.length_data, V.S_size]; omega)) ?_
   refine V.run T_ok 1 rfl ?_
   refine V.nil ?_
   refine V.bN ?_
   refine V.tN ?_
   refine V.region ?_
   refine V.addN rfl rfl rfl rfl rfl (by first | omega | (simp only [List.length_take, List.length_drop, List.length_append, List.length_cons, List.length_nil, List.length_replicate, List.length_set, V.length_data, V.S_size]; omega)) (by first | omega | (simp only [List.length_take, List.length_drop, List.length_append, List.length_cons, List.length_nil, List.length_replicate, List.length_set, V.length_data, V.S_size]; omega)) ?_
   refine V.run T_ok 1 rfl ?_
   refine V.nil ?_
   refine V.tN ?_
   exact ⟨_, (by omega), HG, (by omega), FD, F3, Fk15, F35, F41, (i + 1), (n + (8 + x54.length)), ((takeV jr x54).getD jr), ((fun i => E i ∨ V.In v46.heap.size w60.heap.size i)), rfl, (by omega), (run_step hrun (by omega) hx54 (by simpa using h13)), (by omega), (by omega), ((by have := takeV_len' (x := x54) hok9 (by omega); omega)), (by intro x h; (try dsimp only [V.In] at h ⊢); first | omega | grind), F59, rfl, rfl, rfl, (congrArg (Value.int .i64) (by omega)), rfl, rfl, rfl⟩
 ·
  try replace h11 := V.dec h11
  try simp only [V.mk0, V.mk1, V.mk2, V.mk3] at h11
  refine V.exit ?_
  refine V.tX ?_
  refine V.tX ?_
  refine V.bE ?_
  refine V.tN ?_
  refine V.seq ?_
  refine V.seq ?_
  have hrr := run_end hrun (by omega)
  rw [hr] at hrr
  simp only [Prod.mk.injEq] at hrr
  obtain ⟨hrj, hrn⟩ := hrr
  rw [← hrj] at FJn
  refine V.region ?_
  refine V.run T_ok 4 rfl ?_
  refine V.nil ?_
  refine V.tN ?_
  refine V.condN rfl (by simp only [decide_eq_false_iff_not]; omega) ?_
  refine V.skip ?_
  refine V.tN ?_
  refine V.seq ?_
  refine V.region ?_
  refine V.run T_ok 3 rfl ?_
  refine V.nil ?_
  refine V.tN ?_
  refine V.ret ?_
  have FX9 := FJn.mono (E' := (V.In w.heap.size v46.heap.size)) (by intro i h; ((try dsimp only [V.In] at h ⊢); first | omega | grind)) (by intro i h; ((try dsimp only [V.In] at h ⊢); first | omega | grind))
  refine V.done rfl ?_
  exact ⟨k26, (by first | rfl | simp only [List.length_set]), ⟨by omega, by omega⟩, FX9, HG⟩

end Go.Proofs.Ytnbijpijbhkcpaa
