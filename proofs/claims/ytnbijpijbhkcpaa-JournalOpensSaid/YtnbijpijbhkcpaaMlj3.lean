/- Proved here: walks: what functions of this seat's program return and what they leave of memory, each as a contract. Conditions: stated at each theorem. -/
import Derived.Test.YtnbijpijbhkcpaaMjr2
namespace Go.Proofs.Ytnbijpijbhkcpaa
set_option linter.unusedVariables false
set_option linter.unusedSimpArgs false
open Go
open V (Bytes Meets Env Sl Own Gr Fr Cells S)
/-! ### Opened again, of any file -/
theorem firstB_take {b x : List UInt8} {n : Nat} (h : firstB b = some x) (hn : 8 + x.length ≤ n) : firstB (b.take n) = some x := by
  have hl := firstB_len h
  unfold firstB at h ⊢
  split at h
  · rename_i hc
    simp only [Option.some.injEq] at h
    have e1 : (b.take n).take 4 = b.take 4 := by rw [List.take_take, Nat.min_eq_left (by omega)]
    have hx : x.length = (beN (b.take 4)).toNat := by rw [← h, secB_len hc.2.2.2.1]
    have e2 : secB (b.take n) = secB b := by
      unfold secB
      rw [e1, List.drop_take, List.take_take, Nat.min_eq_left (by omega)]
    have e3 : ((b.take n).drop 4).take 4 = (b.drop 4).take 4 := by rw [List.drop_take, List.take_take, Nat.min_eq_left (by omega)]
    rw [e1, e2, e3, List.length_take, if_pos ⟨by omega, hc.2.1, hc.2.2.1, by omega, hc.2.2.2.2⟩, h]
  · cases h
theorem scan_take (b : List UInt8) (k : Nat) : (scanB (b.take (lsum ((scanB b).1.take k)))).1 = (scanB b).1.take k := by
  cases hf : firstB b with
  | none =>
    rw [scanB_none hf]
    simp only [List.take_nil, lsum, List.take_zero]
    rw [scanB_none (first_no (by simp))]
  | some x =>
    have hl := firstB_len hf
    rw [scanB_some hf]
    cases k with
    | zero => simp only [List.take_zero, lsum]; rw [scanB_none (first_no (by simp))]
    | succ k =>
      simp only [List.take_succ_cons, lsum]
      have ih := scan_take (b.drop (8 + x.length)) k
      have hn : 8 + x.length ≤ 8 + x.length + lsum ((scanB (b.drop (8 + x.length))).1.take k) := Nat.le_add_right _ _
      rw [scanB_some (firstB_take hf hn), List.drop_take, Nat.add_sub_cancel_left, ih]
termination_by b.length
decreasing_by (have := firstB_len hf; simp only [List.length_drop]; omega)
theorem run_take : ∀ (l : List (List UInt8)) (j : JV), ∃ k, (runV j l).2 = lsum (l.take k) ∧ runV j (l.take k) = runV j l
  | [], j => ⟨0, rfl, rfl⟩
  | x :: l, j => by
    cases ht : takeV j x with
    | none => exact ⟨0, by simp only [runV, ht]; rfl, by simp only [runV, ht, List.take_zero]⟩
    | some j' =>
      obtain ⟨k, h1, h2⟩ := run_take l j'
      exact ⟨k + 1, by simp only [runV, ht, List.take_succ_cons, lsum, h1], by simp only [runV, ht, List.take_succ_cons, h2]⟩
theorem run_bound {j0 j2 : JV} {b : List UInt8} {nn : Nat} (hr : runV j0 (scanB b).1 = (j2, nn)) : nn ≤ b.length := by
  have h1 := runV_le (scanB b).1 j0
  rw [hr] at h1
  exact Nat.le_trans h1 (scan_sum b)
theorem openD_re {d : DiskV} {t1 t2 t3 : Int} {j2 : JV} {nn : Nat} (hh : hardV d.nc = some (t1, t2, t3)) (hr : runV ⟨0, [], [], t1, t2, t3⟩ (scanB d.nf).1 = (j2, nn)) :
    hardV (openD d nn).nc = some (t1, t2, t3) ∧ runV ⟨0, [], [], t1, t2, t3⟩ (scanB (openD d nn).nf).1 = (j2, (openD d nn).nf.length) := by
  have hb := run_bound hr
  unfold openD
  split
  · rename_i hlt
    have e : dCut d (nn : Int) = { d with nf := d.nf.take nn } := by unfold dCut; rw [if_neg (by omega)]; rfl
    rw [e]
    refine ⟨hh, ?_⟩
    obtain ⟨k, h1, h2⟩ := run_take (scanB d.nf).1 ⟨0, [], [], t1, t2, t3⟩
    rw [hr] at h1 h2
    simp only at h1
    have hl : (d.nf.take nn).length = nn := by rw [List.length_take]; omega
    show runV _ (scanB (d.nf.take nn)).1 = (j2, (d.nf.take nn).length)
    rw [hl, h1, scan_take, h2, h1]
  · refine ⟨hh, ?_⟩
    rw [hr]; congr 1; omega
theorem openD_nf (d : DiskV) (nn : Nat) : (openD d nn).nf.length ≤ d.nf.length ∧ (openD d nn).nc = d.nc ∧ ((openD d nn).sc = d.sc ∨ (openD d nn).sc = d.nc) ∧ ((openD d nn).sf = d.sf ∨ (openD d nn).sf = (openD d nn).nf) := by
  unfold openD
  split
  · refine ⟨?_, ?_, .inr ?_, .inr rfl⟩
    · unfold dCut dSync; split <;> simp
      omega
    · unfold dCut dSync; split <;> rfl
    · unfold dCut dSync; split <;> rfl
  · exact ⟨Nat.le_refl _, rfl, .inl rfl, .inl rfl⟩
theorem takeV_grow {j j' : JV} {x : List UInt8} (he : takeV j x = some j') : j'.l.length ≤ j.l.length + 1 := by
  unfold takeV recV cutV basV at he
  split at he
  · split at he
    · split at he <;> cases he; simp
    · split at he
      · split at he <;> cases he; dsimp only; rw [List.length_take]; omega
      · split at he
        · split at he <;> cases he
          have := basL_len j (rdN (rdN x 3).2 1099511627776).1.1
          dsimp only; omega
        · cases he
  · cases he
theorem runV_len : ∀ (l : List (List UInt8)) (j : JV), 8 * (runV j l).1.l.length ≤ 8 * j.l.length + lsum l
  | [], j => by simp [runV, lsum]
  | x :: l, j => by
    cases ht : takeV j x with
    | none => simp only [runV, ht, lsum]; omega
    | some j' =>
      have h1 := takeV_grow ht
      have h2 := runV_len l j'
      simp only [runV, ht, lsum]; omega
theorem run_len {t1 t2 t3 : Int} {j2 : JV} {b : List UInt8} {nn : Nat} (hr : runV ⟨0, [], [], t1, t2, t3⟩ (scanB b).1 = (j2, nn)) : 8 * j2.l.length ≤ b.length := by
  have h1 := runV_len (scanB b).1 ⟨0, [], [], t1, t2, t3⟩
  rw [hr] at h1
  have h2 := scan_sum b
  simp only [List.length_nil] at h1
  omega

set_option maxHeartbeats 900000 in
set_option maxRecDepth 10000 in
theorem alike7_spec {w : World} {k kd : Nat} {E : Nat → Prop} {jv : JV} (FX : Jn w k kd E jv) {kr km : Nat} {DR : Nat → Prop} {dr : DiskV} (FR : RJst w kr km DR jv dr)   :
    Meets Try.prog 17 [.pointer (some ⟨k, 0, none⟩), .pointer (some ⟨kr, 0, none⟩)] w fun r w' => r = .bool true ∧ Gr w w' := by
 obtain ⟨aR, cR, aS, cS, Fr, FrL, Frd⟩ := FR.ex
 have hDR := FR.lt
 have hok := FR.ok
 obtain ⟨hb0, hb1, hll, hdl, hel⟩ := hok
 have HG := V.Fr.refl [] w
 refine V.enter (n := 72) Try.func17 rfl rfl (by decide) rfl ?_
 refine V.seq ?_
 refine V.region ?_
 refine V.run T_ok 1 rfl ?_
 refine V.nil ?_
 refine V.tN ?_
 refine V.seq ?_
 refine V.region ?_
 refine V.run T_ok 1 rfl ?_
 refine V.call (jbase_spec FX) rfl rfl rfl ?_
 rintro _ w4 ⟨a1, c2, rfl, F3, G5⟩
 have z6 := V.Fr.size G5
 try replace Fr := Fr.gr G5
 try replace FrL := FrL.gr G5
 try replace Frd := Frd.gr G5
 try replace FX := FX.gr G5
 replace HG := HG.grow G5
 clear G5
 refine V.run T_ok 5 rfl ?_
 refine V.nil ?_
 refine V.tN ?_
 refine V.seq ?_
 refine V.drawGT 6 (V.sel [(1, (fun v wz => ∃ (ra65 : Option Addr) (rc65 : Nat), v = .slice ra65 jv.l.length rc65 ∧ V.Row V.Cod.byte.sl 22 wz V.None' w4.heap.size wz.heap.size ra65 rc65 jv.l))]) mixed (by kernel_rfl) (V.mono_cons (by rintro v wz wz' g ⟨ra65, rc65, rfl, rF65⟩; exact ⟨ra65, rc65, rfl, (by first | exact (rF65.gr g).mono (V.In.sub (Nat.le_refl _) g.size) | exact rF65.gr g | exact (rF65.gr g).mono (fun _ h => h) (Nat.le_refl _) g.size | exact (rF65.gr g).mono (fun k h => ⟨h.1, Nat.lt_of_lt_of_le h.2 g.size⟩))⟩) V.mono_nil) ?_
 refine V.grun T_ok 1 rfl (V.sel_none rfl) ?_
 refine V.gcall (fun w' h => (jrec_spec (FX.gr h.1)).mono (by rintro v w'' ⟨ra65, rc65, rfl, rF65, G⟩; exact ⟨⟨ra65, rc65, rfl, (by first | exact rF65.mono (V.In.mono_l h.1.size) | exact rF65 | exact rF65.mono (fun _ h => h) h.1.size (Nat.le_refl _))⟩, G⟩)) rfl rfl rfl rfl ?_
 rintro _ w10 - - ⟨a7, c8, rfl, -⟩
 refine V.grun T_ok 3 rfl (V.sel_none rfl) ?_
 refine V.gloadO T_ok (fun w' h => Fr.gr h.1) rfl rfl rfl rfl rfl rfl ?_
 refine V.gnil ?_
 rintro w11 G12 hH13
 have z14 := V.Fr.size G12
 try replace Fr := Fr.gr G12
 try replace FrL := FrL.gr G12
 try replace Frd := Frd.gr G12
 try replace FX := FX.gr G12
 try replace F3 := F3.gr G12
 replace HG := HG.grow G12
 clear G12
 have F9 : V.Row V.Cod.byte.sl 22 w11 V.None' w4.heap.size w11.heap.size a7 c8 jv.l := by
   obtain ⟨_, _, he, F0⟩ := (V.Hist.here (hH13 1))
   cases he
   exact F0
 clear hH13
 refine V.call (rsameL_spec F9.sl FrL) rfl rfl rfl ?_
 rintro _ w11_ ⟨rfl, G16⟩
 have z17 := V.Fr.size G16
 try replace Fr := Fr.gr G16
 try replace FrL := FrL.gr G16
 try replace Frd := Frd.gr G16
 try replace FX := FX.gr G16
 try replace F3 := F3.gr G16
 try replace F9 := F9.gr G16
 replace HG := HG.grow G16
 clear G16
 refine V.run T_ok 1 rfl ?_
 refine V.nil ?_
 refine V.tN ?_
 refine V.seq ?_
 refine V.drawQ mixed (by kernel_rfl) ?_
 refine V.qrun T_ok 2 rfl ?_
 refine V.qsplitT (j := 1) (t := 21) rfl rfl (by first | rfl | simp) ?_
 refine V.qrun T_ok 4 rfl ?_
 refine V.qyes rfl rfl rfl ?_
 refine V.qloadO T_ok Fr rfl rfl rfl rfl rfl ?_
 refine V.qrun T_ok 3 rfl ?_
 refine V.qsplitT (j := 9) (t := 29) rfl rfl (by first | rfl | simp) ?_
 refine V.qrun T_ok 1 rfl ?_
 refine V.qyes rfl rfl rfl ?_
 refine V.qtoStr F3.sl Try.underlying22 Try.underlying5 Try.underlying9 rfl rfl rfl rfl ?_
 refine V.qrun T_ok 3 rfl ?_
 refine V.qyes rfl rfl rfl ?_
 refine V.qloadO T_ok Fr rfl rfl rfl rfl rfl ?_
 refine V.qyes rfl rfl rfl ?_
 refine V.qtoStr Frd Try.underlying22 Try.underlying5 Try.underlying9 rfl rfl rfl rfl ?_
 refine V.qrun T_ok 3 rfl ?_
 refine V.qsplitT (j := 19) (t := 39) rfl rfl (by first | rfl | simp) ?_
 refine V.qrun T_ok 1 rfl ?_
 refine V.qyes rfl rfl rfl ?_
 refine V.qcall V.clo (fun w1 g => (jlast_spec (FX.gr g))) rfl rfl rfl ?_
 refine V.qrun T_ok 3 rfl ?_
 refine V.qyes rfl rfl rfl ?_
 refine V.qloadO T_ok Fr rfl rfl rfl rfl rfl ?_
 refine V.qrun T_ok 3 rfl ?_
 refine V.qyes rfl rfl rfl ?_
 refine V.qloadO T_ok Fr rfl rfl rfl rfl rfl ?_
 refine V.qrun T_ok 1 rfl ?_
 refine V.qyes rfl rfl rfl ?_
 refine V.qaddN rfl rfl rfl rfl rfl (by first | omega | (simp only [List.length_take, List.length_drop, List.length_append, List.length_cons, List.length_nil, List.length_replicate, List.length_set, V.length_data, V.S_size]; omega)) (by first | omega | (simp only [List.length_take, List.length_drop, List.length_append, List.length_cons, List.length_nil, List.length_replicate, List.length_set, V.length_data, V.S_size]; omega)) ?_
 refine V.qrun T_ok 3 rfl ?_
 refine V.qsplitT (j := 34) (t := 54) rfl rfl (by first | rfl | simp) ?_
 refine V.qrun T_ok 1 rfl ?_
 refine V.qyes rfl rfl rfl ?_
 refine V.qcall V.clo (fun w1 g => (jhard_spec (FX.gr g))) rfl rfl rfl ?_
 refine V.qrun T_ok 3 rfl ?_
 refine V.qyes rfl rfl rfl ?_
 refine V.qloadO T_ok Fr rfl rfl rfl rfl rfl ?_
 refine V.qrun T_ok 3 rfl ?_
 refine V.qyes rfl rfl rfl ?_
 refine V.qloadO T_ok Fr rfl rfl rfl rfl rfl ?_
 refine V.qrun T_ok 3 rfl ?_
 refine V.qyes rfl rfl rfl ?_
 refine V.qloadO T_ok Fr rfl rfl rfl rfl rfl ?_
 refine V.qyes rfl rfl rfl ?_
 refine V.qmkStruct T_ok zero47 rfl rfl rfl rfl rfl ?_
 refine V.qyes rfl rfl rfl ?_
 refine V.qstep rfl rfl (fun _ _ => V.eqA_run rfl rfl rfl eqG47 (eqS47 _)) ?_
 refine V.qrun T_ok 2 rfl ?_
 refine V.qnil ?_
 rintro w18 G19
 have z20 := V.Fr.size G19
 try replace Fr := Fr.gr G19
 try replace FrL := FrL.gr G19
 try replace Frd := Frd.gr G19
 try replace FX := FX.gr G19
 try replace F3 := F3.gr G19
 try replace F9 := F9.gr G19
 replace HG := HG.grow G19
 clear G19
 refine V.tN ?_
 refine V.ret ?_
 refine V.done rfl ?_
 exact ⟨(congrArg Value.bool (by first | rfl | simp)), HG⟩

theorem alike7_j {w : World} {k kd : Nat} {EJ : Nat → Prop} {jv : JV} {dv : DiskV} (FJ : Jst w k kd EJ jv dv) {kr km : Nat} {DR : Nat → Prop} {dr : DiskV} (FR : RJst w kr km DR jv dr)   :
    Meets Try.prog 17 [.pointer (some ⟨k, 0, none⟩), .pointer (some ⟨kr, 0, none⟩)] w fun r w' => r = .bool true ∧ Gr w w' := by
  obtain ⟨E, D, FX, -⟩ := FJ.ex
  exact alike7_spec FX FR

theorem open_again2 {w : World} {k kd : Nat} {EJ : Nat → Prop} {jv : JV} {dv : DiskV} (FJ : Jst w k kd EJ jv dv)  {t1 t2 t3 : Int} {j2 : JV} (hh : hardV dv.nc = some (t1, t2, t3)) (hr : runV ⟨0, [], [], t1, t2, t3⟩ (scanB dv.nf).1 = (j2, dv.nf.length)) (hnf : dv.nf.length ≤ 4000000) :
    Meets Try.prog 15 [.pointer (some ⟨kd, 0, none⟩)] w fun r w' => ∃ (rk1 : Nat), r = .tuple #[.pointer (some ⟨rk1, 0, none⟩), .int .i64 0] ∧ (w.heap.size ≤ rk1 ∧ rk1 < w'.heap.size) ∧ Jn w' rk1 kd (V.In w.heap.size w'.heap.size) j2 ∧ Gr w w' := by
  exact open_keep FJ.dk hh hr hnf rfl

set_option maxHeartbeats 900000 in
set_option maxRecDepth 10000 in
theorem journalOpens_walk {w : World}  {D_file : Nat → Prop} {c_file : Nat} {a_file : Option Addr} {file : List UInt8} (F_file : Sl V.Cod.byte w D_file a_file c_file file) (hD_file : ∀ k, D_file k → k < w.heap.size) {D_cell : Nat → Prop} {c_cell : Nat} {a_cell : Option Addr} {cell : List UInt8} (F_cell : Sl V.Cod.byte w D_cell a_cell c_cell cell) (hD_cell : ∀ k, D_cell k → k < w.heap.size)  :
    Meets Try.prog 3 [.slice a_file file.length c_file, .slice a_cell cell.length c_cell] w fun r w' => r = .bool true ∧ Gr w w' := by
 have HG := V.Fr.refl [] w
 refine V.enter (n := 101) Try.func3 rfl rfl (by decide) rfl ?_
 refine V.seq ?_
 refine V.region ?_
 refine V.run T_ok 1 rfl ?_
 refine V.nil ?_
 refine V.tN ?_
 refine V.seq ?_
 refine V.seq ?_
 refine V.region ?_
 refine V.run T_ok 4 rfl ?_
 refine V.orG T_ok 3 3 18 rfl rfl rfl rfl rfl rfl rfl rfl ?_
 refine V.nil ?_
 refine V.tN ?_
 refine V.condT rfl (fun h1 => ?_) (fun h1 => ?_)
 ·
  try replace h1 := V.dec h1
  try simp only [V.mk0, V.mk1, V.mk2, V.mk3] at h1
  refine V.seq ?_
  refine V.region ?_
  refine V.call (alive_spec) rfl rfl rfl ?_
  rintro _ w1 ⟨rfl, G2⟩
  have z3 := V.Fr.size G2
  try replace F_file := F_file.gr G2
  try replace F_cell := F_cell.gr G2
  replace HG := HG.grow G2
  clear G2
  refine V.run T_ok 1 rfl ?_
  refine V.nil ?_
  refine V.tN ?_
  refine V.ret ?_
  refine V.tR ?_
  refine V.done rfl ?_
  exact ⟨(congrArg Value.bool (by first | rfl | simp)), HG⟩
 ·
  try replace h1 := V.dec h1
  try simp only [V.mk0, V.mk1, V.mk2, V.mk3] at h1
  refine V.skip ?_
  refine V.tN ?_
  refine V.seq ?_
  refine V.region ?_
  refine V.call (dk_new) rfl rfl rfl ?_
  rintro _ w7 ⟨k4, rfl, ⟨h5l, h5u⟩, F6, G8⟩
  have z9 := V.Fr.size G8
  try replace F_file := F_file.gr G8
  try replace F_cell := F_cell.gr G8
  replace HG := HG.grow G8
  clear G8
  refine V.run T_ok 1 rfl ?_
  refine V.nil ?_
  refine V.tN ?_
  refine V.seq ?_
  refine V.region ?_
  refine V.run T_ok 2 rfl ?_
  refine V.call (dk_append F6 F_file (by first | omega | (simp only [List.length_take, List.length_drop, List.length_append, List.length_cons, List.length_nil, List.length_replicate, List.length_set, V.length_data, V.S_size]; omega))) rfl rfl rfl ?_
  rintro _ w11 ⟨rfl, F10, G12⟩
  have z13 := V.Fr.size G12
  try replace F_file := F_file.mb G12 hD_file
  try replace F_cell := F_cell.mb G12 hD_cell
  first | replace F6 := F6.mv1 G12 (by (try dsimp only [V.In]); first | omega | grind) | clear F6 | skip
  replace HG := HG.n1 G12
  clear G12
  refine V.nil ?_
  refine V.tN ?_
  refine V.seq ?_
  rw [show dAppend (⟨[], [], [], []⟩ : DiskV) file = ⟨[], [], file, []⟩ by unfold dAppend; rw [if_neg (by dsimp only; simp only [List.length_nil]; omega)]; simp] at F10
  refine V.region ?_
  refine V.run T_ok 2 rfl ?_
  refine V.call (dk_set F10 F_cell (by first | omega | (simp only [List.length_take, List.length_drop, List.length_append, List.length_cons, List.length_nil, List.length_replicate, List.length_set, V.length_data, V.S_size]; omega))) rfl rfl rfl ?_
  rintro _ w15 ⟨rfl, F14, G16⟩
  have z17 := V.Fr.size G16
  try replace F_file := F_file.mb G16 hD_file
  try replace F_cell := F_cell.mb G16 hD_cell
  first | replace F10 := F10.mv1 G16 (by (try dsimp only [V.In]); first | omega | grind) | clear F10 | skip
  replace HG := HG.n1 G16
  clear G16
  refine V.nil ?_
  refine V.tN ?_
  refine V.seq ?_
  rw [show dSet (⟨[], [], file, []⟩ : DiskV) cell = ⟨[], [], file, cell⟩ by unfold dSet; rw [if_neg (by omega)]] at F14
  refine V.region ?_
  refine V.mkStruct T_ok zero30 rfl rfl rfl rfl rfl ?_
  refine V.box rfl rfl rfl rfl ?_
  rintro k18 w20 s22 s23 G21 Fk19
  have z24 := V.Fr.size G21
  try replace F_file := F_file.gr G21
  try replace F_cell := F_cell.gr G21
  try replace F14 := F14.gr G21
  replace HG := HG.grow G21
  clear G21
  try simp only [V.cellsL, V.spliceL] at Fk19
  refine V.run T_ok 1 rfl ?_
  refine V.nil ?_
  refine V.tN ?_
  refine V.seq ?_
  have FM0 := RDk.new (RDsk.nil (D := fun i => w20.heap.size ≤ i) Fk19 (by have := Cells.lt Fk19; omega) (fun i h => h)) (D := V.None') (fun i h h2 => by omega) (fun h => h) (fun i h => h.elim)
  clear Fk19
  refine V.region ?_
  refine V.run T_ok 2 rfl ?_
  refine V.call (rk_append FM0 F_file (by first | omega | (simp only [List.length_take, List.length_drop, List.length_append, List.length_cons, List.length_nil, List.length_replicate, List.length_set, V.length_data, V.S_size]; omega))) rfl rfl rfl ?_
  rintro _ w26 ⟨rfl, F25, G27⟩
  have z28 := V.Fr.size G27
  try replace F_file := F_file.mb G27 hD_file
  try replace F_cell := F_cell.mb G27 hD_cell
  first | replace F14 := F14.mv1 G27 (by (try dsimp only [V.In]); first | omega | grind) | clear F14 | skip
  first | replace FM0 := FM0.mv1 G27 (by (try dsimp only [V.In]); first | omega | grind) | clear FM0 | skip
  replace HG := HG.n1 G27
  clear G27
  refine V.nil ?_
  refine V.tN ?_
  refine V.seq ?_
  rw [show dAppend (⟨[], [], [], []⟩ : DiskV) file = ⟨[], [], file, []⟩ by unfold dAppend; rw [if_neg (by dsimp only; simp only [List.length_nil]; omega)]; simp] at F25
  refine V.region ?_
  refine V.run T_ok 2 rfl ?_
  refine V.call (rk_set F25 F_cell (by first | omega | (simp only [List.length_take, List.length_drop, List.length_append, List.length_cons, List.length_nil, List.length_replicate, List.length_set, V.length_data, V.S_size]; omega))) rfl rfl rfl ?_
  rintro _ w30 ⟨rfl, F29, G31⟩
  have z32 := V.Fr.size G31
  try replace F_file := F_file.mb G31 hD_file
  try replace F_cell := F_cell.mb G31 hD_cell
  first | replace F14 := F14.mv1 G31 (by (try dsimp only [V.In]); first | omega | grind) | clear F14 | skip
  first | replace F25 := F25.mv1 G31 (by (try dsimp only [V.In]); first | omega | grind) | clear F25 | skip
  replace HG := HG.n1 G31
  clear G31
  refine V.nil ?_
  refine V.tN ?_
  refine V.seq ?_
  rcases hho : hardV cell with _ | ⟨t1, t2, t3⟩
  ·
   rw [show dSet (⟨[], [], file, []⟩ : DiskV) cell = ⟨[], [], file, cell⟩ by unfold dSet; rw [if_neg (by omega)]] at F29
   refine V.region ?_
   refine V.run T_ok 1 rfl ?_
   refine V.call (open_none F14 hho) rfl rfl rfl ?_
   rintro _ w33 ⟨rfl, G34⟩
   have z35 := V.Fr.size G34
   try replace F_file := F_file.gr G34
   try replace F_cell := F_cell.gr G34
   try replace F14 := F14.gr G34
   try replace F29 := F29.gr G34
   replace HG := HG.grow G34
   clear G34
   refine V.run T_ok 5 rfl ?_
   refine V.nil ?_
   refine V.tN ?_
   refine V.seq ?_
   refine V.region ?_
   refine V.run T_ok 1 rfl ?_
   refine V.call (ropen_none F29 hho) rfl rfl rfl ?_
   rintro _ w36 ⟨rfl, G37⟩
   have z38 := V.Fr.size G37
   try replace F_file := F_file.gr G37
   try replace F_cell := F_cell.gr G37
   try replace F14 := F14.gr G37
   try replace F29 := F29.gr G37
   replace HG := HG.grow G37
   clear G37
   refine V.run T_ok 5 rfl ?_
   refine V.nil ?_
   refine V.tN ?_
   refine V.seq ?_
   refine V.seq ?_
   refine V.region ?_
   refine V.run T_ok 7 rfl ?_
   refine V.nil ?_
   refine V.tN ?_
   refine V.condY rfl rfl ?_
   refine V.seq ?_
   refine V.region ?_
   refine V.call (alive_spec) rfl rfl rfl ?_
   rintro _ w39 ⟨rfl, G40⟩
   have z41 := V.Fr.size G40
   try replace F_file := F_file.gr G40
   try replace F_cell := F_cell.gr G40
   try replace F14 := F14.gr G40
   try replace F29 := F29.gr G40
   replace HG := HG.grow G40
   clear G40
   refine V.run T_ok 10 rfl ?_
   refine V.nil ?_
   refine V.tN ?_
   refine V.ret ?_
   refine V.tR ?_
   refine V.done rfl ?_
   exact ⟨(congrArg Value.bool (by first | rfl | simp)), HG⟩
  ·
   rcases hrr : runV ⟨0, [], [], t1, t2, t3⟩ (scanB file).1 with ⟨j2, nn⟩
   have hre := openD_re (d := (⟨[], [], file, cell⟩ : DiskV)) hho hrr
   have hrn := (openD_nf (⟨[], [], file, cell⟩ : DiskV) nn).1
   dsimp only at hrn
   rw [show dSet (⟨[], [], file, []⟩ : DiskV) cell = ⟨[], [], file, cell⟩ by unfold dSet; rw [if_neg (by omega)]] at F29
   refine V.region ?_
   refine V.run T_ok 1 rfl ?_
   refine V.call (open_some F14 hho hrr (by first | omega | (dsimp only; omega))) rfl rfl rfl ?_
   rintro _ w45 ⟨k42, rfl, ⟨h43l, h43u⟩, F44, G46⟩
   have z47 := V.Fr.size G46
   try replace F_file := F_file.mb G46 hD_file
   try replace F_cell := F_cell.mb G46 hD_cell
   first | replace F14 := F14.mv1 G46 (by (try dsimp only [V.In]); first | omega | grind) | clear F14 | skip
   first | replace F29 := F29.mv1 G46 (by (try dsimp only [V.In]); first | omega | grind) | clear F29 | skip
   replace HG := HG.n1 G46
   clear G46
   refine V.run T_ok 5 rfl ?_
   refine V.nil ?_
   refine V.tN ?_
   refine V.seq ?_
   refine V.region ?_
   refine V.run T_ok 1 rfl ?_
   refine V.call (ropen_some F29 hho hrr (by first | omega | (dsimp only; omega))) rfl rfl rfl ?_
   rintro _ w51 ⟨k48, rfl, ⟨h49l, h49u⟩, F50, G52⟩
   have z53 := V.Fr.size G52
   try replace F_file := F_file.mb G52 hD_file
   try replace F_cell := F_cell.mb G52 hD_cell
   first | replace F29 := F29.mv1 G52 (by (try dsimp only [V.In]); first | omega | grind) | clear F29 | skip
   first | replace F44 := F44.mv1 G52 (by (try dsimp only [V.In]); first | omega | grind) | clear F44 | skip
   replace HG := HG.n1 G52
   clear G52
   refine V.run T_ok 5 rfl ?_
   refine V.nil ?_
   refine V.tN ?_
   refine V.seq ?_
   refine V.seq ?_
   refine V.region ?_
   refine V.run T_ok 7 rfl ?_
   refine V.nil ?_
   refine V.tN ?_
   refine V.condN rfl rfl ?_
   refine V.skip ?_
   refine V.tN ?_
   refine V.seq ?_
   refine V.region ?_
   refine V.run T_ok 1 rfl ?_
   refine V.call (open_again2 F44 hre.1 hre.2 (by omega)) rfl rfl rfl ?_
   rintro _ w57 ⟨k54, rfl, ⟨h55l, h55u⟩, F56, G58⟩
   have z59 := V.Fr.size G58
   try replace F_file := F_file.gr G58
   try replace F_cell := F_cell.gr G58
   try replace F44 := F44.gr G58
   try replace F50 := F50.gr G58
   replace HG := HG.grow G58
   clear G58
   refine V.run T_ok 5 rfl ?_
   refine V.nil ?_
   refine V.tN ?_
   refine V.seq ?_
   refine V.seq ?_
   refine V.region ?_
   refine V.run T_ok 6 rfl ?_
   refine V.nil ?_
   refine V.tN ?_
   refine V.condN rfl rfl ?_
   refine V.skip ?_
   refine V.tN ?_
   refine V.seq ?_
   refine V.region ?_
   refine V.run T_ok 2 rfl ?_
   refine V.call (alike7_j F44 F50) rfl rfl rfl ?_
   rintro _ w60 ⟨rfl, G61⟩
   have z62 := V.Fr.size G61
   try replace F_file := F_file.gr G61
   try replace F_cell := F_cell.gr G61
   try replace F44 := F44.gr G61
   try replace F50 := F50.gr G61
   try replace F56 := F56.gr G61
   replace HG := HG.grow G61
   clear G61
   refine V.run T_ok 1 rfl ?_
   refine V.nil ?_
   refine V.tN ?_
   refine V.seq ?_
   refine V.region ?_
   refine V.run T_ok 2 rfl ?_
   refine V.call (alike7_spec F56 F50) rfl rfl rfl ?_
   rintro _ w63 ⟨rfl, G64⟩
   have z65 := V.Fr.size G64
   try replace F_file := F_file.gr G64
   try replace F_cell := F_cell.gr G64
   try replace F44 := F44.gr G64
   try replace F50 := F50.gr G64
   try replace F56 := F56.gr G64
   replace HG := HG.grow G64
   clear G64
   refine V.run T_ok 1 rfl ?_
   refine V.nil ?_
   refine V.tN ?_
   refine V.seq ?_
   obtain ⟨aq660, cq660, aq661, cq661, aq662, cq662, aq663, cq663, Fm67, Fq660, Fq661, Fq662, Fq663⟩ := F50.dk.open
   refine V.drawGT 16 (V.sel [(0, (fun v wz => v = .bool true)), (9, (fun v wz => ∃ (ra54 : Option Addr) (rc54 : Nat), v = .slice ra54 (openD (⟨[], [], file, cell⟩ : DiskV) nn).nf.length rc54 ∧ V.Row V.Cod.byte 5 wz V.None' w63.heap.size wz.heap.size ra54 rc54 (openD (⟨[], [], file, cell⟩ : DiskV) nn).nf))]) mixed (by kernel_rfl) (V.mono_cons V.eqV_mono (V.mono_cons (by rintro v wz wz' g ⟨ra54, rc54, rfl, rF54⟩; exact ⟨ra54, rc54, rfl, (by first | exact (rF54.gr g).mono (V.In.sub (Nat.le_refl _) g.size) | exact rF54.gr g | exact (rF54.gr g).mono (fun _ h => h) (Nat.le_refl _) g.size | exact (rF54.gr g).mono (fun k h => ⟨h.1, Nat.lt_of_lt_of_le h.2 g.size⟩))⟩) V.mono_nil)) ?_
   refine V.gcall (fun w' h => alive_spec.mono (by rintro v w'' ⟨rfl, G⟩; exact ⟨rfl, G⟩)) rfl rfl rfl rfl ?_
   rintro _ w68 - - rfl
   refine V.grun T_ok 8 rfl (V.sel_none rfl) ?_
   refine V.gyes rfl rfl rfl ?_
   refine V.gcall (fun w' h => (jd_file (F44.gr h.1)).mono (by rintro v w'' ⟨ra54, rc54, rfl, rF54, G⟩; exact ⟨⟨ra54, rc54, rfl, (by first | exact rF54.mono (V.In.mono_l h.1.size) | exact rF54 | exact rF54.mono (fun _ h => h) h.1.size (Nat.le_refl _))⟩, G⟩)) rfl rfl rfl rfl ?_
   rintro _ w72 - - ⟨a69, c70, rfl, -⟩
   refine V.gyes rfl rfl rfl ?_
   refine V.gtoStr (fun w' h => by obtain ⟨_, _, he, F0⟩ := (V.Hist.here (h.get (i := 9) rfl)); cases he; exact F0.sl.mono (fun _ _ => trivial)) Try.underlying22 Try.underlying5 Try.underlying9 rfl rfl rfl rfl rfl ?_
   refine V.grun T_ok 3 rfl (V.sel_none rfl) ?_
   refine V.gyes rfl rfl rfl ?_
   refine V.gloadO T_ok (fun w' h => Fm67.gr h.1) rfl rfl rfl rfl rfl rfl ?_
   refine V.gyes rfl rfl rfl ?_
   refine V.gtoStr (fun w' h => Fq661.gr h.1) Try.underlying22 Try.underlying5 Try.underlying9 rfl rfl rfl rfl rfl ?_
   refine V.gnil ?_
   rintro w73 G74 hH75
   have z76 := V.Fr.size G74
   try replace F_file := F_file.gr G74
   try replace F_cell := F_cell.gr G74
   try replace F44 := F44.gr G74
   try replace F50 := F50.gr G74
   try replace F56 := F56.gr G74
   try replace Fq660 := Fq660.gr G74
   try replace Fq661 := Fq661.gr G74
   try replace Fq662 := Fq662.gr G74
   try replace Fq663 := Fq663.gr G74
   try replace Fm67 := Fm67.gr G74
   replace HG := HG.grow G74
   clear G74
   have F71 : V.Row V.Cod.byte 5 w73 V.None' w63.heap.size w73.heap.size a69 c70 (openD (⟨[], [], file, cell⟩ : DiskV) nn).nf := by
     obtain ⟨_, _, he, F0⟩ := (V.Hist.here (hH75 9))
     cases he
     exact F0
   clear hH75
   refine V.run T_ok 3 rfl ?_
   refine V.nil ?_
   refine V.tN ?_
   refine V.ret ?_
   refine V.done rfl ?_
   exact ⟨(congrArg Value.bool (by first | rfl | simp)), HG⟩

end Go.Proofs.Ytnbijpijbhkcpaa
