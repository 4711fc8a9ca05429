/- Proved here: walks: what functions of this seat's program return and what they leave of memory, each as a contract. Conditions: stated at each theorem. -/
import Derived.Test.YtnbijpijbhkcpaaMjr
namespace Go.Proofs.Ytnbijpijbhkcpaa
set_option linter.unusedVariables false
set_option linter.unusedSimpArgs false
open Go
open V (Bytes Meets Env Sl Own Gr Fr Cells S)
set_option maxHeartbeats 900000 in
set_option maxRecDepth 10000 in
theorem ropen_some {w : World} {km : Nat} {D : Nat → Prop} {dv : DiskV} (FM : RDk w km D dv)  {t1 t2 t3 : Int} {j2 : JV} {nn : Nat} (hh : hardV dv.nc = some (t1, t2, t3)) (hr : runV ⟨0, [], [], t1, t2, t3⟩ (scanB dv.nf).1 = (j2, nn)) (hnf : dv.nf.length ≤ 4000000) :
    Meets Try.prog 16 [.pointer (some ⟨km, 0, none⟩)] w fun r w' => ∃ (rk1 : Nat), r = .tuple #[.pointer (some ⟨rk1, 0, none⟩), .int .i64 0] ∧ (w.heap.size ≤ rk1 ∧ rk1 < w'.heap.size) ∧ RJst w' rk1 km (fun i => (D i ∨ V.In w.heap.size w'.heap.size i) ∧ i ≠ rk1) j2 (openD dv nn) ∧ Fr [km] w w' := by
 have hD := FM.lt
 have hDm := FM.nk
 have hml := FM.klt
 obtain ⟨hs0, hs1, hs2, hs3⟩ := FM.ds.small
 obtain ⟨aD0, cD0, aD1, cD1, aD2, cD2, aD3, cD3, Fm, Fs0, Fs1, Fs2, Fs3⟩ := FM.open
 have hwl := wholeB_len dv.nc
 have HG := V.Fr.refl [km] w
 refine V.enter (n := 97) Try.func16 rfl rfl (by decide) rfl ?_
 refine V.seq ?_
 refine V.region ?_
 refine V.run T_ok 2 rfl ?_
 refine V.nil ?_
 refine V.tN ?_
 refine V.seq ?_
 refine V.region ?_
 refine V.run T_ok 1 rfl ?_
 refine V.mkStruct T_ok zero82 rfl rfl rfl rfl rfl ?_
 refine V.box rfl rfl rfl rfl ?_
 rintro k1 w3 s5 s6 G4 Fk2
 have z7 := V.Fr.size G4
 try replace Fm := Fm.gr G4
 try replace Fs0 := Fs0.gr G4
 try replace Fs1 := Fs1.gr G4
 try replace Fs2 := Fs2.gr G4
 try replace Fs3 := Fs3.gr G4
 try replace FM := FM.gr G4
 replace HG := HG.grow G4
 clear G4
 try simp only [V.cellsL, V.spliceL] at Fk2
 refine V.run T_ok 1 rfl ?_
 refine V.nil ?_
 refine V.tN ?_
 refine V.seq ?_
 refine V.seq ?_
 have hkD : ¬ D k1 := fun h => by have := hD _ h; omega
 have hkm : k1 ≠ km := by omega
 refine V.region ?_
 refine V.run T_ok 3 rfl ?_
 refine V.loadO T_ok Fm rfl rfl rfl rfl rfl ?_
 refine V.run T_ok 2 rfl ?_
 refine V.nil ?_
 refine V.tN ?_
 refine V.condT rfl (fun h2 => ?_) (fun h2 => ?_)
 ·
  try replace h2 := V.dec h2
  try simp only [V.mk0, V.mk1, V.mk2, V.mk3] at h2
  refine V.seq ?_
  refine V.region ?_
  refine V.run T_ok 3 rfl ?_
  refine V.loadO T_ok Fm rfl rfl rfl rfl rfl ?_
  refine V.call (rwhole_spec Fs3 (by intro k h; (try dsimp only [V.In] at h ⊢); first | omega | grind)) rfl rfl rfl ?_
  rintro _ w11 ⟨a8, c9, rfl, F10, G12⟩
  have z13 := V.Fr.size G12
  try replace Fm := Fm.gr G12
  try replace Fs0 := Fs0.gr G12
  try replace Fs1 := Fs1.gr G12
  try replace Fs2 := Fs2.gr G12
  try replace Fs3 := Fs3.gr G12
  try replace FM := FM.gr G12
  try replace Fk2 := Fk2.gr G12
  replace HG := HG.grow G12
  clear G12
  refine V.run T_ok 5 rfl ?_
  refine V.nil ?_
  refine V.tN ?_
  refine V.seq ?_
  refine V.region ?_
  refine V.run T_ok 1 rfl ?_
  refine V.call (rp_open F10 (fun k hk => by first | omega | (have := hD k hk; omega))) rfl rfl rfl ?_
  rintro _ w17 ⟨k14, rfl, ⟨h15l, h15u⟩, F16, G18⟩
  have z19 := V.Fr.size G18
  try replace Fm := Fm.gr G18
  try replace Fs0 := Fs0.gr G18
  try replace Fs1 := Fs1.gr G18
  try replace Fs2 := Fs2.gr G18
  try replace Fs3 := Fs3.gr G18
  try replace FM := FM.gr G18
  try replace Fk2 := Fk2.gr G18
  try replace F10 := F10.gr G18
  replace HG := HG.grow G18
  clear G18
  refine V.run T_ok 1 rfl ?_
  refine V.nil ?_
  refine V.tN ?_
  refine V.seq ?_
  refine V.region ?_
  refine V.run T_ok 2 rfl ?_
  refine V.call (rf_n (most := 1099511627776) F16) rfl rfl rfl ?_
  rintro _ w21 ⟨rfl, F20, G22⟩
  have z23 := V.Fr.size G22
  try replace Fm := Fm.ma G22
  first | replace Fs0 := Fs0.mv1 G22 (by (try dsimp only [V.In]); first | omega | grind) | clear Fs0 | skip
  first | replace Fs1 := Fs1.mv1 G22 (by (try dsimp only [V.In]); first | omega | grind) | clear Fs1 | skip
  first | replace Fs2 := Fs2.mv1 G22 (by (try dsimp only [V.In]); first | omega | grind) | clear Fs2 | skip
  first | replace Fs3 := Fs3.mv1 G22 (by (try dsimp only [V.In]); first | omega | grind) | clear Fs3 | skip
  first | replace FM := FM.mv1 G22 (by (try dsimp only [V.In]); first | omega | grind) | clear FM | skip
  try replace Fk2 := Fk2.ma G22
  try replace F10 := F10.ma G22
  try replace F16 := F16.ma G22
  replace HG := HG.n1 G22
  clear G22
  refine V.run T_ok 2 rfl ?_
  refine V.storeO Fk2 rfl rfl rfl rfl sz3 rfl rfl rfl rfl ?_
  rintro w24 G25 z27 Fs26
  clear Fk2
  have z28 := V.Fr.size G25
  try replace Fm := Fm.ma G25
  first | replace Fs0 := Fs0.mv1 G25 (by (try dsimp only [V.In]); first | omega | grind) | clear Fs0 | skip
  first | replace Fs1 := Fs1.mv1 G25 (by (try dsimp only [V.In]); first | omega | grind) | clear Fs1 | skip
  first | replace Fs2 := Fs2.mv1 G25 (by (try dsimp only [V.In]); first | omega | grind) | clear Fs2 | skip
  first | replace Fs3 := Fs3.mv1 G25 (by (try dsimp only [V.In]); first | omega | grind) | clear Fs3 | skip
  first | replace FM := FM.mv1 G25 (by (try dsimp only [V.In]); first | omega | grind) | clear FM | skip
  try replace F10 := F10.ma G25
  try replace F20 := F20.ma G25
  replace HG := HG.n1 G25
  clear G25
  have Fk2 := Fs26; clear Fs26
  simp only [V.spliceL, V.cellsL] at Fk2
  refine V.nil ?_
  refine V.tN ?_
  refine V.seq ?_
  have hr_d1 : (rfN (⟨((wholeB dv.nc).1), 0, false⟩ : RfV) (1099511627776 : Int)).bs.drop (rfN (⟨((wholeB dv.nc).1), 0, false⟩ : RfV) (1099511627776 : Int)).i = (rdN (wholeB dv.nc).1 1099511627776).2 := by exact rfN_rest _ _
  have hb_d1 : (rfN (⟨((wholeB dv.nc).1), 0, false⟩ : RfV) (1099511627776 : Int)).bad = (false || decide ((rdN (wholeB dv.nc).1 1099511627776).1.2 ≠ 0)) := by unfold rfN; rfl
  have hl_d1 := F20.le
  generalize rfN (⟨((wholeB dv.nc).1), 0, false⟩ : RfV) (1099511627776 : Int) = d1 at F20 hr_d1 hb_d1 hl_d1
  generalize hv_m1 : (rdN (((wholeB dv.nc).1).drop 0) (1099511627776 : Int)).1.1 = m1 at Fk2 ⊢
  replace hv_m1 : (rdN (wholeB dv.nc).1 1099511627776).1.1 = m1 := hv_m1
  refine V.region ?_
  refine V.run T_ok 2 rfl ?_
  refine V.call (rf_n (most := 1099511627776) F20) rfl rfl rfl ?_
  rintro _ w30 ⟨rfl, F29, G31⟩
  have z32 := V.Fr.size G31
  try replace Fm := Fm.ma G31
  first | replace Fs0 := Fs0.mv1 G31 (by (try dsimp only [V.In]); first | omega | grind) | clear Fs0 | skip
  first | replace Fs1 := Fs1.mv1 G31 (by (try dsimp only [V.In]); first | omega | grind) | clear Fs1 | skip
  first | replace Fs2 := Fs2.mv1 G31 (by (try dsimp only [V.In]); first | omega | grind) | clear Fs2 | skip
  first | replace Fs3 := Fs3.mv1 G31 (by (try dsimp only [V.In]); first | omega | grind) | clear Fs3 | skip
  first | replace FM := FM.mv1 G31 (by (try dsimp only [V.In]); first | omega | grind) | clear FM | skip
  try replace F10 := F10.ma G31
  try replace F20 := F20.ma G31
  try replace Fk2 := Fk2.ma G31
  replace HG := HG.n1 G31
  clear G31
  refine V.run T_ok 2 rfl ?_
  refine V.storeO Fk2 rfl rfl rfl rfl sz3 rfl rfl rfl rfl ?_
  rintro w33 G34 z36 Fs35
  clear Fk2
  have z37 := V.Fr.size G34
  try replace Fm := Fm.ma G34
  first | replace Fs0 := Fs0.mv1 G34 (by (try dsimp only [V.In]); first | omega | grind) | clear Fs0 | skip
  first | replace Fs1 := Fs1.mv1 G34 (by (try dsimp only [V.In]); first | omega | grind) | clear Fs1 | skip
  first | replace Fs2 := Fs2.mv1 G34 (by (try dsimp only [V.In]); first | omega | grind) | clear Fs2 | skip
  first | replace Fs3 := Fs3.mv1 G34 (by (try dsimp only [V.In]); first | omega | grind) | clear Fs3 | skip
  first | replace FM := FM.mv1 G34 (by (try dsimp only [V.In]); first | omega | grind) | clear FM | skip
  try replace F10 := F10.ma G34
  try replace F29 := F29.ma G34
  replace HG := HG.n1 G34
  clear G34
  have Fk2 := Fs35; clear Fs35
  simp only [V.spliceL, V.cellsL] at Fk2
  refine V.nil ?_
  refine V.tN ?_
  refine V.seq ?_
  have hr_d2 : (rfN d1 (1099511627776 : Int)).bs.drop (rfN d1 (1099511627776 : Int)).i = (rdN (rdN (wholeB dv.nc).1 1099511627776).2 1099511627776).2 := by rw [rfN_rest, hr_d1]
  have hb_d2 : (rfN d1 (1099511627776 : Int)).bad = (d1.bad || decide ((rdN (rdN (wholeB dv.nc).1 1099511627776).2 1099511627776).1.2 ≠ 0)) := by unfold rfN; rw [hr_d1]
  have hl_d2 := F29.le
  generalize rfN d1 (1099511627776 : Int) = d2 at F29 hr_d2 hb_d2 hl_d2
  generalize hv_m2 : (rdN (d1.bs.drop d1.i) (1099511627776 : Int)).1.1 = m2 at Fk2 ⊢
  rw [hr_d1] at hv_m2
  refine V.region ?_
  refine V.run T_ok 2 rfl ?_
  refine V.call (rf_n (most := 1099511627776) F29) rfl rfl rfl ?_
  rintro _ w39 ⟨rfl, F38, G40⟩
  have z41 := V.Fr.size G40
  try replace Fm := Fm.ma G40
  first | replace Fs0 := Fs0.mv1 G40 (by (try dsimp only [V.In]); first | omega | grind) | clear Fs0 | skip
  first | replace Fs1 := Fs1.mv1 G40 (by (try dsimp only [V.In]); first | omega | grind) | clear Fs1 | skip
  first | replace Fs2 := Fs2.mv1 G40 (by (try dsimp only [V.In]); first | omega | grind) | clear Fs2 | skip
  first | replace Fs3 := Fs3.mv1 G40 (by (try dsimp only [V.In]); first | omega | grind) | clear Fs3 | skip
  first | replace FM := FM.mv1 G40 (by (try dsimp only [V.In]); first | omega | grind) | clear FM | skip
  try replace F10 := F10.ma G40
  try replace F29 := F29.ma G40
  try replace Fk2 := Fk2.ma G40
  replace HG := HG.n1 G40
  clear G40
  refine V.run T_ok 2 rfl ?_
  refine V.storeO Fk2 rfl rfl rfl rfl sz3 rfl rfl rfl rfl ?_
  rintro w42 G43 z45 Fs44
  clear Fk2
  have z46 := V.Fr.size G43
  try replace Fm := Fm.ma G43
  first | replace Fs0 := Fs0.mv1 G43 (by (try dsimp only [V.In]); first | omega | grind) | clear Fs0 | skip
  first | replace Fs1 := Fs1.mv1 G43 (by (try dsimp only [V.In]); first | omega | grind) | clear Fs1 | skip
  first | replace Fs2 := Fs2.mv1 G43 (by (try dsimp only [V.In]); first | omega | grind) | clear Fs2 | skip
  first | replace Fs3 := Fs3.mv1 G43 (by (try dsimp only [V.In]); first | omega | grind) | clear Fs3 | skip
  first | replace FM := FM.mv1 G43 (by (try dsimp only [V.In]); first | omega | grind) | clear FM | skip
  try replace F10 := F10.ma G43
  try replace F38 := F38.ma G43
  replace HG := HG.n1 G43
  clear G43
  have Fk2 := Fs44; clear Fs44
  simp only [V.spliceL, V.cellsL] at Fk2
  refine V.nil ?_
  refine V.tN ?_
  refine V.seq ?_
  have hr_d3 : (rfN d2 (1099511627776 : Int)).bs.drop (rfN d2 (1099511627776 : Int)).i = (rdN (rdN (rdN (wholeB dv.nc).1 1099511627776).2 1099511627776).2 1099511627776).2 := by rw [rfN_rest, hr_d2]
  have hb_d3 : (rfN d2 (1099511627776 : Int)).bad = (d2.bad || decide ((rdN (rdN (rdN (wholeB dv.nc).1 1099511627776).2 1099511627776).2 1099511627776).1.2 ≠ 0)) := by unfold rfN; rw [hr_d2]
  have hl_d3 := F38.le
  generalize rfN d2 (1099511627776 : Int) = d3 at F38 hr_d3 hb_d3 hl_d3
  generalize hv_m3 : (rdN (d2.bs.drop d2.i) (1099511627776 : Int)).1.1 = m3 at Fk2 ⊢
  rw [hr_d2] at hv_m3
  have hw := whole_iff hl_d3
  refine V.region ?_
  refine V.run T_ok 3 rfl ?_
  refine V.split (j := 2) (t := 49) rfl rfl (fun g8_2 => ?_) (fun g8_2 => ?_)
  ·
   try replace g8_2 := V.dec g8_2
   try simp only [V.mk0, V.mk1, V.mk2, V.mk3] at g8_2
   refine V.run T_ok 4 rfl ?_
   refine V.nil ?_
   refine V.tN ?_
   refine V.condY rfl rfl ?_
   refine V.seq ?_
   refine V.region ?_
   refine V.run T_ok 2 rfl ?_
   refine V.nil ?_
   refine V.tN ?_
   refine V.ret ?_
   refine V.tR ?_
   refine V.done rfl ?_
   exfalso
   have hne : ¬ dv.nc = [] := fun e => by rw [e] at h2; simp at h2
   have hhv : hardV dv.nc = none := by unfold hardV; rw [if_neg hne, if_neg]; rintro hh9; grind
   rw [hh] at hhv; cases hhv
  ·
   try replace g8_2 := V.dec g8_2
   try simp only [V.mk0, V.mk1, V.mk2, V.mk3] at g8_2
   refine V.run T_ok 1 rfl ?_
   refine V.yes rfl rfl rfl ?_
   refine V.call (rf_whole F38) rfl rfl rfl ?_
   rintro _ w47 ⟨rfl, G48⟩
   have z49 := V.Fr.size G48
   try replace Fm := Fm.gr G48
   try replace Fs0 := Fs0.gr G48
   try replace Fs1 := Fs1.gr G48
   try replace Fs2 := Fs2.gr G48
   try replace Fs3 := Fs3.gr G48
   try replace FM := FM.gr G48
   try replace F10 := F10.gr G48
   try replace F38 := F38.gr G48
   try replace Fk2 := Fk2.gr G48
   replace HG := HG.grow G48
   clear G48
   refine V.run T_ok 2 rfl ?_
   refine V.nil ?_
   refine V.tN ?_
   refine V.condT rfl (fun h8 => ?_) (fun h8 => ?_)
   ·
    try replace h8 := V.dec h8
    try simp only [V.mk0, V.mk1, V.mk2, V.mk3] at h8
    exfalso
    have hne : ¬ dv.nc = [] := fun e => by rw [e] at h2; simp at h2
    have hhv : hardV dv.nc = none := by unfold hardV; rw [if_neg hne, if_neg]; rintro hh9; grind
    rw [hh] at hhv; cases hhv
   ·
    try replace h8 := V.dec h8
    try simp only [V.mk0, V.mk1, V.mk2, V.mk3] at h8
    refine V.skip ?_
    refine V.tN ?_
    refine V.seq ?_
    have hne : ¬ dv.nc = [] := fun e => by rw [e] at h2; simp at h2
    have hhv : hardV dv.nc = some (m1, m2, m3) := by
      unfold hardV; rw [if_neg hne, if_pos (by grind), hv_m1, hv_m2, hv_m3]
    rw [hh] at hhv
    simp only [Option.some.injEq, Prod.mk.injEq] at hhv
    obtain ⟨rfl, rfl, rfl⟩ := hhv
    refine V.region ?_
    refine V.run T_ok 3 rfl ?_
    refine V.loadO T_ok Fm rfl rfl rfl rfl rfl ?_
    refine V.call (rscan_spec Fs1 (by intro k h; (try dsimp only [V.In] at h ⊢); first | omega | grind) (by first | omega | (simp only [List.length_take, List.length_drop, List.length_append, List.length_cons, List.length_nil, List.length_replicate, List.length_set, V.length_data, V.S_size]; omega))) rfl rfl rfl ?_
    rintro _ w53 ⟨a50, c51, rfl, F52, G54⟩
    have z55 := V.Fr.size G54
    try replace Fm := Fm.gr G54
    try replace Fs0 := Fs0.gr G54
    try replace Fs1 := Fs1.gr G54
    try replace Fs2 := Fs2.gr G54
    try replace Fs3 := Fs3.gr G54
    try replace FM := FM.gr G54
    try replace F10 := F10.gr G54
    try replace F38 := F38.gr G54
    try replace Fk2 := Fk2.gr G54
    replace HG := HG.grow G54
    clear G54
    refine V.run T_ok 5 rfl ?_
    refine V.nil ?_
    refine V.tN ?_
    refine V.seq ?_
    refine V.region ?_
    refine V.run T_ok 1 rfl ?_
    refine V.nil ?_
    refine V.tN ?_
    refine V.seq ?_
    refine V.seq ?_
    refine V.region ?_
    refine V.run T_ok 1 rfl ?_
    refine V.nil ?_
    refine V.tN ?_
    refine V.block ?_
    have FJn := RJst.mk2 (j := (⟨0, [], [], t1, t2, t3⟩ : JV)) Fk2 (Sl.nil _ _ D _ _ (Nat.zero_le _)) (Sl.nil _ _ D _ _ (Nat.zero_le _)) ⟨Int.le_refl _, (by show (0 : Int) ≤ 1099511627776; decide), Nat.zero_le _, Nat.zero_le _, fun x h => by cases h⟩ FM ⟨hkD, hkm⟩
    clear Fk2
    have hsum := scan_sum dv.nf
    refine V.loopM (fun m e v57 => Fr [km] w v57 ∧ w53.heap.size ≤ v57.heap.size ∧ Cells v57 km [.slice aD0 dv.sf.length cD0, .slice aD1 dv.nf.length cD1, .slice aD2 dv.sc.length cD2, .slice aD3 dv.nc.length cD3] 30 ∧ Sl V.Cod.byte v57 D aD1 cD1 dv.nf ∧ RDk v57 km D dv ∧ V.Row V.Cod.byte.sl 22 v57 (D) w47.heap.size w53.heap.size a50 c51 ((scanB dv.nf).1) ∧ ∃ (i n : Nat) (jr : JV) (E : Nat → Prop) , m = (scanB dv.nf).1.length - i ∧ i ≤ (scanB dv.nf).1.length ∧ runV (⟨0, [], [], t1, t2, t3⟩ : JV) (scanB dv.nf).1 = ((runV jr ((scanB dv.nf).1.drop i)).1, n + (runV jr ((scanB dv.nf).1.drop i)).2) ∧ n + lsum ((scanB dv.nf).1.drop i) ≤ dv.nf.length ∧ 8 * i ≤ n ∧ jr.l.length ≤ i ∧ (∀ x, E x → (D x ∨ w.heap.size ≤ x) ∧ x ≠ k1) ∧ RJst v57 k1 km E jr dv ∧ e 0 = .pointer (some ⟨km, 0, none⟩) ∧ e 4 = .pointer (some ⟨k1, 0, none⟩) ∧ e 8 = .slice a50 ((scanB dv.nf).1).length c51 ∧ e 10 = .int .i64 (n : Int) ∧ e 11 = .int .i64 (i : Int)) ?_ ?_
    ·
     exact ⟨_, HG, (by omega), Fm, Fs1, FM, F52, (0), (0), ((⟨0, [], [], t1, t2, t3⟩ : JV)), (D), rfl, (Nat.zero_le _), (by simp), (by simpa using hsum), (Nat.le_refl _), (Nat.zero_le _), (fun x h => ⟨.inl h, fun e => hkD (e ▸ h)⟩), FJn, rfl, rfl, rfl, rfl, rfl⟩
    try clear F10
    try clear F38
    try clear Fs0
    try clear Fs2
    try clear Fs3
    clear HG Fm Fs1 FM F52 FJn
    rintro _ e v57 ⟨HG, z58, Fm, Fs1, FM, F52, i, n, jr, E, rfl, hi, hrun, hls, h8, hjl, hEn, FJn, he0_0, he0_4, he0_8, he0_10, he0_11⟩
    have hok9 := FJn.ok
    have hEl9 := FJn.lt
    have hEm9 := FJn.dk.nk
    refine V.knownC (t := 0) he0_0 ?_
    refine V.knownC (t := 4) he0_4 ?_
    refine V.knownC (t := 8) he0_8 ?_
    refine V.knownC (t := 10) he0_10 ?_
    refine V.knownC (t := 11) he0_11 ?_
    refine V.seq ?_
    refine V.seq ?_
    refine V.region ?_
    refine V.run T_ok 4 rfl ?_
    refine V.nil ?_
    refine V.tN ?_
    refine V.condT rfl (fun h13 => ?_) (fun h13 => ?_)
    ·
     try replace h13 := V.dec h13
     try simp only [V.mk0, V.mk1, V.mk2, V.mk3] at h13
     refine V.skip ?_
     refine V.tN ?_
     refine V.seq ?_
     refine V.block ?_
     refine V.seq ?_
     refine V.region ?_
     refine V.run T_ok 3 rfl ?_
     refine V.elem T_ok F52.slB rfl rfl sz22 rfl rfl rfl rfl (by first | omega | (simp only [List.length_take, List.length_drop, List.length_append, List.length_cons, List.length_nil, List.length_replicate, List.length_set, V.length_data, V.S_size]; omega)) (by first | omega | (simp only [List.length_take, List.length_drop, List.length_append, List.length_cons, List.length_nil, List.length_replicate, List.length_set, V.length_data, V.S_size]; omega)) ?_
     rintro b59 o60 cs61 hx62 hb63 hR69 hA64
     obtain ⟨x65, hx65⟩ : ∃ z', ((scanB dv.nf).1)[((i : Int)).toNat] = z' := ⟨_, rfl⟩
     rw [hx65] at hR69
     obtain ⟨a66, c67, rfl, F68⟩ := hR69
     try simp only [Int.toNat_natCast] at hx65 hx62
     refine V.loadA T_ok (o0 := o60) (off := 0) hA64 rfl rfl rfl rfl rfl ?_
     refine V.call (change_spec FJn F68 (by intro k h; (try dsimp only [V.In] at h ⊢); first | omega | grind) (by first | assumption | omega)) rfl rfl rfl ?_
     rintro _ w71 ⟨rfl, F70, G72⟩
     have z73 := V.Fr.size G72
     try replace Fm := Fm.ma G72
     first | replace Fs1 := Fs1.mv1 G72 (by (try dsimp only [V.In]); first | omega | grind) | clear Fs1 | skip
     first | replace FM := FM.mv1 G72 (by (try dsimp only [V.In]); first | omega | grind) | clear FM | skip
     first | replace F52 := F52.ma G72 | replace F52 := V.Row.mv1b F52 G72 (by (try dsimp only [V.In]); constructor <;> first | omega | grind) | clear F52 | skip
     first | replace FJn := FJn.mv1 G72 (by (try dsimp only [V.In]); first | omega | grind) | clear FJn | skip
     first | replace F68 := F68.mv1 G72 (by (try dsimp only [V.In]); first | omega | grind) | clear F68 | skip
     replace HG := HG.n1 G72
     clear G72
     refine V.run T_ok 1 rfl ?_
     refine V.nil ?_
     refine V.tN ?_
     refine V.seq ?_
     refine V.seq ?_
     have hla := lsum_at (by omega) hx65
     refine V.region ?_
     refine V.run T_ok 2 rfl ?_
     refine V.nil ?_
     refine V.tN ?_
     refine V.condT rfl (fun h16 => ?_) (fun h16 => ?_)
     ·
      try replace h16 := V.dec h16
      try simp only [V.mk0, V.mk1, V.mk2, V.mk3] at h16
      refine V.exit ?_
      refine V.tX ?_
      refine V.bX rfl ?_
      refine V.tX ?_
      refine V.tX ?_
      refine V.bE ?_
      refine V.tN ?_
      refine V.seq ?_
      refine V.seq ?_
      have hrr := run_stop hrun (by omega) hx65 (by simpa using h16)
      rw [hr] at hrr
      simp only [Prod.mk.injEq] at hrr
      obtain ⟨hrj, hrn⟩ := hrr
      have hgd : (takeV jr x65).getD jr = jr := by cases hq9 : takeV jr x65 with
        | none => rfl
        | some y => rw [hq9] at h16; simp at h16
      rw [hgd, ← hrj] at F70
      obtain ⟨aL, cL, aD, cD, Fk, FL, Fd⟩ := F70.ex
      have hok8 := F70.ok
      have hnk8 := F70.nk.1
      have hEm8 := F70.dk.nk
      have hE8 := F70.lt
      clear F70
      refine V.region ?_
      refine V.run T_ok 4 rfl ?_
      refine V.loadO T_ok Fm rfl rfl rfl rfl rfl ?_
      refine V.run T_ok 2 rfl ?_
      refine V.nil ?_
      refine V.tN ?_
      refine V.condT rfl (fun h18 => ?_) (fun h18 => ?_)
      ·
       try replace h18 := V.dec h18
       try simp only [V.mk0, V.mk1, V.mk2, V.mk3] at h18
       refine V.seq ?_
       refine V.region ?_
       refine V.run T_ok 2 rfl ?_
       refine V.call (rk_cut (n := (n : Int)) FM) rfl rfl rfl ?_
       rintro _ w75 ⟨rfl, F74, G76⟩
       have z77 := V.Fr.size G76
       try replace Fm := Fm.ma G76
       first | replace Fs1 := Fs1.mv1 G76 (by (try dsimp only [V.In]); first | omega | grind) | clear Fs1 | skip
       first | replace FM := FM.mv1 G76 (by (try dsimp only [V.In]); first | omega | grind) | clear FM | skip
       first | replace F52 := F52.ma G76 | replace F52 := V.Row.mv1b F52 G76 (by (try dsimp only [V.In]); constructor <;> first | omega | grind) | clear F52 | skip
       first | replace F68 := F68.mv1 G76 (by (try dsimp only [V.In]); first | omega | grind) | clear F68 | skip
       try replace Fk := Fk.ma G76
       first | replace FL := FL.mv1 G76 (by (try dsimp only [V.In]); first | omega | grind) | clear FL | skip
       first | replace Fd := Fd.mv1 G76 (by (try dsimp only [V.In]); first | omega | grind) | clear Fd | skip
       replace HG := HG.n1 G76
       clear G76
       refine V.nil ?_
       refine V.tN ?_
       refine V.region ?_
       refine V.run T_ok 1 rfl ?_
       refine V.call (rk_sync F74) rfl rfl rfl ?_
       rintro _ w79 ⟨rfl, F78, G80⟩
       have z81 := V.Fr.size G80
       try replace Fm := Fm.ma G80
       first | replace Fs1 := Fs1.mv1 G80 (by (try dsimp only [V.In]); first | omega | grind) | clear Fs1 | skip
       first | replace F52 := F52.ma G80 | replace F52 := V.Row.mv1b F52 G80 (by (try dsimp only [V.In]); constructor <;> first | omega | grind) | clear F52 | skip
       first | replace F68 := F68.mv1 G80 (by (try dsimp only [V.In]); first | omega | grind) | clear F68 | skip
       try replace Fk := Fk.ma G80
       first | replace FL := FL.mv1 G80 (by (try dsimp only [V.In]); first | omega | grind) | clear FL | skip
       first | replace Fd := Fd.mv1 G80 (by (try dsimp only [V.In]); first | omega | grind) | clear Fd | skip
       first | replace F74 := F74.mv1 G80 (by (try dsimp only [V.In]); first | omega | grind) | clear F74 | skip
       replace HG := HG.n1 G80
       clear G80
       refine V.nil ?_
       refine V.tN ?_
       refine V.seq ?_
       refine V.region ?_
       refine V.run T_ok 3 rfl ?_
       refine V.nil ?_
       refine V.tN ?_
       refine V.ret ?_
       rw [show openD dv nn = dSync (dCut dv (n : Int)) by unfold openD; rw [if_pos (by omega), hrn]]
       have FJ9 := RJst.mk2 (D := (fun i => (D i ∨ V.In w.heap.size w79.heap.size i) ∧ i ≠ k1)) (j := j2) Fk (FL.mono (by intro i h; ((try dsimp only [V.In] at h ⊢); first | omega | grind))) (Fd.mono (by intro i h; ((try dsimp only [V.In] at h ⊢); first | omega | grind))) hok8 (F78.mono (by intro i h; ((try dsimp only [V.In] at h ⊢); first | omega | grind)) (by intro i h; ((try dsimp only [V.In] at h ⊢); first | omega | grind)) (by (try dsimp only [V.In]); first | omega | grind)) ⟨by (try dsimp only [V.In]); first | omega | grind, hkm⟩
       refine V.done rfl ?_
       exact ⟨k1, (by first | rfl | simp only [List.length_set]), ⟨by omega, by omega⟩, FJ9, HG⟩
      ·
       try replace h18 := V.dec h18
       try simp only [V.mk0, V.mk1, V.mk2, V.mk3] at h18
       refine V.skip ?_
       refine V.tN ?_
       refine V.seq ?_
       refine V.region ?_
       refine V.run T_ok 3 rfl ?_
       refine V.nil ?_
       refine V.tN ?_
       refine V.ret ?_
       rw [show openD dv nn = dv by unfold openD; rw [if_neg (by omega)]]
       have FJ9 := RJst.mk2 (D := (fun i => (D i ∨ V.In w.heap.size w71.heap.size i) ∧ i ≠ k1)) (j := j2) Fk (FL.mono (by intro i h; ((try dsimp only [V.In] at h ⊢); first | omega | grind))) (Fd.mono (by intro i h; ((try dsimp only [V.In] at h ⊢); first | omega | grind))) hok8 (FM.mono (by intro i h; ((try dsimp only [V.In] at h ⊢); first | omega | grind)) (by intro i h; ((try dsimp only [V.In] at h ⊢); first | omega | grind)) (by (try dsimp only [V.In]); first | omega | grind)) ⟨by (try dsimp only [V.In]); first | omega | grind, hkm⟩
       refine V.done rfl ?_
       exact ⟨k1, (by first | rfl | simp only [List.length_set]), ⟨by omega, by omega⟩, FJ9, HG⟩
     ·
      try replace h16 := V.dec h16
      try simp only [V.mk0, V.mk1, V.mk2, V.mk3] at h16
      refine V.skip ?_
      refine V.tN ?_
      refine V.region ?_
      refine V.run T_ok 1 rfl ?_
      refine V.addN rfl rfl rfl rfl rfl (by first | omega | (simp only [List.length_take, List.length_drop, List.length_append, List.length_cons, List.length_nil, List.length_replicate, List.length_set, V.length_data, V.S_size]; omega)) (by first | omega | (simp only [List.length_take, List.length_drop, List.length_append, List.length_cons, List.length_nil, List.length_replicate, List.length_set, V.length_data, V.S_size]; omega)) ?_
      refine V.run T_ok 2 rfl ?_
      refine V.elem T_ok F52.slB rfl rfl sz22 rfl rfl rfl rfl (by first | omega | (simp only [List.length_take, List.length_drop, List.length_append, List.length_cons, List.length_nil, List.length_replicate, List.length_set, V.length_data, V.S_size]; omega)) (by first | omega | (simp only [List.length_take, List.length_drop, List.length_append, List.length_cons, List.length_nil, List.length_replicate, List.length_set, V.length_data, V.S_size]; omega)) ?_
      rintro b82 o83 cs84 hx85 hb86 hR92 hA87
      obtain ⟨x88, hx88⟩ : ∃ z', ((scanB dv.nf).1)[((i : Int)).toNat] = z' := ⟨_, rfl⟩
      rw [hx88] at hR92
      obtain ⟨a89, c90, rfl, F91⟩ := hR92
      try simp only [Int.toNat_natCast] at hx88 hx85
      obtain rfl : x65 = x88 := hx65.symm.trans hx88
      refine V.loadA T_ok (o0 := o83) (off := 0) hA87 rfl rfl rfl rfl rfl ?_
      refine V.run T_ok 1 rfl ?_
      refine V.addN rfl rfl rfl rfl rfl (by first | omega | (simp only [List.length_take, List.length_drop, List.length_append, List.length_cons, List.length_nil, List.length_replicate, List.length_set, V.length_data, V.S_size]; omega)) (by first | omega | (simp only [List.length_take, List.length_drop, List.length_append, List.length_cons, List.length_nil, List.length_replicate, List.length_set, V.length_data, V.S_size]; omega)) ?_
      refine V.run T_ok 1 rfl ?_
      refine V.nil ?_
      refine V.bN ?_
      refine V.tN ?_
      refine V.region ?_
      refine V.run T_ok 1 rfl ?_
      refine V.addN rfl rfl rfl rfl rfl (by first | omega | (simp only [List.length_take, List.length_drop, List.length_append, List.length_cons, List.length_nil, List.length_replicate, List.length_set, V.length_data, V.S_size]; omega)) (by first | omega | (simp only [List.length_take, List.length_drop, List.length_append, List.length_cons, List.length_nil, List.length_replicate, List.length_set, V.length_data, V.S_size]; omega)) ?_
      refine V.run T_ok 1 rfl ?_
      refine V.nil ?_
      refine V.tN ?_
      exact ⟨_, (by omega), HG, (by omega), Fm, Fs1, FM, F52, (i + 1), (n + (8 + x65.length)), ((takeV jr x65).getD jr), ((fun i => E i ∨ V.In v57.heap.size w71.heap.size i)), rfl, (by omega), (run_step hrun (by omega) hx65 (by simpa using h16)), (by omega), (by omega), ((by have := takeV_len' (x := x65) hok9 (by omega); omega)), (by intro x h; (try dsimp only [V.In] at h ⊢); first | omega | grind), F70, rfl, rfl, rfl, (congrArg (Value.int .i64) (by omega)), rfl⟩
    ·
     try replace h13 := V.dec h13
     try simp only [V.mk0, V.mk1, V.mk2, V.mk3] at h13
     refine V.exit ?_
     refine V.tX ?_
     refine V.tX ?_
     refine V.bE ?_
     refine V.tN ?_
     refine V.seq ?_
     refine V.seq ?_
     have hrr := run_end hrun (by omega)
     rw [hr] at hrr
     simp only [Prod.mk.injEq] at hrr
     obtain ⟨hrj, hrn⟩ := hrr
     rw [← hrj] at FJn
     obtain ⟨aL, cL, aD, cD, Fk, FL, Fd⟩ := FJn.ex
     have hok8 := FJn.ok
     have hnk8 := FJn.nk.1
     have hEm8 := FJn.dk.nk
     have hE8 := FJn.lt
     clear FJn
     refine V.region ?_
     refine V.run T_ok 4 rfl ?_
     refine V.loadO T_ok Fm rfl rfl rfl rfl rfl ?_
     refine V.run T_ok 2 rfl ?_
     refine V.nil ?_
     refine V.tN ?_
     refine V.condT rfl (fun h18 => ?_) (fun h18 => ?_)
     ·
      try replace h18 := V.dec h18
      try simp only [V.mk0, V.mk1, V.mk2, V.mk3] at h18
      refine V.seq ?_
      refine V.region ?_
      refine V.run T_ok 2 rfl ?_
      refine V.call (rk_cut (n := (n : Int)) FM) rfl rfl rfl ?_
      rintro _ w94 ⟨rfl, F93, G95⟩
      have z96 := V.Fr.size G95
      try replace Fm := Fm.ma G95
      first | replace Fs1 := Fs1.mv1 G95 (by (try dsimp only [V.In]); first | omega | grind) | clear Fs1 | skip
      first | replace FM := FM.mv1 G95 (by (try dsimp only [V.In]); first | omega | grind) | clear FM | skip
      first | replace F52 := F52.ma G95 | replace F52 := V.Row.mv1b F52 G95 (by (try dsimp only [V.In]); constructor <;> first | omega | grind) | clear F52 | skip
      try replace Fk := Fk.ma G95
      first | replace FL := FL.mv1 G95 (by (try dsimp only [V.In]); first | omega | grind) | clear FL | skip
      first | replace Fd := Fd.mv1 G95 (by (try dsimp only [V.In]); first | omega | grind) | clear Fd | skip
      replace HG := HG.n1 G95
      clear G95
      refine V.nil ?_
      refine V.tN ?_
      refine V.region ?_
      refine V.run T_ok 1 rfl ?_
      refine V.call (rk_sync F93) rfl rfl rfl ?_
      rintro _ w98 ⟨rfl, F97, G99⟩
      have z100 := V.Fr.size G99
      try replace Fm := Fm.ma G99
      first | replace Fs1 := Fs1.mv1 G99 (by (try dsimp only [V.In]); first | omega | grind) | clear Fs1 | skip
      first | replace F52 := F52.ma G99 | replace F52 := V.Row.mv1b F52 G99 (by (try dsimp only [V.In]); constructor <;> first | omega | grind) | clear F52 | skip
      try replace Fk := Fk.ma G99
      first | replace FL := FL.mv1 G99 (by (try dsimp only [V.In]); first | omega | grind) | clear FL | skip
      first | replace Fd := Fd.mv1 G99 (by (try dsimp only [V.In]); first | omega | grind) | clear Fd | skip
      first | replace F93 := F93.mv1 G99 (by (try dsimp only [V.In]); first | omega | grind) | clear F93 | skip
      replace HG := HG.n1 G99
      clear G99
      refine V.nil ?_
      refine V.tN ?_
      refine V.seq ?_
      refine V.region ?_
      refine V.run T_ok 3 rfl ?_
      refine V.nil ?_
      refine V.tN ?_
      refine V.ret ?_
      rw [show openD dv nn = dSync (dCut dv (n : Int)) by unfold openD; rw [if_pos (by omega), hrn]]
      have FJ9 := RJst.mk2 (D := (fun i => (D i ∨ V.In w.heap.size w98.heap.size i) ∧ i ≠ k1)) (j := j2) Fk (FL.mono (by intro i h; ((try dsimp only [V.In] at h ⊢); first | omega | grind))) (Fd.mono (by intro i h; ((try dsimp only [V.In] at h ⊢); first | omega | grind))) hok8 (F97.mono (by intro i h; ((try dsimp only [V.In] at h ⊢); first | omega | grind)) (by intro i h; ((try dsimp only [V.In] at h ⊢); first | omega | grind)) (by (try dsimp only [V.In]); first | omega | grind)) ⟨by (try dsimp only [V.In]); first | omega | grind, hkm⟩
      refine V.done rfl ?_
      exact ⟨k1, (by first | rfl | simp only [List.length_set]), ⟨by omega, by omega⟩, FJ9, HG⟩
     ·
      try replace h18 := V.dec h18
      try simp only [V.mk0, V.mk1, V.mk2, V.mk3] at h18
      refine V.skip ?_
      refine V.tN ?_
      refine V.seq ?_
      refine V.region ?_
      refine V.run T_ok 3 rfl ?_
      refine V.nil ?_
      refine V.tN ?_
      refine V.ret ?_
      rw [show openD dv nn = dv by unfold openD; rw [if_neg (by omega)]]
      have FJ9 := RJst.mk2 (D := (fun i => (D i ∨ V.In w.heap.size v57.heap.size i) ∧ i ≠ k1)) (j := j2) Fk (FL.mono (by intro i h; ((try dsimp only [V.In] at h ⊢); first | omega | grind))) (Fd.mono (by intro i h; ((try dsimp only [V.In] at h ⊢); first | omega | grind))) hok8 (FM.mono (by intro i h; ((try dsimp only [V.In] at h ⊢); first | omega | grind)) (by intro i h; ((try dsimp only [V.In] at h ⊢); first | omega | grind)) (by (try dsimp only [V.In]); first | omega | grind)) ⟨by (try dsimp only [V.In]); first | omega | grind, hkm⟩
      refine V.done rfl ?_
      exact ⟨k1, (by first | rfl | simp only [List.length_set]), ⟨by omega, by omega⟩, FJ9, HG⟩
 ·
  try replace h2 := V.dec h2
  try simp only [V.mk0, V.mk1, V.mk2, V.mk3] at h2
  refine V.skip ?_
  refine V.tN ?_
  refine V.seq ?_
  rw [hardV_nil (List.length_eq_zero_iff.1 (by omega))] at hh
  simp only [Option.some.injEq, Prod.mk.injEq] at hh
  obtain ⟨rfl, rfl, rfl⟩ := hh
  refine V.region ?_
  refine V.run T_ok 3 rfl ?_
  refine V.loadO T_ok Fm rfl rfl rfl rfl rfl ?_
  refine V.call (rscan_spec Fs1 (by intro k h; (try dsimp only [V.In] at h ⊢); first | omega | grind) (by first | omega | (simp only [List.length_take, List.length_drop, List.length_append, List.length_cons, List.length_nil, List.length_replicate, List.length_set, V.length_data, V.S_size]; omega))) rfl rfl rfl ?_
  rintro _ w104 ⟨a101, c102, rfl, F103, G105⟩
  have z106 := V.Fr.size G105
  try replace Fm := Fm.gr G105
  try replace Fs0 := Fs0.gr G105
  try replace Fs1 := Fs1.gr G105
  try replace Fs2 := Fs2.gr G105
  try replace Fs3 := Fs3.gr G105
  try replace FM := FM.gr G105
  try replace Fk2 := Fk2.gr G105
  replace HG := HG.grow G105
  clear G105
  refine V.run T_ok 5 rfl ?_
  refine V.nil ?_
  refine V.tN ?_
  refine V.seq ?_
  refine V.region ?_
  refine V.run T_ok 1 rfl ?_
  refine V.nil ?_
  refine V.tN ?_
  refine V.seq ?_
  refine V.seq ?_
  refine V.region ?_
  refine V.run T_ok 1 rfl ?_
  refine V.nil ?_
  refine V.tN ?_
  refine V.block ?_
  have FJn := RJst.mk2 (j := (⟨0, [], [], 0, 0, 0⟩ : JV)) Fk2 (Sl.nil _ _ D _ _ (Nat.zero_le _)) (Sl.nil _ _ D _ _ (Nat.zero_le _)) ⟨Int.le_refl _, (by show (0 : Int) ≤ 1099511627776; decide), Nat.zero_le _, Nat.zero_le _, fun x h => by cases h⟩ FM ⟨hkD, hkm⟩
  clear Fk2
  have hsum := scan_sum dv.nf
  refine V.loopM (fun m e v108 => Fr [km] w v108 ∧ w104.heap.size ≤ v108.heap.size ∧ Cells v108 km [.slice aD0 dv.sf.length cD0, .slice aD1 dv.nf.length cD1, .slice aD2 dv.sc.length cD2, .slice aD3 dv.nc.length cD3] 30 ∧ Sl V.Cod.byte v108 D aD1 cD1 dv.nf ∧ RDk v108 km D dv ∧ V.Row V.Cod.byte.sl 22 v108 (D) w3.heap.size w104.heap.size a101 c102 ((scanB dv.nf).1) ∧ ∃ (i n : Nat) (jr : JV) (E : Nat → Prop) , m = (scanB dv.nf).1.length - i ∧ i ≤ (scanB dv.nf).1.length ∧ runV (⟨0, [], [], 0, 0, 0⟩ : JV) (scanB dv.nf).1 = ((runV jr ((scanB dv.nf).1.drop i)).1, n + (runV jr ((scanB dv.nf).1.drop i)).2) ∧ n + lsum ((scanB dv.nf).1.drop i) ≤ dv.nf.length ∧ 8 * i ≤ n ∧ jr.l.length ≤ i ∧ (∀ x, E x → (D x ∨ w.heap.size ≤ x) ∧ x ≠ k1) ∧ RJst v108 k1 km E jr dv ∧ e 0 = .pointer (some ⟨km, 0, none⟩) ∧ e 4 = .pointer (some ⟨k1, 0, none⟩) ∧ e 8 = .slice a101 ((scanB dv.nf).1).length c102 ∧ e 10 = .int .i64 (n : Int) ∧ e 11 = .int .i64 (i : Int)) ?_ ?_
  ·
   exact ⟨_, HG, (by omega), Fm, Fs1, FM, F103, (0), (0), ((⟨0, [], [], 0, 0, 0⟩ : JV)), (D), rfl, (Nat.zero_le _), (by simp), (by simpa using hsum), (Nat.le_refl _), (Nat.zero_le _), (fun x h => ⟨.inl h, fun e => hkD (e ▸ h)⟩), FJn, rfl, rfl, rfl, rfl, rfl⟩
  try clear Fs0
  try clear Fs2
  try clear Fs3
  clear HG Fm Fs1 FM F103 FJn
  rintro _ e v108 ⟨HG, z109, Fm, Fs1, FM, F103, i, n, jr, E, rfl, hi, hrun, hls, h8, hjl, hEn, FJn, he0_0, he0_4, he0_8, he0_10, he0_11⟩
  have hok9 := FJn.ok
  have hEl9 := FJn.lt
  have hEm9 := FJn.dk.nk
  refine V.knownC (t := 0) he0_0 ?_
  refine V.knownC (t := 4) he0_4 ?_
  refine V.knownC (t := 8) he0_8 ?_
  refine V.knownC (t := 10) he0_10 ?_
  refine V.knownC (t := 11) he0_11 ?_
  refine V.seq ?_
  refine V.seq ?_
  refine V.region ?_
  refine V.run T_ok 4 rfl ?_
  refine V.nil ?_
  refine V.tN ?_
  refine V.condT rfl (fun h13 => ?_) (fun h13 => ?_)
  ·
   try replace h13 := V.dec h13
   try simp only [V.mk0, V.mk1, V.mk2, V.mk3] at h13
   refine V.skip ?_
   refine V.tN ?_
   refine V.seq ?_
   refine V.block ?_
   refine V.seq ?_
   refine V.region ?_
   refine V.run T_ok 3 rfl ?_
   refine V.elem T_ok F103.slB rfl rfl sz22 rfl rfl rfl rfl (by first | omega | (simp only [List.length_take, List.length_drop, List.length_append, List.length_cons, List.length_nil, List.length_replicate, List.length_set, V.length_data, V.S_size]; omega)) (by first | omega | (simp only [List.length_take, List.length_drop, List.length_append, List.length_cons, List.length_nil, List.length_replicate, List.length_set, V.length_data, V.S_size]; omega)) ?_
   rintro b110 o111 cs112 hx113 hb114 hR120 hA115
   obtain ⟨x116, hx116⟩ : ∃ z', ((scanB dv.nf).1)[((i : Int)).toNat] = z' := ⟨_, rfl⟩
   rw [hx116] at hR120
   obtain ⟨a117, c118, rfl, F119⟩ := hR120
   try simp only [Int.toNat_natCast] at hx116 hx113
   refine V.loadA T_ok (o0 := o111) (off := 0) hA115 rfl rfl rfl rfl rfl ?_
   refine V.call (change_spec FJn F119 (by intro k h; (try dsimp only [V.In] at h ⊢); first | omega | grind) (by first | assumption | omega)) rfl rfl rfl ?_
   rintro _ w122 ⟨rfl, F121, G123⟩
   have z124 := V.Fr.size G123
   try replace Fm := Fm.ma G123
   first | replace Fs1 := Fs1.mv1 G123 (by (try dsimp only [V.In]); first | omega | grind) | clear Fs1 | skip
   first | replace FM := FM.mv1 G123 (by (try dsimp only [V.In]); first | omega | grind) | clear FM | skip
   first | replace F103 := F103.ma G123 | replace F103 := V.Row.mv1b F103 G123 (by (try dsimp only [V.In]); constructor <;> first | omega | grind) | clear F103 | skip
   first | replace FJn := FJn.mv1 G123 (by (try dsimp only [V.In]); first | omega | grind) | clear FJn | skip
   first | replace F119 := F119.mv1 G123 (by (try dsimp only [V.In]); first | omega | grind) | clear F119 | skip
   replace HG := HG.n1 G123
   clear G123
   refine V.run T_ok 1 rfl ?_
   refine V.nil ?_
   refine V.tN ?_
   refine V.seq ?_
   refine V.seq ?_
   have hla := lsum_at (by omega) hx116
   refine V.region ?_
   refine V.run T_ok 2 rfl ?_
   refine V.nil ?_
   refine V.tN ?_
   refine V.condT rfl (fun h16 => ?_) (fun h16 => ?_)
   ·
    try replace h16 := V.dec h16
    try simp only [V.mk0, V.mk1, V.mk2, V.mk3] at h16
    refine V.exit ?_
    refine V.tX ?_
    refine V.bX rfl ?_
    refine V.tX ?_
    refine V.tX ?_
    refine V.bE ?_
    refine V.tN ?_
    refine V.seq ?_
    refine V.seq ?_
    have hrr := run_stop hrun (by omega) hx116 (by simpa using h16)
    rw [hr] at hrr
    simp only [Prod.mk.injEq] at hrr
    obtain ⟨hrj, hrn⟩ := hrr
    have hgd : (takeV jr x116).getD jr = jr := by cases hq9 : takeV jr x116 with
      | none => rfl
      | some y => rw [hq9] at h16; simp at h16
    rw [hgd, ← hrj] at F121
    obtain ⟨aL, cL, aD, cD, Fk, FL, Fd⟩ := F121.ex
    have hok8 := F121.ok
    have hnk8 := F121.nk.1
    have hEm8 := F121.dk.nk
    have hE8 := F121.lt
    clear F121
    refine V.region ?_
    refine V.run T_ok 4 rfl ?_
    refine V.loadO T_ok Fm rfl rfl rfl rfl rfl ?_
    refine V.run T_ok 2 rfl ?_
    refine V.nil ?_
    refine V.tN ?_
    refine V.condT rfl (fun h18 => ?_) (fun h18 => ?_)
    ·
     try replace h18 := V.dec h18
     try simp only [V.mk0, V.mk1, V.mk2, V.mk3] at h18
     refine V.seq ?_
     refine V.region ?_
     refine V.run T_ok 2 rfl ?_
     refine V.call (rk_cut (n := (n : Int)) FM) rfl rfl rfl ?_
     rintro _ w126 ⟨rfl, F125, G127⟩
     have z128 := V.Fr.size G127
     try replace Fm := Fm.ma G127
     first | replace Fs1 := Fs1.mv1 G127 (by (try dsimp only [V.In]); first | omega | grind) | clear Fs1 | skip
     first | replace FM := FM.mv1 G127 (by (try dsimp only [V.In]); first | omega | grind) | clear FM | skip
     first | replace F103 := F103.ma G127 | replace F103 := V.Row.mv1b F103 G127 (by (try dsimp only [V.In]); constructor <;> first | omega | grind) | clear F103 | skip
     first | replace F119 := F119.mv1 G127 (by (try dsimp only [V.In]); first | omega | grind) | clear F119 | skip
     try replace Fk := Fk.ma G127
     first | replace FL := FL.mv1 G127 (by (try dsimp only [V.In]); first | omega | grind) | clear FL | skip
     first | replace Fd := Fd.mv1 G127 (by (try dsimp only [V.In]); first | omega | grind) | clear Fd | skip
     replace HG := HG.n1 G127
     clear G127
     refine V.nil ?_
     refine V.tN ?_
     refine V.region ?_
     refine V.run T_ok 1 rfl ?_
     refine V.call (rk_sync F125) rfl rfl rfl ?_
     rintro _ w130 ⟨rfl, F129, G131⟩
     have z132 := V.Fr.size G131
     try replace Fm := Fm.ma G131
     first | replace Fs1 := Fs1.mv1 G131 (by (try dsimp only [V.In]); first | omega | grind) | clear Fs1 | skip
     first | replace F103 := F103.ma G131 | replace F103 := V.Row.mv1b F103 G131 (by (try dsimp only [V.In]); constructor <;> first | omega | grind) | clear F103 | skip
     first | replace F119 := F119.mv1 G131 (by (try dsimp only [V.In]); first | omega | grind) | clear F119 | skip
     try replace Fk := Fk.ma G131
     first | replace FL := FL.mv1 G131 (by (try dsimp only [V.In]); first | omega | grind) | clear FL | skip
     first | replace Fd := Fd.mv1 G131 (by (try dsimp only [V.In]); first | omega | grind) | clear Fd | skip
     first | replace F125 := F125.mv1 G131 (by (try dsimp only [V.In]); first | omega | grind) | clear F125 | skip
     replace HG := HG.n1 G131
     clear G131
     refine V.nil ?_
     refine V.tN ?_
     refine V.seq ?_
     refine V.region ?_
     refine V.run T_ok 3 rfl ?_
     refine V.nil ?_
     refine V.tN ?_
     refine V.ret ?_
     rw [show openD dv nn = dSync (dCut dv (n : Int)) by unfold openD; rw [if_pos (by omega), hrn]]
     have FJ9 := RJst.mk2 (D := (fun i => (D i ∨ V.In w.heap.size w130.heap.size i) ∧ i ≠ k1)) (j := j2) Fk (FL.mono (by intro i h; ((try dsimp only [V.In] at h ⊢); first | omega | grind))) (Fd.mono (by intro i h; ((try dsimp only [V.In] at h ⊢); first | omega | grind))) hok8 (F129.mono (by intro i h; ((try dsimp only [V.In] at h ⊢); first | omega | grind)) (by intro i h; ((try dsimp only [V.In] at h ⊢); first | omega | grind)) (by (try dsimp only [V.In]); first | omega | grind)) ⟨by (try dsimp only [V.In]); first | omega | grind, hkm⟩
     refine V.done rfl ?_
     exact ⟨k1, (by first | rfl | simp only [List.length_set]), ⟨by omega, by omega⟩, FJ9, HG⟩
    ·
     try replace h18 := V.dec h18
     try simp only [V.mk0, V.mk1, V.mk2, V.mk3] at h18
     refine V.skip ?_
     refine V.tN ?_
     refine V.seq ?_
     refine V.region ?_
     refine V.run T_ok 3 rfl ?_
     refine V.nil ?_
     refine V.tN ?_
     refine V.ret ?_
     rw [show openD dv nn = dv by unfold openD; rw [if_neg (by omega)]]
     have FJ9 := RJst.mk2 (D := (fun i => (D i ∨ V.In w.heap.size w122.heap.size i) ∧ i ≠ k1)) (j := j2) Fk (FL.mono (by intro i h; ((try dsimp only [V.In] at h ⊢); first | omega | grind))) (Fd.mono (by intro i h; ((try dsimp only [V.In] at h ⊢); first | omega | grind))) hok8 (FM.mono (by intro i h; ((try dsimp only [V.In] at h ⊢); first | omega | grind)) (by intro i h; ((try dsimp only [V.In] at h ⊢); first | omega | grind)) (by (try dsimp only [V.In]); first | omega | grind)) ⟨by (try dsimp only [V.In]); first | omega | grind, hkm⟩
     refine V.done rfl ?_
     exact ⟨k1, (by first | rfl | simp only [List.length_set]), ⟨by omega, by omega⟩, FJ9, HG⟩
   ·
    try replace h16 := V.dec h16
    try simp only [V.mk0, V.mk1, V.mk2, V.mk3] at h16
    refine V.skip ?_
    refine V.tN ?_
    refine V.region ?_
    refine V.run T_ok 1 rfl ?_
    refine V.addN rfl rfl rfl rfl rfl (by first | omega | (simp only [List.length_take, List.length_drop, List.length_append, List.length_cons, List.length_nil, List.length_replicate, List.length_set, V.length_data, V.S_size]; omega)) (by first | omega | (simp only [List.length_take, List.length_drop, List.length_append, List.length_cons, List.length_nil, List.length_replicate, List.length_set, V.length_data, V.S_size]; omega)) ?_
    refine V.run T_ok 2 rfl ?_
    refine V.elem T_ok F103.slB rfl rfl sz22 rfl rfl rfl rfl (by first | omega | (simp only [List.length_take, List.length_drop, List.length_append, List.length_cons, List.length_nil, List.length_replicate, List.length_set, V.length_data, V.S_size]; omega)) (by first | omega | (simp only [List.length_take, List.length_drop, List.length_append, List.length_cons, List.length_nil, List.length_replicate, List.length_set, V.length_data, V.S_size]; omega)) ?_
    rintro b133 o134 cs135 hx136 hb137 hR143 hA138
    obtain ⟨x139, hx139⟩ : ∃ z', ((scanB dv.nf).1)[((i : Int)).toNat] = z' := ⟨_, rfl⟩
    rw [hx139] at hR143
    obtain ⟨a140, c141, rfl, F142⟩ := hR143
    try simp only [Int.toNat_natCast] at hx139 hx136
    obtain rfl : x116 = x139 := hx116.symm.trans hx139
    refine V.loadA T_ok (o0 := o134) (off := 0) hA138 rfl rfl rfl rfl rfl ?_
    refine V.run T_ok 1 rfl ?_
    refine V.addN rfl rfl rfl rfl rfl (by first | omega | (simp only [List.length_take, List.length_drop, List.length_append, List.length_cons, List.length_nil, List.length_replicate, List.length_set, V.length_data, V.S_size]; omega)) (by first | omega | (simp only [List.length_take, List.length_drop, List.length_append, List.length_cons, List.length_nil, List.length_replicate, List.length_set, V.length_data, V.S_size]; omega)) ?_
    refine V.run T_ok 1 rfl ?_
    refine V.nil ?_
    refine V.bN ?_
    refine V.tN ?_
    refine V.region ?_
    refine V.run T_ok 1 rfl ?_
    refine V.addN rfl rfl rfl rfl rfl (by first | omega | (simp only [List.length_take, List.length_drop, List.length_append, List.length_cons, List.length_nil, List.length_replicate, List.length_set, V.length_data, V.S_size]; omega)) (by first | omega | (simp only [List.length_take, List.length_drop, List.length_append, List.length_cons, List.length_nil, List.length_replicate, List.length_set, V.length_data, V.S_size]; omega)) ?_
    refine V.run T_ok 1 rfl ?_
    refine V.nil ?_
    refine V.tN ?_
    exact ⟨_, (by omega), HG, (by omega), Fm, Fs1, FM, F103, (i + 1), (n + (8 + x116.length)), ((takeV jr x116).getD jr), ((fun i => E i ∨ V.In v108.heap.size w122.heap.size i)), rfl, (by omega), (run_step hrun (by omega) hx116 (by simpa using h16)), (by omega), (by omega), ((by have := takeV_len' (x := x116) hok9 (by omega); omega)), (by intro x h; (try dsimp only [V.In] at h ⊢); first | omega | grind), F121, rfl, rfl, rfl, (congrArg (Value.int .i64) (by omega)), rfl⟩
  ·
   try replace h13 := V.dec h13
   try simp only [V.mk0, V.mk1, V.mk2, V.mk3] at h13
   refine V.exit ?_
   refine V.tX ?_
   refine V.tX ?_
   refine V.bE ?_
   refine V.tN ?_
   refine V.seq ?_
   refine V.seq ?_
   have hrr := run_end hrun (by omega)
   rw [hr] at hrr
   simp only [Prod.mk.injEq] at hrr
   obtain ⟨hrj, hrn⟩ := hrr
   rw [← hrj] at FJn
   obtain ⟨aL, cL, aD, cD, Fk, FL, Fd⟩ := FJn.ex
   have hok8 := FJn.ok
   have hnk8 := FJn.nk.1
   have hEm8 := FJn.dk.nk
   have hE8 := FJn.lt
   clear FJn
   refine V.region ?_
   refine V.run T_ok 4 rfl ?_
   refine V.loadO T_ok Fm rfl rfl rfl rfl rfl ?_
   refine V.run T_ok 2 rfl ?_
   refine V.nil ?_
   refine V.tN ?_
   refine V.condT rfl (fun h18 => ?_) (fun h18 => ?_)
   ·
    try replace h18 := V.dec h18
    try simp only [V.mk0, V.mk1, V.mk2, V.mk3] at h18
    refine V.seq ?_
    refine V.region ?_
    refine V.run T_ok 2 rfl ?_
    refine V.call (rk_cut (n := (n : Int)) FM) rfl rfl rfl ?_
    rintro _ w145 ⟨rfl, F144, G146⟩
    have z147 := V.Fr.size G146
    try replace Fm := Fm.ma G146
    first | replace Fs1 := Fs1.mv1 G146 (by (try dsimp only [V.In]); first | omega | grind) | clear Fs1 | skip
    first | replace FM := FM.mv1 G146 (by (try dsimp only [V.In]); first | omega | grind) | clear FM | skip
    first | replace F103 := F103.ma G146 | replace F103 := V.Row.mv1b F103 G146 (by (try dsimp only [V.In]); constructor <;> first | omega | grind) | clear F103 | skip
    try replace Fk := Fk.ma G146
    first | replace FL := FL.mv1 G146 (by (try dsimp only [V.In]); first | omega | grind) | clear FL | skip
    first | replace Fd := Fd.mv1 G146 (by (try dsimp only [V.In]); first | omega | grind) | clear Fd | skip
    replace HG := HG.n1 G146
    clear G146
    refine V.nil ?_
    refine V.tN ?_
    refine V.region ?_
    refine V.run T_ok 1 rfl ?_
    refine V.call (rk_sync F144) rfl rfl rfl ?_
    rintro _ w149 ⟨rfl, F148, G150⟩
    have z151 := V.Fr.size G150
    try replace Fm := Fm.ma G150
    first | replace Fs1 := Fs1.mv1 G150 (by (try dsimp only [V.In]); first | omega | grind) | clear Fs1 | skip
    first | replace F103 := F103.ma G150 | replace F103 := V.Row.mv1b F103 G150 (by (try dsimp only [V.In]); constructor <;> first | omega | grind) | clear F103 | skip
    try replace Fk := Fk.ma G150
    first | replace FL := FL.mv1 G150 (by (try dsimp only [V.In]); first | omega | grind) | clear FL | skip
    first | replace Fd := Fd.mv1 G150 (by (try dsimp only [V.In]); first | omega | grind) | clear Fd | skip
    first | replace F144 := F144.mv1 G150 (by (try dsimp only [V.In]); first | omega | grind) | clear F144 | skip
    replace HG := HG.n1 G150
    clear G150
    refine V.nil ?_
    refine V.tN ?_
    refine V.seq ?_
    refine V.region ?_
    refine V.run T_ok 3 rfl ?_
    refine V.nil ?_
    refine V.tN ?_
    refine V.ret ?_
    rw [show openD dv nn = dSync (dCut dv (n : Int)) by unfold openD; rw [if_pos (by omega), hrn]]
    have FJ9 := RJst.mk2 (D := (fun i => (D i ∨ V.In w.heap.size w149.heap.size i) ∧ i ≠ k1)) (j := j2) Fk (FL.mono (by intro i h; ((try dsimp only [V.In] at h ⊢); first | omega | grind))) (Fd.mono (by intro i h; ((try dsimp only [V.In] at h ⊢); first | omega | grind))) hok8 (F148.mono (by intro i h; ((try dsimp only [V.In] at h ⊢); first | omega | grind)) (by intro i h; ((try dsimp only [V.In] at h ⊢); first | omega | grind)) (by (try dsimp only [V.In]); first | omega | grind)) ⟨by (try dsimp only [V.In]); first | omega | grind, hkm⟩
    refine V.done rfl ?_
    exact ⟨k1, (by first | rfl | simp only [List.length_set]), ⟨by omega, by omega⟩, FJ9, HG⟩
   ·
    try replace h18 := V.dec h18
    try simp only [V.mk0, V.mk1, V.mk2, V.mk3] at h18
    refine V.skip ?_
    refine V.tN ?_
    refine V.seq ?_
    refine V.region ?_
    refine V.run T_ok 3 rfl ?_
    refine V.nil ?_
    refine V.tN ?_
    refine V.ret ?_
    rw [show openD dv nn = dv by unfold openD; rw [if_neg (by omega)]]
    have FJ9 := RJst.mk2 (D := (fun i => (D i ∨ V.In w.heap.size v108.heap.size i) ∧ i ≠ k1)) (j := j2) Fk (FL.mono (by intro i h; ((try dsimp only [V.In] at h ⊢); first | omega | grind))) (Fd.mono (by intro i h; ((try dsimp only [V.In] at h ⊢); first | omega | grind))) hok8 (FM.mono (by intro i h; ((try dsimp only [V.In] at h ⊢); first | omega | grind)) (by intro i h; ((try dsimp only [V.In] at h ⊢); first | omega | grind)) (by (try dsimp only [V.In]); first | omega | grind)) ⟨by (try dsimp only [V.In]); first | omega | grind, hkm⟩
    refine V.done rfl ?_
    exact ⟨k1, (by first | rfl | simp only [List.length_set]), ⟨by omega, by omega⟩, FJ9, HG⟩

end Go.Proofs.Ytnbijpijbhkcpaa
