/- Proved here: walks: what functions of this seat's program return and what they leave of memory, each as a contract. Conditions: stated at each theorem. -/
import Derived.Test.YtnbijpijbhkcpaaMjn4
namespace Go.Proofs.Ytnbijpijbhkcpaa
set_option linter.unusedVariables false
set_option linter.unusedSimpArgs false
open Go
open V (Bytes Meets Env Sl Own Gr Fr Cells S)

theorem cut_bad {j : JV} {d : DiskV} {n : Int} (h : cutBad j n) : cutJ j d n = j ∧ cutE j d n = 71 ∧ cutD j d n = d := by unfold cutJ cutE cutD; rw [if_pos h, if_pos h, if_pos h]; exact ⟨rfl, rfl, rfl⟩
theorem reb_bad {j : JV} {d : DiskV} {n : Int} {b : List UInt8} (h : rebBad n b) : rebJ j d n b = j ∧ rebE j d n b = 71 ∧ rebD d n b = d := by unfold rebJ rebE rebD; rw [if_pos h, if_pos h, if_pos h]; exact ⟨rfl, rfl, rfl⟩

set_option maxHeartbeats 900000 in
set_option maxRecDepth 10000 in
theorem journalIndex_walk {w : World}  {D_l : Nat → Prop} {c_l : Nat} {a_l : Option Addr} {l : List (List UInt8)} (F_l : Sl V.Cod.byte.sl w D_l a_l c_l l) (hD_l : ∀ k, D_l k → k < w.heap.size) {cut : Int} {base : Int}  :
    Meets Try.prog 7 [.slice a_l l.length c_l, .int .i64 cut, .int .i64 base] w fun r w' => r = .bool true ∧ Gr w w' := by
 have hsy0 := Sy.new
 have HG := V.Fr.refl [] w
 refine V.enter (n := 153) Try.func7 rfl rfl (by decide) rfl ?_
 refine V.seq ?_
 refine V.region ?_
 refine V.run T_ok 1 rfl ?_
 refine V.nil ?_
 refine V.tN ?_
 refine V.seq ?_
 refine V.region ?_
 refine V.call (dk_new) rfl rfl rfl ?_
 rintro _ w4 ⟨k1, rfl, ⟨h2l, h2u⟩, F3, G5⟩
 have z6 := V.Fr.size G5
 try replace F_l := F_l.gr G5
 replace HG := HG.grow G5
 clear G5
 refine V.call (open_sy F3 hsy0 (Nat.zero_le _)) rfl rfl rfl ?_
 rintro _ w10 ⟨k7, rfl, ⟨h8l, h8u⟩, F9, G11⟩
 have z12 := V.Fr.size G11
 try replace F_l := F_l.mb G11 hD_l
 first | replace F3 := F3.mv1 G11 (by (try dsimp only [V.In]); first | omega | grind) | clear F3 | skip
 replace HG := HG.n1 G11
 clear G11
 refine V.run T_ok 5 rfl ?_
 refine V.nil ?_
 refine V.tN ?_
 refine V.seq ?_
 refine V.seq ?_
 refine V.region ?_
 refine V.call (alive_spec) rfl rfl rfl ?_
 rintro _ w13 ⟨rfl, G14⟩
 have z15 := V.Fr.size G14
 try replace F_l := F_l.gr G14
 try replace F9 := F9.gr G14
 replace HG := HG.grow G14
 clear G14
 refine V.run T_ok 9 rfl ?_
 refine V.nil ?_
 refine V.tN ?_
 refine V.condN rfl rfl ?_
 refine V.skip ?_
 refine V.tN ?_
 refine V.seq ?_
 refine V.region ?_
 refine V.run T_ok 1 rfl ?_
 refine V.nil ?_
 refine V.tN ?_
 refine V.seq ?_
 refine V.seq ?_
 refine V.region ?_
 refine V.run T_ok 1 rfl ?_
 refine V.nil ?_
 refine V.tN ?_
 refine V.block ?_
 have hl63 := F_l.len63
 refine V.loopM (fun m e v17 => Fr [] w v17 ∧ w13.heap.size ≤ v17.heap.size ∧ Sl V.Cod.byte.sl v17 D_l a_l c_l l ∧ ∃ (i : Nat) (dn lf : List (List UInt8)) (dv : DiskV) (E : Nat → Prop) , m = l.length - i ∧ i ≤ l.length ∧ i ≤ 60 ∧ dn.length ≤ i ∧ Sy (⟨0, [], dn, 0, 0, 0⟩ : JV) dv lf ∧ dv.nf.length ≤ 300 * i ∧ (∀ x, E x → w.heap.size ≤ x) ∧ Jst v17 k7 k1 E (⟨0, [], dn, 0, 0, 0⟩ : JV) dv ∧ e 0 = .slice a_l l.length c_l ∧ e 1 = .int .i64 cut ∧ e 2 = .int .i64 base ∧ e 7 = .pointer (some ⟨k7, 0, none⟩) ∧ e 9 = .int .i64 (dn.length : Int) ∧ e 10 = .int .i64 (i : Int)) ?_ ?_
 ·
  exact ⟨_, HG, (by omega), F_l, (0), ([]), ([]), (⟨[], [], [], []⟩), ((fun i => ((fun i => V.In w.heap.size w4.heap.size i ∧ i ≠ k1) i ∨ i = k1) ∨ V.In w4.heap.size w10.heap.size i)), rfl, (Nat.zero_le _), (by decide), (Nat.le_refl _), (hsy0), (Nat.zero_le _), (by intro i h; (try dsimp only [V.In] at h ⊢); first | omega | grind), F9, rfl, rfl, rfl, rfl, rfl, rfl⟩
 clear HG F_l F9
 rintro _ e v17 ⟨HG, z18, F_l, i, dn, lf, dv, E, rfl, hi, hi60, hdn, hsy, hnf, hE, F9, he0_0, he0_1, he0_2, he0_7, he0_9, he0_10⟩
 have hEl := F9.lt
 refine V.knownC (t := 0) he0_0 ?_
 refine V.knownC (t := 1) he0_1 ?_
 refine V.knownC (t := 2) he0_2 ?_
 refine V.knownC (t := 7) he0_7 ?_
 refine V.knownC (t := 9) he0_9 ?_
 refine V.knownC (t := 10) he0_10 ?_
 refine V.seq ?_
 refine V.seq ?_
 refine V.region ?_
 refine V.run T_ok 5 rfl ?_
 refine V.andG T_ok 2 4 35 rfl rfl rfl rfl rfl rfl rfl rfl ?_
 refine V.nil ?_
 refine V.tN ?_
 refine V.condT rfl (fun h6 => ?_) (fun h6 => ?_)
 ·
  try replace h6 := V.dec h6
  try simp only [V.mk0, V.mk1, V.mk2, V.mk3] at h6
  refine V.skip ?_
  refine V.tN ?_
  refine V.seq ?_
  refine V.block ?_
  refine V.seq ?_
  refine V.seq ?_
  refine V.region ?_
  refine V.run T_ok 2 rfl ?_
  refine V.elem T_ok F_l rfl rfl sz22 rfl rfl rfl rfl (by first | omega | (simp only [List.length_take, List.length_drop, List.length_append, List.length_cons, List.length_nil, List.length_replicate, List.length_set, V.length_data, V.S_size]; omega)) (by first | omega | (simp only [List.length_take, List.length_drop, List.length_append, List.length_cons, List.length_nil, List.length_replicate, List.length_set, V.length_data, V.S_size]; omega)) ?_
  rintro b19 o20 cs21 hx22 hb23 hR29 hA24
  obtain ⟨x25, hx25⟩ : ∃ z', l[((i : Int)).toNat] = z' := ⟨_, rfl⟩
  rw [hx25] at hR29
  obtain ⟨a26, c27, rfl, F28⟩ := hR29
  try simp only [Int.toNat_natCast] at hx25 hx22
  refine V.loadA T_ok (o0 := o20) (off := 0) hA24 rfl rfl rfl rfl rfl ?_
  refine V.run T_ok 2 rfl ?_
  refine V.nil ?_
  refine V.tN ?_
  refine V.condT rfl (fun h8 => ?_) (fun h8 => ?_)
  ·
   try replace h8 := V.dec h8
   try simp only [V.mk0, V.mk1, V.mk2, V.mk3] at h8
   refine V.exit ?_
   refine V.tX ?_
   refine V.bE ?_
   refine V.tN ?_
   refine V.region ?_
   refine V.run T_ok 1 rfl ?_
   refine V.addN rfl rfl rfl rfl rfl (by first | omega | (simp only [List.length_take, List.length_drop, List.length_append, List.length_cons, List.length_nil, List.length_replicate, List.length_set, V.length_data, V.S_size]; omega)) (by first | omega | (simp only [List.length_take, List.length_drop, List.length_append, List.length_cons, List.length_nil, List.length_replicate, List.length_set, V.length_data, V.S_size]; omega)) ?_
   refine V.run T_ok 1 rfl ?_
   refine V.nil ?_
   refine V.tN ?_
   exact ⟨_, (by omega), HG, (by omega), F_l, (i + 1), (dn), (lf), (dv), (E), rfl, (by omega), (by omega), (by omega), (hsy), (by omega), (hE), F9, rfl, rfl, rfl, rfl, rfl, rfl⟩
  ·
   try replace h8 := V.dec h8
   try simp only [V.mk0, V.mk1, V.mk2, V.mk3] at h8
   refine V.skip ?_
   refine V.tN ?_
   refine V.seq ?_
   refine V.seq ?_
   refine V.region ?_
   refine V.run T_ok 3 rfl ?_
   refine V.elem T_ok F_l rfl rfl sz22 rfl rfl rfl rfl (by first | omega | (simp only [List.length_take, List.length_drop, List.length_append, List.length_cons, List.length_nil, List.length_replicate, List.length_set, V.length_data, V.S_size]; omega)) (by first | omega | (simp only [List.length_take, List.length_drop, List.length_append, List.length_cons, List.length_nil, List.length_replicate, List.length_set, V.length_data, V.S_size]; omega)) ?_
   rintro b30 o31 cs32 hx33 hb34 hR40 hA35
   obtain ⟨x36, hx36⟩ : ∃ z', l[((i : Int)).toNat] = z' := ⟨_, rfl⟩
   rw [hx36] at hR40
   obtain ⟨a37, c38, rfl, F39⟩ := hR40
   try simp only [Int.toNat_natCast] at hx36 hx33
   obtain rfl : x25 = x36 := hx25.symm.trans hx36
   refine V.loadA T_ok (o0 := o31) (off := 0) hA35 rfl rfl rfl rfl rfl ?_
   refine V.call (jappend_spec F9 F39 (fun k hk => by have := hD_l k hk; omega) (by first | assumption | omega | decide | (dsimp only; omega) | (simp only [List.length_append, List.length_take, List.length_cons, List.length_nil]; omega))) rfl rfl rfl ?_
   rintro _ w42 ⟨rfl, F41, G43⟩
   have z44 := V.FrE.size G43
   first | replace F_l := F_l.mvE G43 (by intro j h hd; (try dsimp only [V.In] at h hd ⊢); first | omega | grind) | clear F_l | skip
   first | replace F9 := F9.mvE G43 (by intro j h hd; (try dsimp only [V.In] at h hd ⊢); first | omega | grind) | clear F9 | skip
   first | replace F28 := F28.mvE G43 (by intro j h hd; (try dsimp only [V.In] at h hd ⊢); first | omega | grind) | clear F28 | skip
   first | replace F39 := F39.mvE G43 (by intro j h hd; (try dsimp only [V.In] at h hd ⊢); first | omega | grind) | clear F39 | skip
   replace HG := HG.stepE G43 (by intro i h; (try dsimp only [V.In] at h ⊢); first | omega | grind)
   clear G43
   obtain ⟨⟨hj9, he9, hd9⟩, hsy9⟩ := hsy.app (b := x25) (by omega) (by omega)
   rw [hj9, hd9] at F41
   rw [he9]
   refine V.run T_ok 3 rfl ?_
   refine V.yes rfl rfl rfl ?_
   refine V.call (jlast_j F41) rfl rfl rfl ?_
   rintro _ w45 ⟨rfl, G46⟩
   have z47 := V.Fr.size G46
   try replace F_l := F_l.gr G46
   try replace F28 := F28.gr G46
   try replace F39 := F39.gr G46
   try replace F41 := F41.gr G46
   replace HG := HG.grow G46
   clear G46
   refine V.run T_ok 1 rfl ?_
   refine V.yes rfl rfl rfl ?_
   refine V.addN rfl rfl rfl rfl rfl (by first | omega | (simp only [List.length_take, List.length_drop, List.length_append, List.length_cons, List.length_nil, List.length_replicate, List.length_set, V.length_data, V.S_size]; omega)) (by first | omega | (simp only [List.length_take, List.length_drop, List.length_append, List.length_cons, List.length_nil, List.length_replicate, List.length_set, V.length_data, V.S_size]; omega)) ?_
   refine V.run T_ok 2 rfl ?_
   refine V.nil ?_
   refine V.tN ?_
   refine V.condT rfl (fun h9 => ?_) (fun h9 => ?_)
   ·
    try replace h9 := V.dec h9
    try simp only [V.mk0, V.mk1, V.mk2, V.mk3] at h9
    exfalso
    (try dsimp only at h9)
    (try simp only [List.length_append, List.length_cons, List.length_nil, List.length_take, List.length_drop] at h9)
    omega
   ·
    try replace h9 := V.dec h9
    try simp only [V.mk0, V.mk1, V.mk2, V.mk3] at h9
    refine V.skip ?_
    refine V.tN ?_
    refine V.region ?_
    refine V.run T_ok 1 rfl ?_
    refine V.addN rfl rfl rfl rfl rfl (by first | omega | (simp only [List.length_take, List.length_drop, List.length_append, List.length_cons, List.length_nil, List.length_replicate, List.length_set, V.length_data, V.S_size]; omega)) (by first | omega | (simp only [List.length_take, List.length_drop, List.length_append, List.length_cons, List.length_nil, List.length_replicate, List.length_set, V.length_data, V.S_size]; omega)) ?_
    refine V.run T_ok 1 rfl ?_
    refine V.nil ?_
    refine V.bN ?_
    refine V.tN ?_
    refine V.region ?_
    refine V.run T_ok 1 rfl ?_
    refine V.addN rfl rfl rfl rfl rfl (by first | omega | (simp only [List.length_take, List.length_drop, List.length_append, List.length_cons, List.length_nil, List.length_replicate, List.length_set, V.length_data, V.S_size]; omega)) (by first | omega | (simp only [List.length_take, List.length_drop, List.length_append, List.length_cons, List.length_nil, List.length_replicate, List.length_set, V.length_data, V.S_size]; omega)) ?_
    refine V.run T_ok 1 rfl ?_
    refine V.nil ?_
    refine V.tN ?_
    have hcl9 := chA_len (b := x25) (by omega)
    exact ⟨_, (by omega), HG, (by omega), F_l, (i + 1), (dn ++ [x25]), (lf ++ [chA x25]), (({ dv with nf := dv.nf ++ frm (chA x25) } : DiskV)), ((fun i => E i ∨ V.In v17.heap.size w42.heap.size i)), rfl, (by omega), (by omega), ((by rw [List.length_append]; simp only [List.length_cons, List.length_nil]; omega)), (hsy9), ((by dsimp only; rw [List.length_append, frm_len]; omega)), (by intro i h; (try dsimp only [V.In] at h ⊢); first | omega | grind), F41, rfl, rfl, rfl, rfl, (congrArg (Value.int .i64) (by rw [List.length_append]; rfl)), rfl⟩
 ·
  try replace h6 := V.dec h6
  try simp only [V.mk0, V.mk1, V.mk2, V.mk3] at h6
  refine V.exit ?_
  refine V.tX ?_
  refine V.tX ?_
  refine V.bE ?_
  refine V.tN ?_
  refine V.seq ?_
  refine V.region ?_
  refine V.run T_ok 1 rfl ?_
  refine V.call (jrec_spec_j F9) rfl rfl rfl ?_
  rintro _ w51 ⟨a48, c49, rfl, F50, G52⟩
  have z53 := V.Fr.size G52
  try replace F_l := F_l.gr G52
  try replace F9 := F9.gr G52
  replace HG := HG.grow G52
  clear G52
  refine V.run T_ok 1 rfl ?_
  refine V.nil ?_
  refine V.tN ?_
  refine V.seq ?_
  rcases Decidable.em (cutBad (⟨0, [], dn, 0, 0, 0⟩ : JV) cut) with hcb | hcb
  ·
   refine V.region ?_
   refine V.run T_ok 2 rfl ?_
   refine V.call (jcut_spec (n := cut) F9 (by first | assumption | omega | decide | (dsimp only; omega) | (simp only [List.length_append, List.length_take, List.length_cons, List.length_nil]; omega))) rfl rfl rfl ?_
   rintro _ w55 ⟨rfl, F54, G56⟩
   have z57 := V.FrE.size G56
   first | replace F_l := F_l.mvE G56 (by intro j h hd; (try dsimp only [V.In] at h hd ⊢); first | omega | grind) | clear F_l | skip
   first | replace F9 := F9.mvE G56 (by intro j h hd; (try dsimp only [V.In] at h hd ⊢); first | omega | grind) | clear F9 | skip
   first | replace F50 := F50.mvE G56 (by intro j h; refine ⟨fun hd => ?_, fun hd => ?_⟩ <;> first | exact hd.elim | (try dsimp only [V.In] at h hd ⊢); first | omega | grind) | clear F50 | skip
   replace HG := HG.stepE G56 (by intro i h; (try dsimp only [V.In] at h ⊢); first | omega | grind)
   clear G56
   obtain ⟨hj8, he8, hd8⟩ := cut_bad (d := dv) hcb
   rw [hj8, hd8] at F54
   rw [he8]
   have hsy8 := hsy
   have hlz : dn = dn.take ((dn.length : Int)).toNat := by rw [Int.toNat_natCast, List.take_length]
   have hnf8 : dv.nf.length ≤ 18100 := by omega
   unfold cutBad at hcb
   dsimp only at hcb
   refine V.run T_ok 1 rfl ?_
   refine V.nil ?_
   refine V.tN ?_
   refine V.seq ?_
   refine V.seq ?_
   refine V.region ?_
   refine V.run T_ok 5 rfl ?_
   refine V.andG T_ok 3 4 72 rfl rfl rfl rfl rfl rfl rfl rfl ?_
   refine V.run T_ok 2 rfl ?_
   refine V.orG T_ok 4 10 78 rfl rfl rfl rfl rfl rfl rfl rfl ?_
   refine V.nil ?_
   refine V.tN ?_
   refine V.condT rfl (fun h14 => ?_) (fun h14 => ?_)
   ·
    try replace h14 := V.dec h14
    try simp only [V.mk0, V.mk1, V.mk2, V.mk3] at h14
    exfalso
    grind
   ·
    try replace h14 := V.dec h14
    try simp only [V.mk0, V.mk1, V.mk2, V.mk3] at h14
    refine V.skip ?_
    refine V.tN ?_
    refine V.seq ?_
    refine V.seq ?_
    refine V.region ?_
    refine V.run T_ok 2 rfl ?_
    refine V.nil ?_
    refine V.tN ?_
    refine V.condN rfl rfl ?_
    refine V.skip ?_
    refine V.tN ?_
    refine V.seq ?_
    refine V.seq ?_
    refine V.drawGT 5 (V.sel [(1, (fun v wz => ∃ (ra65 : Option Addr) (rc65 : Nat), v = .slice ra65 dn.length rc65 ∧ V.Row V.Cod.byte.sl 22 wz V.None' w55.heap.size wz.heap.size ra65 rc65 dn))]) mixed (by kernel_rfl) (V.mono_cons (by rintro v wz wz' g ⟨ra65, rc65, rfl, rF65⟩; exact ⟨ra65, rc65, rfl, (by first | exact (rF65.gr g).mono (V.In.sub (Nat.le_refl _) g.size) | exact rF65.gr g | exact (rF65.gr g).mono (fun _ h => h) (Nat.le_refl _) g.size | exact (rF65.gr g).mono (fun k h => ⟨h.1, Nat.lt_of_lt_of_le h.2 g.size⟩))⟩) V.mono_nil) ?_
    refine V.grun T_ok 1 rfl (V.sel_none rfl) ?_
    refine V.gcall (fun w' h => (jrec_spec_j (F54.gr h.1)).mono (by rintro v w'' ⟨ra65, rc65, rfl, rF65, G⟩; exact ⟨⟨ra65, rc65, rfl, (by first | exact rF65.mono (V.In.mono_l h.1.size) | exact rF65 | exact rF65.mono (fun _ h => h) h.1.size (Nat.le_refl _))⟩, G⟩)) rfl rfl rfl rfl ?_
    rintro _ w61 - - ⟨a58, c59, rfl, -⟩
    refine V.grun T_ok 2 rfl (V.sel_none rfl) ?_
    refine V.gcutL T_ok F50.sl rfl rfl sz22 rfl rfl rfl rfl (by first | omega | (simp only [List.length_take, List.length_drop, List.length_append, List.length_cons, List.length_nil, List.length_replicate, List.length_set, V.length_data, V.S_size]; omega)) (by first | omega | (simp only [List.length_take, List.length_drop, List.length_append, List.length_cons, List.length_nil, List.length_replicate, List.length_set, V.length_data, V.S_size]; omega)) (fun a62 F64 => ?_)
    refine V.gnil ?_
    rintro w65 G66 hH67
    have z68 := V.Fr.size G66
    try replace F_l := F_l.gr G66
    try replace F50 := F50.gr G66
    try replace F54 := F54.gr G66
    try replace F64 := F64.gr G66
    replace HG := HG.grow G66
    clear G66
    have F60 : V.Row V.Cod.byte.sl 22 w65 V.None' w55.heap.size w65.heap.size a58 c59 dn := by
      obtain ⟨_, _, he, F0⟩ := (V.Hist.here (hH67 1))
      cases he
      exact F0
    clear hH67
    refine V.call (rsameL_spec F60.sl F64) rfl rfl rfl ?_
    rintro _ w65_ ⟨rfl, G70⟩
    have z71 := V.Fr.size G70
    try replace F_l := F_l.gr G70
    try replace F50 := F50.gr G70
    try replace F54 := F54.gr G70
    try replace F64 := F64.gr G70
    try replace F60 := F60.gr G70
    replace HG := HG.grow G70
    clear G70
    refine V.run T_ok 1 rfl ?_
    refine V.nil ?_
    refine V.tN ?_
    refine V.condT rfl (fun h18 => ?_) (fun h18 => ?_)
    ·
     try replace h18 := V.dec h18
     try simp only [V.mk0, V.mk1, V.mk2, V.mk3] at h18
     exfalso
     grind
    ·
     try replace h18 := V.dec h18
     try simp only [V.mk0, V.mk1, V.mk2, V.mk3] at h18
     refine V.skip ?_
     refine V.tN ?_
     refine V.seq ?_
     rcases Decidable.em (rebBad base ([98] : List UInt8)) with hrb | hrb
     ·
      refine V.region ?_
      refine V.run T_ok 2 rfl ?_
      refine V.mkMark (xs := ([98] : List UInt8)) T_ok zero5 rfl rfl sz5 rfl rfl rfl rfl rfl rfl Try.underlying5 rfl rfl rfl rfl rfl rfl ?_
      rintro k72 w75 s77 s78 G76 F74
      have z79 := V.Fr.size G76
      try replace F_l := F_l.gr G76
      try replace F50 := F50.gr G76
      try replace F54 := F54.gr G76
      try replace F64 := F64.gr G76
      try replace F60 := F60.gr G76
      replace HG := HG.grow G76
      clear G76
      refine V.call (jreb_spec (n := base) F54 F74 (fun k hk => by have := hk.2; omega) (by first | assumption | omega | decide | (dsimp only; omega) | (simp only [List.length_append, List.length_take, List.length_cons, List.length_nil]; omega))) rfl rfl rfl ?_
      rintro _ w81 ⟨rfl, F80, G82⟩
      have z83 := V.FrE.size G82
      first | replace F_l := F_l.mvE G82 (by intro j h hd; (try dsimp only [V.In] at h hd ⊢); first | omega | grind) | clear F_l | skip
      first | replace F50 := F50.mvE G82 (by intro j h; refine ⟨fun hd => ?_, fun hd => ?_⟩ <;> first | exact hd.elim | (try dsimp only [V.In] at h hd ⊢); first | omega | grind) | clear F50 | skip
      first | replace F54 := F54.mvE G82 (by intro j h hd; (try dsimp only [V.In] at h hd ⊢); first | omega | grind) | clear F54 | skip
      first | replace F64 := F64.mvE G82 (by intro j h hd; (try dsimp only [V.In] at h hd ⊢); first | omega | grind) | clear F64 | skip
      first | replace F60 := F60.mvE G82 (by intro j h; refine ⟨fun hd => ?_, fun hd => ?_⟩ <;> first | exact hd.elim | (try dsimp only [V.In] at h hd ⊢); first | omega | grind) | clear F60 | skip
      first | replace F74 := F74.mvE G82 (by intro j h hd; (try dsimp only [V.In] at h hd ⊢); first | omega | grind) | clear F74 | skip
      replace HG := HG.stepE G82 (by intro i h; (try dsimp only [V.In] at h ⊢); first | omega | grind)
      clear G82
      obtain ⟨hj7, he7, hd7⟩ := reb_bad (j := (⟨0, [], dn, 0, 0, 0⟩ : JV)) (d := dv) hrb
      rw [hj7, hd7] at F80
      rw [he7]
      unfold rebBad at hrb
      simp only [List.length_cons, List.length_nil] at hrb
      refine V.run T_ok 1 rfl ?_
      refine V.nil ?_
      refine V.tN ?_
      refine V.seq ?_
      refine V.seq ?_
      refine V.region ?_
      refine V.run T_ok 2 rfl ?_
      refine V.nil ?_
      refine V.tN ?_
      refine V.condY rfl rfl ?_
      refine V.seq ?_
      refine V.region ?_
      refine V.run T_ok 3 rfl ?_
      refine V.orG T_ok 2 2 103 rfl rfl rfl rfl rfl rfl rfl rfl ?_
      refine V.run T_ok 1 rfl ?_
      refine V.nil ?_
      refine V.tN ?_
      refine V.ret ?_
      refine V.tR ?_
      refine V.done rfl ?_
      exact ⟨(congrArg Value.bool (by first | rfl | grind)), HG⟩
     ·
      refine V.region ?_
      refine V.run T_ok 2 rfl ?_
      refine V.mkMark (xs := ([98] : List UInt8)) T_ok zero5 rfl rfl sz5 rfl rfl rfl rfl rfl rfl Try.underlying5 rfl rfl rfl rfl rfl rfl ?_
      rintro k84 w87 s89 s90 G88 F86
      have z91 := V.Fr.size G88
      try replace F_l := F_l.gr G88
      try replace F50 := F50.gr G88
      try replace F54 := F54.gr G88
      try replace F64 := F64.gr G88
      try replace F60 := F60.gr G88
      replace HG := HG.grow G88
      clear G88
      refine V.call (jreb_spec (n := base) F54 F86 (fun k hk => by have := hk.2; omega) (by first | assumption | omega | decide | (dsimp only; omega) | (simp only [List.length_append, List.length_take, List.length_cons, List.length_nil]; omega))) rfl rfl rfl ?_
      rintro _ w93 ⟨rfl, F92, G94⟩
      have z95 := V.FrE.size G94
      first | replace F_l := F_l.mvE G94 (by intro j h hd; (try dsimp only [V.In] at h hd ⊢); first | omega | grind) | clear F_l | skip
      first | replace F50 := F50.mvE G94 (by intro j h; refine ⟨fun hd => ?_, fun hd => ?_⟩ <;> first | exact hd.elim | (try dsimp only [V.In] at h hd ⊢); first | omega | grind) | clear F50 | skip
      first | replace F54 := F54.mvE G94 (by intro j h hd; (try dsimp only [V.In] at h hd ⊢); first | omega | grind) | clear F54 | skip
      first | replace F64 := F64.mvE G94 (by intro j h hd; (try dsimp only [V.In] at h hd ⊢); first | omega | grind) | clear F64 | skip
      first | replace F60 := F60.mvE G94 (by intro j h; refine ⟨fun hd => ?_, fun hd => ?_⟩ <;> first | exact hd.elim | (try dsimp only [V.In] at h hd ⊢); first | omega | grind) | clear F60 | skip
      first | replace F86 := F86.mvE G94 (by intro j h hd; (try dsimp only [V.In] at h hd ⊢); first | omega | grind) | clear F86 | skip
      replace HG := HG.stepE G94 (by intro i h; (try dsimp only [V.In] at h ⊢); first | omega | grind)
      clear G94
      obtain ⟨⟨hj7, he7, hd7⟩, hsy7⟩ := hsy8.rebY hrb (by (try dsimp only); simp only [List.length_cons, List.length_nil]; omega)
      rw [hj7, hd7] at F92
      rw [he7]
      unfold rebBad at hrb
      simp only [List.length_cons, List.length_nil] at hrb
      have hbl1 : (dn.length : Int) < base → basL (⟨0, [], dn, 0, 0, 0⟩ : JV) base = [] := fun h => by unfold basL; rw [if_pos (by (try simp only [List.length_take]); omega)]
      have hbl2 : ¬ (dn.length : Int) < base → basL (⟨0, [], dn, 0, 0, 0⟩ : JV) base = dn.drop base.toNat := fun h => by unfold basL; rw [if_neg (by (try simp only [List.length_take]); omega)]; simp only [Int.sub_zero]
      have hbl3 : ¬ (dn.length : Int) < base → dn.drop base.toNat = (dn.drop base.toNat).take ((dn.length : Int) - base).toNat ∧ ((dn.drop base.toNat).length : Int) = (dn.length : Int) - base := fun h => ⟨by rw [List.take_of_length_le (by rw [List.length_drop]; omega)], by simp only [List.length_drop, List.length_take]; omega⟩
      refine V.run T_ok 1 rfl ?_
      refine V.nil ?_
      refine V.tN ?_
      refine V.seq ?_
      refine V.seq ?_
      refine V.region ?_
      refine V.run T_ok 2 rfl ?_
      refine V.nil ?_
      refine V.tN ?_
      refine V.condN rfl rfl ?_
      refine V.skip ?_
      refine V.tN ?_
      refine V.seq ?_
      refine V.region ?_
      refine V.run T_ok 1 rfl ?_
      refine V.call (jbase_spec_j F92) rfl rfl rfl ?_
      rintro _ w99 ⟨a96, c97, rfl, F98, G100⟩
      have z101 := V.Fr.size G100
      try replace F_l := F_l.gr G100
      try replace F50 := F50.gr G100
      try replace F64 := F64.gr G100
      try replace F60 := F60.gr G100
      try replace F86 := F86.gr G100
      try replace F92 := F92.gr G100
      replace HG := HG.grow G100
      clear G100
      refine V.run T_ok 5 rfl ?_
      refine V.nil ?_
      refine V.tN ?_
      refine V.seq ?_
      refine V.seq ?_
      refine V.region ?_
      refine V.run T_ok 3 rfl ?_
      refine V.nil ?_
      refine V.tN ?_
      refine V.condT rfl (fun h24 => ?_) (fun h24 => ?_)
      ·
       try replace h24 := V.dec h24
       try simp only [V.mk0, V.mk1, V.mk2, V.mk3] at h24
       refine V.seq ?_
       refine V.region ?_
       refine V.run T_ok 4 rfl ?_
       refine V.split (j := 3) (t := 118) rfl rfl (fun g25_3 => ?_) (fun g25_3 => ?_)
       ·
        try replace g25_3 := V.dec g25_3
        try simp only [V.mk0, V.mk1, V.mk2, V.mk3] at g25_3
        refine V.run T_ok 1 rfl ?_
        refine V.yes rfl rfl rfl ?_
        refine V.toStr F98.sl Try.underlying22 Try.underlying5 Try.underlying9 rfl rfl rfl rfl ?_
        refine V.run T_ok 3 rfl ?_
        refine V.split (j := 8) (t := 123) rfl rfl (fun g25_8 => ?_) (fun g25_8 => ?_)
        ·
         try replace g25_8 := V.dec g25_8
         try simp only [V.mk0, V.mk1, V.mk2, V.mk3] at g25_8
         refine V.run T_ok 1 rfl ?_
         refine V.yes rfl rfl rfl ?_
         refine V.call (jrec_spec_j F92) rfl rfl rfl ?_
         rintro _ w105 ⟨a102, c103, rfl, F104, G106⟩
         have z107 := V.Fr.size G106
         try replace F_l := F_l.gr G106
         try replace F50 := F50.gr G106
         try replace F64 := F64.gr G106
         try replace F60 := F60.gr G106
         try replace F86 := F86.gr G106
         try replace F92 := F92.gr G106
         try replace F98 := F98.gr G106
         replace HG := HG.grow G106
         clear G106
         refine V.run T_ok 4 rfl ?_
         refine V.split (j := 14) (t := 129) rfl rfl (fun g25_14 => ?_) (fun g25_14 => ?_)
         ·
          try replace g25_14 := V.dec g25_14
          try simp only [V.mk0, V.mk1, V.mk2, V.mk3] at g25_14
          refine V.run T_ok 1 rfl ?_
          refine V.yes rfl rfl rfl ?_
          refine V.call (jlast_j F92) rfl rfl rfl ?_
          rintro _ w108 ⟨rfl, G109⟩
          have z110 := V.Fr.size G109
          try replace F_l := F_l.gr G109
          try replace F50 := F50.gr G109
          try replace F64 := F64.gr G109
          try replace F60 := F60.gr G109
          try replace F86 := F86.gr G109
          try replace F92 := F92.gr G109
          try replace F98 := F98.gr G109
          try replace F104 := F104.gr G109
          replace HG := HG.grow G109
          clear G109
          refine V.run T_ok 4 rfl ?_
          refine V.nil ?_
          refine V.tN ?_
          refine V.ret ?_
          refine V.tR ?_
          refine V.done rfl ?_
          have hbz := hbl1 (by omega)
          try rw [hbz]
          exact ⟨(congrArg Value.bool (by first | rfl | grind)), HG⟩
         ·
          try replace g25_14 := V.dec g25_14
          try simp only [V.mk0, V.mk1, V.mk2, V.mk3] at g25_14
          refine V.run T_ok 6 rfl ?_
          refine V.nil ?_
          refine V.tN ?_
          refine V.ret ?_
          refine V.tR ?_
          refine V.done rfl ?_
          have hbz := hbl1 (by omega)
          try rw [hbz]
          exact ⟨(congrArg Value.bool (by first | rfl | grind)), HG⟩
        ·
         try replace g25_8 := V.dec g25_8
         try simp only [V.mk0, V.mk1, V.mk2, V.mk3] at g25_8
         refine V.run T_ok 12 rfl ?_
         refine V.nil ?_
         refine V.tN ?_
         refine V.ret ?_
         refine V.tR ?_
         refine V.done rfl ?_
         have hbz := hbl1 (by omega)
         try rw [hbz]
         exact ⟨(congrArg Value.bool (by first | rfl | grind)), HG⟩
       ·
        try replace g25_3 := V.dec g25_3
        try simp only [V.mk0, V.mk1, V.mk2, V.mk3] at g25_3
        refine V.run T_ok 17 rfl ?_
        refine V.nil ?_
        refine V.tN ?_
        refine V.ret ?_
        refine V.tR ?_
        refine V.done rfl ?_
        have hbz := hbl1 (by omega)
        try rw [hbz]
        exact ⟨(congrArg Value.bool (by first | rfl | grind)), HG⟩
      ·
       try replace h24 := V.dec h24
       try simp only [V.mk0, V.mk1, V.mk2, V.mk3] at h24
       refine V.skip ?_
       refine V.tN ?_
       refine V.seq ?_
       refine V.drawGT 16 (V.sel [(5, (fun v wz => v = .int .i64 (base + (basL (⟨0, [], dn, 0, 0, 0⟩ : JV) base).length))), (11, (fun v wz => ∃ (ra65 : Option Addr) (rc65 : Nat), v = .slice ra65 (basL (⟨0, [], dn, 0, 0, 0⟩ : JV) base).length rc65 ∧ V.Row V.Cod.byte.sl 22 wz V.None' w99.heap.size wz.heap.size ra65 rc65 (basL (⟨0, [], dn, 0, 0, 0⟩ : JV) base)))]) mixed (by kernel_rfl) (V.mono_cons V.eqV_mono (V.mono_cons (by rintro v wz wz' g ⟨ra65, rc65, rfl, rF65⟩; exact ⟨ra65, rc65, rfl, (by first | exact (rF65.gr g).mono (V.In.sub (Nat.le_refl _) g.size) | exact rF65.gr g | exact (rF65.gr g).mono (fun _ h => h) (Nat.le_refl _) g.size | exact (rF65.gr g).mono (fun k h => ⟨h.1, Nat.lt_of_lt_of_le h.2 g.size⟩))⟩) V.mono_nil)) ?_
       refine V.grun T_ok 4 rfl (V.sel_none rfl) ?_
       refine V.gsplit (j := 3) (t := 138) rfl rfl (fun g26_3 => ?_) (fun g26_3 => ?_)
       ·
        try replace g26_3 := V.dec g26_3
        try simp only [V.mk0, V.mk1, V.mk2, V.mk3] at g26_3
        refine V.grun T_ok 1 rfl (V.sel_none rfl) ?_
        refine V.gyes rfl rfl rfl ?_
        refine V.gcall (fun w' h => (jlast_j (F92.gr h.1)).mono (by rintro v w'' ⟨rfl, G⟩; exact ⟨rfl, G⟩)) rfl rfl rfl rfl ?_
        rintro _ w111 - - rfl
        refine V.grun T_ok 4 rfl (V.sel_none rfl) ?_
        refine V.gsplit (j := 9) (t := 144) rfl rfl (fun g26_9 => ?_) (fun g26_9 => ?_)
        ·
         try replace g26_9 := V.dec g26_9
         try simp only [V.mk0, V.mk1, V.mk2, V.mk3] at g26_9
         refine V.grun T_ok 1 rfl (V.sel_none rfl) ?_
         refine V.gyes rfl rfl rfl ?_
         refine V.gcall (fun w' h => (jrec_spec_j (F92.gr h.1)).mono (by rintro v w'' ⟨ra65, rc65, rfl, rF65, G⟩; exact ⟨⟨ra65, rc65, rfl, (by first | exact rF65.mono (V.In.mono_l h.1.size) | exact rF65 | exact rF65.mono (fun _ h => h) h.1.size (Nat.le_refl _))⟩, G⟩)) rfl rfl rfl rfl ?_
         rintro _ w115 - - ⟨a112, c113, rfl, -⟩
         refine V.grun T_ok 3 rfl (V.sel_none rfl) ?_
         refine V.gyes rfl rfl rfl ?_
         refine V.gcut T_ok F50.sl rfl rfl sz22 rfl rfl rfl rfl rfl rfl rfl (by first | omega | (simp only [List.length_take, List.length_drop, List.length_append, List.length_cons, List.length_nil, List.length_replicate, List.length_set, V.length_data, V.S_size]; omega)) (by first | omega | (simp only [List.length_take, List.length_drop, List.length_append, List.length_cons, List.length_nil, List.length_replicate, List.length_set, V.length_data, V.S_size]; omega)) (by first | omega | (simp only [List.length_take, List.length_drop, List.length_append, List.length_cons, List.length_nil, List.length_replicate, List.length_set, V.length_data, V.S_size]; omega)) (fun a116 c117 F118 _ => ?_)
         refine V.gnil ?_
         rintro w119 G120 hH121
         have z122 := V.Fr.size G120
         try replace F_l := F_l.gr G120
         try replace F50 := F50.gr G120
         try replace F64 := F64.gr G120
         try replace F60 := F60.gr G120
         try replace F86 := F86.gr G120
         try replace F92 := F92.gr G120
         try replace F98 := F98.gr G120
         try replace F118 := F118.gr G120
         replace HG := HG.grow G120
         clear G120
         have F114 : V.Row V.Cod.byte.sl 22 w119 V.None' w99.heap.size w119.heap.size a112 c113 (basL (⟨0, [], dn, 0, 0, 0⟩ : JV) base) := by
           obtain ⟨_, _, he, F0⟩ := (V.Hist.here (hH121 11))
           cases he
           exact F0
         clear hH121
         refine V.yes rfl rfl rfl ?_
         refine V.call (rsameL_spec F114.sl F118) rfl rfl rfl ?_
         rintro _ w119_ ⟨rfl, G124⟩
         have z125 := V.Fr.size G124
         try replace F_l := F_l.gr G124
         try replace F50 := F50.gr G124
         try replace F64 := F64.gr G124
         try replace F60 := F60.gr G124
         try replace F86 := F86.gr G124
         try replace F92 := F92.gr G124
         try replace F98 := F98.gr G124
         try replace F118 := F118.gr G124
         try replace F114 := F114.gr G124
         replace HG := HG.grow G124
         clear G124
         refine V.run T_ok 2 rfl ?_
         refine V.nil ?_
         refine V.tN ?_
         refine V.ret ?_
         refine V.done rfl ?_
         have hbz := hbl2 (by omega)
         have hbz3 := hbl3 (by omega)
         try rw [hbz]
         exact ⟨(congrArg Value.bool (by first | rfl | grind)), HG⟩
        ·
         try replace g26_9 := V.dec g26_9
         try simp only [V.mk0, V.mk1, V.mk2, V.mk3] at g26_9
         refine V.grun T_ok 1 rfl (V.sel_none rfl) ?_
         refine V.gno rfl rfl rfl rfl ?_
         refine V.grun T_ok 4 rfl (V.sel_none rfl) ?_
         refine V.gnil ?_
         rintro w126 G127 hH128
         have z129 := V.Fr.size G127
         try replace F_l := F_l.gr G127
         try replace F50 := F50.gr G127
         try replace F64 := F64.gr G127
         try replace F60 := F60.gr G127
         try replace F86 := F86.gr G127
         try replace F92 := F92.gr G127
         try replace F98 := F98.gr G127
         replace HG := HG.grow G127
         clear G127
         clear hH128
         refine V.run T_ok 3 rfl ?_
         refine V.nil ?_
         refine V.tN ?_
         refine V.ret ?_
         refine V.done rfl ?_
         have hbz := hbl2 (by omega)
         have hbz3 := hbl3 (by omega)
         try rw [hbz]
         exact ⟨(congrArg Value.bool (by first | rfl | grind)), HG⟩
       ·
        try replace g26_3 := V.dec g26_3
        try simp only [V.mk0, V.mk1, V.mk2, V.mk3] at g26_3
        refine V.grun T_ok 1 rfl (V.sel_none rfl) ?_
        refine V.gno rfl rfl rfl rfl ?_
        refine V.grun T_ok 5 rfl (V.sel_none rfl) ?_
        refine V.gno rfl rfl rfl rfl ?_
        refine V.grun T_ok 4 rfl (V.sel_none rfl) ?_
        refine V.gnil ?_
        rintro w130 G131 hH132
        have z133 := V.Fr.size G131
        try replace F_l := F_l.gr G131
        try replace F50 := F50.gr G131
        try replace F64 := F64.gr G131
        try replace F60 := F60.gr G131
        try replace F86 := F86.gr G131
        try replace F92 := F92.gr G131
        try replace F98 := F98.gr G131
        replace HG := HG.grow G131
        clear G131
        clear hH132
        refine V.run T_ok 3 rfl ?_
        refine V.nil ?_
        refine V.tN ?_
        refine V.ret ?_
        refine V.done rfl ?_
        have hbz := hbl2 (by omega)
        have hbz3 := hbl3 (by omega)
        try rw [hbz]
        exact ⟨(congrArg Value.bool (by first | rfl | grind)), HG⟩
  ·
   refine V.region ?_
   refine V.run T_ok 2 rfl ?_
   refine V.call (jcut_spec (n := cut) F9 (by first | assumption | omega | decide | (dsimp only; omega) | (simp only [List.length_append, List.length_take, List.length_cons, List.length_nil]; omega))) rfl rfl rfl ?_
   rintro _ w135 ⟨rfl, F134, G136⟩
   have z137 := V.FrE.size G136
   first | replace F_l := F_l.mvE G136 (by intro j h hd; (try dsimp only [V.In] at h hd ⊢); first | omega | grind) | clear F_l | skip
   first | replace F9 := F9.mvE G136 (by intro j h hd; (try dsimp only [V.In] at h hd ⊢); first | omega | grind) | clear F9 | skip
   first | replace F50 := F50.mvE G136 (by intro j h; refine ⟨fun hd => ?_, fun hd => ?_⟩ <;> first | exact hd.elim | (try dsimp only [V.In] at h hd ⊢); first | omega | grind) | clear F50 | skip
   replace HG := HG.stepE G136 (by intro i h; (try dsimp only [V.In] at h ⊢); first | omega | grind)
   clear G136
   obtain ⟨⟨hj8, he8, hd8⟩, hsy8⟩ := hsy.cutY hcb (by show dn.length ≤ _; omega) (by omega)
   rw [hj8, hd8] at F134
   rw [he8]
   have hcl8 := chC_len (n := cut - 0) (by unfold cutBad at hcb; dsimp only at hcb; omega)
   try dsimp only at F134 hsy8
   rw [show (cut - 0).toNat = cut.toNat by omega] at F134 hsy8
   have hnf8 : (dv.nf ++ frm (chC (cut - 0))).length ≤ 18100 := by rw [List.length_append, frm_len]; omega
   unfold cutBad at hcb
   dsimp only at hcb
   refine V.run T_ok 1 rfl ?_
   refine V.nil ?_
   refine V.tN ?_
   refine V.seq ?_
   refine V.seq ?_
   refine V.region ?_
   refine V.run T_ok 5 rfl ?_
   refine V.andG T_ok 3 4 72 rfl rfl rfl rfl rfl rfl rfl rfl ?_
   refine V.run T_ok 2 rfl ?_
   refine V.orG T_ok 4 10 78 rfl rfl rfl rfl rfl rfl rfl rfl ?_
   refine V.nil ?_
   refine V.tN ?_
   refine V.condT rfl (fun h14 => ?_) (fun h14 => ?_)
   ·
    try replace h14 := V.dec h14
    try simp only [V.mk0, V.mk1, V.mk2, V.mk3] at h14
    exfalso
    grind
   ·
    try replace h14 := V.dec h14
    try simp only [V.mk0, V.mk1, V.mk2, V.mk3] at h14
    refine V.skip ?_
    refine V.tN ?_
    refine V.seq ?_
    refine V.seq ?_
    refine V.region ?_
    refine V.run T_ok 2 rfl ?_
    refine V.nil ?_
    refine V.tN ?_
    refine V.condY rfl rfl ?_
    refine V.region ?_
    refine V.run T_ok 2 rfl ?_
    refine V.nil ?_
    refine V.tN ?_
    refine V.seq ?_
    refine V.seq ?_
    refine V.drawGT 5 (V.sel [(1, (fun v wz => ∃ (ra65 : Option Addr) (rc65 : Nat), v = .slice ra65 (dn.take cut.toNat).length rc65 ∧ V.Row V.Cod.byte.sl 22 wz V.None' w135.heap.size wz.heap.size ra65 rc65 (dn.take cut.toNat)))]) mixed (by kernel_rfl) (V.mono_cons (by rintro v wz wz' g ⟨ra65, rc65, rfl, rF65⟩; exact ⟨ra65, rc65, rfl, (by first | exact (rF65.gr g).mono (V.In.sub (Nat.le_refl _) g.size) | exact rF65.gr g | exact (rF65.gr g).mono (fun _ h => h) (Nat.le_refl _) g.size | exact (rF65.gr g).mono (fun k h => ⟨h.1, Nat.lt_of_lt_of_le h.2 g.size⟩))⟩) V.mono_nil) ?_
    refine V.grun T_ok 1 rfl (V.sel_none rfl) ?_
    refine V.gcall (fun w' h => (jrec_spec_j (F134.gr h.1)).mono (by rintro v w'' ⟨ra65, rc65, rfl, rF65, G⟩; exact ⟨⟨ra65, rc65, rfl, (by first | exact rF65.mono (V.In.mono_l h.1.size) | exact rF65 | exact rF65.mono (fun _ h => h) h.1.size (Nat.le_refl _))⟩, G⟩)) rfl rfl rfl rfl ?_
    rintro _ w141 - - ⟨a138, c139, rfl, -⟩
    refine V.grun T_ok 2 rfl (V.sel_none rfl) ?_
    refine V.gcutL T_ok F50.sl rfl rfl sz22 rfl rfl rfl rfl (by first | omega | (simp only [List.length_take, List.length_drop, List.length_append, List.length_cons, List.length_nil, List.length_replicate, List.length_set, V.length_data, V.S_size]; omega)) (by first | omega | (simp only [List.length_take, List.length_drop, List.length_append, List.length_cons, List.length_nil, List.length_replicate, List.length_set, V.length_data, V.S_size]; omega)) (fun a142 F144 => ?_)
    refine V.gnil ?_
    rintro w145 G146 hH147
    have z148 := V.Fr.size G146
    try replace F_l := F_l.gr G146
    try replace F50 := F50.gr G146
    try replace F134 := F134.gr G146
    try replace F144 := F144.gr G146
    replace HG := HG.grow G146
    clear G146
    have F140 : V.Row V.Cod.byte.sl 22 w145 V.None' w135.heap.size w145.heap.size a138 c139 (dn.take cut.toNat) := by
      obtain ⟨_, _, he, F0⟩ := (V.Hist.here (hH147 1))
      cases he
      exact F0
    clear hH147
    refine V.call (rsameL_spec F140.sl F144) rfl rfl rfl ?_
    rintro _ w145_ ⟨rfl, G150⟩
    have z151 := V.Fr.size G150
    try replace F_l := F_l.gr G150
    try replace F50 := F50.gr G150
    try replace F134 := F134.gr G150
    try replace F144 := F144.gr G150
    try replace F140 := F140.gr G150
    replace HG := HG.grow G150
    clear G150
    refine V.run T_ok 1 rfl ?_
    refine V.nil ?_
    refine V.tN ?_
    refine V.condT rfl (fun h18 => ?_) (fun h18 => ?_)
    ·
     try replace h18 := V.dec h18
     try simp only [V.mk0, V.mk1, V.mk2, V.mk3] at h18
     exfalso
     grind
    ·
     try replace h18 := V.dec h18
     try simp only [V.mk0, V.mk1, V.mk2, V.mk3] at h18
     refine V.skip ?_
     refine V.tN ?_
     refine V.seq ?_
     rcases Decidable.em (rebBad base ([98] : List UInt8)) with hrb | hrb
     ·
      refine V.region ?_
      refine V.run T_ok 2 rfl ?_
      refine V.mkMark (xs := ([98] : List UInt8)) T_ok zero5 rfl rfl sz5 rfl rfl rfl rfl rfl rfl Try.underlying5 rfl rfl rfl rfl rfl rfl ?_
      rintro k152 w155 s157 s158 G156 F154
      have z159 := V.Fr.size G156
      try replace F_l := F_l.gr G156
      try replace F50 := F50.gr G156
      try replace F134 := F134.gr G156
      try replace F144 := F144.gr G156
      try replace F140 := F140.gr G156
      replace HG := HG.grow G156
      clear G156
      refine V.call (jreb_spec (n := base) F134 F154 (fun k hk => by have := hk.2; omega) (by first | assumption | omega | decide | (dsimp only; omega) | (simp only [List.length_append, List.length_take, List.length_cons, List.length_nil]; omega))) rfl rfl rfl ?_
      rintro _ w161 ⟨rfl, F160, G162⟩
      have z163 := V.FrE.size G162
      first | replace F_l := F_l.mvE G162 (by intro j h hd; (try dsimp only [V.In] at h hd ⊢); first | omega | grind) | clear F_l | skip
      first | replace F50 := F50.mvE G162 (by intro j h; refine ⟨fun hd => ?_, fun hd => ?_⟩ <;> first | exact hd.elim | (try dsimp only [V.In] at h hd ⊢); first | omega | grind) | clear F50 | skip
      first | replace F134 := F134.mvE G162 (by intro j h hd; (try dsimp only [V.In] at h hd ⊢); first | omega | grind) | clear F134 | skip
      first | replace F144 := F144.mvE G162 (by intro j h hd; (try dsimp only [V.In] at h hd ⊢); first | omega | grind) | clear F144 | skip
      first | replace F140 := F140.mvE G162 (by intro j h; refine ⟨fun hd => ?_, fun hd => ?_⟩ <;> first | exact hd.elim | (try dsimp only [V.In] at h hd ⊢); first | omega | grind) | clear F140 | skip
      first | replace F154 := F154.mvE G162 (by intro j h hd; (try dsimp only [V.In] at h hd ⊢); first | omega | grind) | clear F154 | skip
      replace HG := HG.stepE G162 (by intro i h; (try dsimp only [V.In] at h ⊢); first | omega | grind)
      clear G162
      obtain ⟨hj7, he7, hd7⟩ := reb_bad (j := (⟨0, [], (dn.take cut.toNat), 0, 0, 0⟩ : JV)) (d := ({ dv with nf := dv.nf ++ frm (chC (cut - 0)) } : DiskV)) hrb
      rw [hj7, hd7] at F160
      rw [he7]
      unfold rebBad at hrb
      simp only [List.length_cons, List.length_nil] at hrb
      refine V.run T_ok 1 rfl ?_
      refine V.nil ?_
      refine V.tN ?_
      refine V.seq ?_
      refine V.seq ?_
      refine V.region ?_
      refine V.run T_ok 2 rfl ?_
      refine V.nil ?_
      refine V.tN ?_
      refine V.condY rfl rfl ?_
      refine V.seq ?_
      refine V.region ?_
      refine V.run T_ok 3 rfl ?_
      refine V.orG T_ok 2 2 103 rfl rfl rfl rfl rfl rfl rfl rfl ?_
      refine V.run T_ok 1 rfl ?_
      refine V.nil ?_
      refine V.tN ?_
      refine V.ret ?_
      refine V.tR ?_
      refine V.done rfl ?_
      exact ⟨(congrArg Value.bool (by first | rfl | grind)), HG⟩
     ·
      refine V.region ?_
      refine V.run T_ok 2 rfl ?_
      refine V.mkMark (xs := ([98] : List UInt8)) T_ok zero5 rfl rfl sz5 rfl rfl rfl rfl rfl rfl Try.underlying5 rfl rfl rfl rfl rfl rfl ?_
      rintro k164 w167 s169 s170 G168 F166
      have z171 := V.Fr.size G168
      try replace F_l := F_l.gr G168
      try replace F50 := F50.gr G168
      try replace F134 := F134.gr G168
      try replace F144 := F144.gr G168
      try replace F140 := F140.gr G168
      replace HG := HG.grow G168
      clear G168
      refine V.call (jreb_spec (n := base) F134 F166 (fun k hk => by have := hk.2; omega) (by first | assumption | omega | decide | (dsimp only; omega) | (simp only [List.length_append, List.length_take, List.length_cons, List.length_nil]; omega))) rfl rfl rfl ?_
      rintro _ w173 ⟨rfl, F172, G174⟩
      have z175 := V.FrE.size G174
      first | replace F_l := F_l.mvE G174 (by intro j h hd; (try dsimp only [V.In] at h hd ⊢); first | omega | grind) | clear F_l | skip
      first | replace F50 := F50.mvE G174 (by intro j h; refine ⟨fun hd => ?_, fun hd => ?_⟩ <;> first | exact hd.elim | (try dsimp only [V.In] at h hd ⊢); first | omega | grind) | clear F50 | skip
      first | replace F134 := F134.mvE G174 (by intro j h hd; (try dsimp only [V.In] at h hd ⊢); first | omega | grind) | clear F134 | skip
      first | replace F144 := F144.mvE G174 (by intro j h hd; (try dsimp only [V.In] at h hd ⊢); first | omega | grind) | clear F144 | skip
      first | replace F140 := F140.mvE G174 (by intro j h; refine ⟨fun hd => ?_, fun hd => ?_⟩ <;> first | exact hd.elim | (try dsimp only [V.In] at h hd ⊢); first | omega | grind) | clear F140 | skip
      first | replace F166 := F166.mvE G174 (by intro j h hd; (try dsimp only [V.In] at h hd ⊢); first | omega | grind) | clear F166 | skip
      replace HG := HG.stepE G174 (by intro i h; (try dsimp only [V.In] at h ⊢); first | omega | grind)
      clear G174
      obtain ⟨⟨hj7, he7, hd7⟩, hsy7⟩ := hsy8.rebY hrb (by (try dsimp only); simp only [List.length_cons, List.length_nil]; omega)
      rw [hj7, hd7] at F172
      rw [he7]
      unfold rebBad at hrb
      simp only [List.length_cons, List.length_nil] at hrb
      have hbl1 : cut < base → basL (⟨0, [], (dn.take cut.toNat), 0, 0, 0⟩ : JV) base = [] := fun h => by unfold basL; rw [if_pos (by (try simp only [List.length_take]); omega)]
      have hbl2 : ¬ cut < base → basL (⟨0, [], (dn.take cut.toNat), 0, 0, 0⟩ : JV) base = (dn.take cut.toNat).drop base.toNat := fun h => by unfold basL; rw [if_neg (by (try simp only [List.length_take]); omega)]; simp only [Int.sub_zero]
      have hbl3 : ¬ cut < base → (dn.take cut.toNat).drop base.toNat = (dn.drop base.toNat).take (cut - base).toNat ∧ (((dn.take cut.toNat).drop base.toNat).length : Int) = cut - base := fun h => ⟨by rw [List.drop_take]; congr 1; omega, by simp only [List.length_drop, List.length_take]; omega⟩
      refine V.run T_ok 1 rfl ?_
      refine V.nil ?_
      refine V.tN ?_
      refine V.seq ?_
      refine V.seq ?_
      refine V.region ?_
      refine V.run T_ok 2 rfl ?_
      refine V.nil ?_
      refine V.tN ?_
      refine V.condN rfl rfl ?_
      refine V.skip ?_
      refine V.tN ?_
      refine V.seq ?_
      refine V.region ?_
      refine V.run T_ok 1 rfl ?_
      refine V.call (jbase_spec_j F172) rfl rfl rfl ?_
      rintro _ w179 ⟨a176, c177, rfl, F178, G180⟩
      have z181 := V.Fr.size G180
      try replace F_l := F_l.gr G180
      try replace F50 := F50.gr G180
      try replace F144 := F144.gr G180
      try replace F140 := F140.gr G180
      try replace F166 := F166.gr G180
      try replace F172 := F172.gr G180
      replace HG := HG.grow G180
      clear G180
      refine V.run T_ok 5 rfl ?_
      refine V.nil ?_
      refine V.tN ?_
      refine V.seq ?_
      refine V.seq ?_
      refine V.region ?_
      refine V.run T_ok 3 rfl ?_
      refine V.nil ?_
      refine V.tN ?_
      refine V.condT rfl (fun h24 => ?_) (fun h24 => ?_)
      ·
       try replace h24 := V.dec h24
       try simp only [V.mk0, V.mk1, V.mk2, V.mk3] at h24
       refine V.seq ?_
       refine V.region ?_
       refine V.run T_ok 4 rfl ?_
       refine V.split (j := 3) (t := 118) rfl rfl (fun g25_3 => ?_) (fun g25_3 => ?_)
       ·
        try replace g25_3 := V.dec g25_3
        try simp only [V.mk0, V.mk1, V.mk2, V.mk3] at g25_3
        refine V.run T_ok 1 rfl ?_
        refine V.yes rfl rfl rfl ?_
        refine V.toStr F178.sl Try.underlying22 Try.underlying5 Try.underlying9 rfl rfl rfl rfl ?_
        refine V.run T_ok 3 rfl ?_
        refine V.split (j := 8) (t := 123) rfl rfl (fun g25_8 => ?_) (fun g25_8 => ?_)
        ·
         try replace g25_8 := V.dec g25_8
         try simp only [V.mk0, V.mk1, V.mk2, V.mk3] at g25_8
         refine V.run T_ok 1 rfl ?_
         refine V.yes rfl rfl rfl ?_
         refine V.call (jrec_spec_j F172) rfl rfl rfl ?_
         rintro _ w185 ⟨a182, c183, rfl, F184, G186⟩
         have z187 := V.Fr.size G186
         try replace F_l := F_l.gr G186
         try replace F50 := F50.gr G186
         try replace F144 := F144.gr G186
         try replace F140 := F140.gr G186
         try replace F166 := F166.gr G186
         try replace F172 := F172.gr G186
         try replace F178 := F178.gr G186
         replace HG := HG.grow G186
         clear G186
         refine V.run T_ok 4 rfl ?_
         refine V.split (j := 14) (t := 129) rfl rfl (fun g25_14 => ?_) (fun g25_14 => ?_)
         ·
          try replace g25_14 := V.dec g25_14
          try simp only [V.mk0, V.mk1, V.mk2, V.mk3] at g25_14
          refine V.run T_ok 1 rfl ?_
          refine V.yes rfl rfl rfl ?_
          refine V.call (jlast_j F172) rfl rfl rfl ?_
          rintro _ w188 ⟨rfl, G189⟩
          have z190 := V.Fr.size G189
          try replace F_l := F_l.gr G189
          try replace F50 := F50.gr G189
          try replace F144 := F144.gr G189
          try replace F140 := F140.gr G189
          try replace F166 := F166.gr G189
          try replace F172 := F172.gr G189
          try replace F178 := F178.gr G189
          try replace F184 := F184.gr G189
          replace HG := HG.grow G189
          clear G189
          refine V.run T_ok 4 rfl ?_
          refine V.nil ?_
          refine V.tN ?_
          refine V.ret ?_
          refine V.tR ?_
          refine V.done rfl ?_
          have hbz := hbl1 (by omega)
          try rw [hbz]
          exact ⟨(congrArg Value.bool (by first | rfl | grind)), HG⟩
         ·
          try replace g25_14 := V.dec g25_14
          try simp only [V.mk0, V.mk1, V.mk2, V.mk3] at g25_14
          refine V.run T_ok 6 rfl ?_
          refine V.nil ?_
          refine V.tN ?_
          refine V.ret ?_
          refine V.tR ?_
          refine V.done rfl ?_
          have hbz := hbl1 (by omega)
          try rw [hbz]
          exact ⟨(congrArg Value.bool (by first | rfl | grind)), HG⟩
        ·
         try replace g25_8 := V.dec g25_8
         try simp only [V.mk0, V.mk1, V.mk2, V.mk3] at g25_8
         refine V.run T_ok 12 rfl ?_
         refine V.nil ?_
         refine V.tN ?_
         refine V.ret ?_
         refine V.tR ?_
         refine V.done rfl ?_
         have hbz := hbl1 (by omega)
         try rw [hbz]
         exact ⟨(congrArg Value.bool (by first | rfl | grind)), HG⟩
       ·
        try replace g25_3 := V.dec g25_3
        try simp only [V.mk0, V.mk1, V.mk2, V.mk3] at g25_3
        refine V.run T_ok 17 rfl ?_
        refine V.nil ?_
        refine V.tN ?_
        refine V.ret ?_
        refine V.tR ?_
        refine V.done rfl ?_
        have hbz := hbl1 (by omega)
        try rw [hbz]
        exact ⟨(congrArg Value.bool (by first | rfl | grind)), HG⟩
      ·
       try replace h24 := V.dec h24
       try simp only [V.mk0, V.mk1, V.mk2, V.mk3] at h24
       refine V.skip ?_
       refine V.tN ?_
       refine V.seq ?_
       refine V.drawGT 16 (V.sel [(5, (fun v wz => v = .int .i64 (base + (basL (⟨0, [], (dn.take cut.toNat), 0, 0, 0⟩ : JV) base).length))), (11, (fun v wz => ∃ (ra65 : Option Addr) (rc65 : Nat), v = .slice ra65 (basL (⟨0, [], (dn.take cut.toNat), 0, 0, 0⟩ : JV) base).length rc65 ∧ V.Row V.Cod.byte.sl 22 wz V.None' w179.heap.size wz.heap.size ra65 rc65 (basL (⟨0, [], (dn.take cut.toNat), 0, 0, 0⟩ : JV) base)))]) mixed (by kernel_rfl) (V.mono_cons V.eqV_mono (V.mono_cons (by rintro v wz wz' g ⟨ra65, rc65, rfl, rF65⟩; exact ⟨ra65, rc65, rfl, (by first | exact (rF65.gr g).mono (V.In.sub (Nat.le_refl _) g.size) | exact rF65.gr g | exact (rF65.gr g).mono (fun _ h => h) (Nat.le_refl _) g.size | exact (rF65.gr g).mono (fun k h => ⟨h.1, Nat.lt_of_lt_of_le h.2 g.size⟩))⟩) V.mono_nil)) ?_
       refine V.grun T_ok 4 rfl (V.sel_none rfl) ?_
       refine V.gsplit (j := 3) (t := 138) rfl rfl (fun g26_3 => ?_) (fun g26_3 => ?_)
       ·
        try replace g26_3 := V.dec g26_3
        try simp only [V.mk0, V.mk1, V.mk2, V.mk3] at g26_3
        refine V.grun T_ok 1 rfl (V.sel_none rfl) ?_
        refine V.gyes rfl rfl rfl ?_
        refine V.gcall (fun w' h => (jlast_j (F172.gr h.1)).mono (by rintro v w'' ⟨rfl, G⟩; exact ⟨rfl, G⟩)) rfl rfl rfl rfl ?_
        rintro _ w191 - - rfl
        refine V.grun T_ok 4 rfl (V.sel_none rfl) ?_
        refine V.gsplit (j := 9) (t := 144) rfl rfl (fun g26_9 => ?_) (fun g26_9 => ?_)
        ·
         try replace g26_9 := V.dec g26_9
         try simp only [V.mk0, V.mk1, V.mk2, V.mk3] at g26_9
         refine V.grun T_ok 1 rfl (V.sel_none rfl) ?_
         refine V.gyes rfl rfl rfl ?_
         refine V.gcall (fun w' h => (jrec_spec_j (F172.gr h.1)).mono (by rintro v w'' ⟨ra65, rc65, rfl, rF65, G⟩; exact ⟨⟨ra65, rc65, rfl, (by first | exact rF65.mono (V.In.mono_l h.1.size) | exact rF65 | exact rF65.mono (fun _ h => h) h.1.size (Nat.le_refl _))⟩, G⟩)) rfl rfl rfl rfl ?_
         rintro _ w195 - - ⟨a192, c193, rfl, -⟩
         refine V.grun T_ok 3 rfl (V.sel_none rfl) ?_
         refine V.gyes rfl rfl rfl ?_
         refine V.gcut T_ok F50.sl rfl rfl sz22 rfl rfl rfl rfl rfl rfl rfl (by first | omega | (simp only [List.length_take, List.length_drop, List.length_append, List.length_cons, List.length_nil, List.length_replicate, List.length_set, V.length_data, V.S_size]; omega)) (by first | omega | (simp only [List.length_take, List.length_drop, List.length_append, List.length_cons, List.length_nil, List.length_replicate, List.length_set, V.length_data, V.S_size]; omega)) (by first | omega | (simp only [List.length_take, List.length_drop, List.length_append, List.length_cons, List.length_nil, List.length_replicate, List.length_set, V.length_data, V.S_size]; omega)) (fun a196 c197 F198 _ => ?_)
         refine V.gnil ?_
         rintro w199 G200 hH201
         have z202 := V.Fr.size G200
         try replace F_l := F_l.gr G200
         try replace F50 := F50.gr G200
         try replace F144 := F144.gr G200
         try replace F140 := F140.gr G200
         try replace F166 := F166.gr G200
         try replace F172 := F172.gr G200
         try replace F178 := F178.gr G200
         try replace F198 := F198.gr G200
         replace HG := HG.grow G200
         clear G200
         have F194 : V.Row V.Cod.byte.sl 22 w199 V.None' w179.heap.size w199.heap.size a192 c193 (basL (⟨0, [], (dn.take cut.toNat), 0, 0, 0⟩ : JV) base) := by
           obtain ⟨_, _, he, F0⟩ := (V.Hist.here (hH201 11))
           cases he
           exact F0
         clear hH201
         refine V.yes rfl rfl rfl ?_
         refine V.call (rsameL_spec F194.sl F198) rfl rfl rfl ?_
         rintro _ w199_ ⟨rfl, G204⟩
         have z205 := V.Fr.size G204
         try replace F_l := F_l.gr G204
         try replace F50 := F50.gr G204
         try replace F144 := F144.gr G204
         try replace F140 := F140.gr G204
         try replace F166 := F166.gr G204
         try replace F172 := F172.gr G204
         try replace F178 := F178.gr G204
         try replace F198 := F198.gr G204
         try replace F194 := F194.gr G204
         replace HG := HG.grow G204
         clear G204
         refine V.run T_ok 2 rfl ?_
         refine V.nil ?_
         refine V.tN ?_
         refine V.ret ?_
         refine V.done rfl ?_
         have hbz := hbl2 (by omega)
         have hbz3 := hbl3 (by omega)
         try rw [hbz]
         exact ⟨(congrArg Value.bool (by first | rfl | grind)), HG⟩
        ·
         try replace g26_9 := V.dec g26_9
         try simp only [V.mk0, V.mk1, V.mk2, V.mk3] at g26_9
         refine V.grun T_ok 1 rfl (V.sel_none rfl) ?_
         refine V.gno rfl rfl rfl rfl ?_
         refine V.grun T_ok 4 rfl (V.sel_none rfl) ?_
         refine V.gnil ?_
         rintro w206 G207 hH208
         have z209 := V.Fr.size G207
         try replace F_l := F_l.gr G207
         try replace F50 := F50.gr G207
         try replace F144 := F144.gr G207
         try replace F140 := F140.gr G207
         try replace F166 := F166.gr G207
         try replace F172 := F172.gr G207
         try replace F178 := F178.gr G207
         replace HG := HG.grow G207
         clear G207
         clear hH208
         refine V.run T_ok 3 rfl ?_
         refine V.nil ?_
         refine V.tN ?_
         refine V.ret ?_
         refine V.done rfl ?_
         have hbz := hbl2 (by omega)
         have hbz3 := hbl3 (by omega)
         try rw [hbz]
         exact ⟨(congrArg Value.bool (by first | rfl | grind)), HG⟩
       ·
        try replace g26_3 := V.dec g26_3
        try simp only [V.mk0, V.mk1, V.mk2, V.mk3] at g26_3
        refine V.grun T_ok 1 rfl (V.sel_none rfl) ?_
        refine V.gno rfl rfl rfl rfl ?_
        refine V.grun T_ok 5 rfl (V.sel_none rfl) ?_
        refine V.gno rfl rfl rfl rfl ?_
        refine V.grun T_ok 4 rfl (V.sel_none rfl) ?_
        refine V.gnil ?_
        rintro w210 G211 hH212
        have z213 := V.Fr.size G211
        try replace F_l := F_l.gr G211
        try replace F50 := F50.gr G211
        try replace F144 := F144.gr G211
        try replace F140 := F140.gr G211
        try replace F166 := F166.gr G211
        try replace F172 := F172.gr G211
        try replace F178 := F178.gr G211
        replace HG := HG.grow G211
        clear G211
        clear hH212
        refine V.run T_ok 3 rfl ?_
        refine V.nil ?_
        refine V.tN ?_
        refine V.ret ?_
        refine V.done rfl ?_
        have hbz := hbl2 (by omega)
        have hbz3 := hbl3 (by omega)
        try rw [hbz]
        exact ⟨(congrArg Value.bool (by first | rfl | grind)), HG⟩

end Go.Proofs.Ytnbijpijbhkcpaa
