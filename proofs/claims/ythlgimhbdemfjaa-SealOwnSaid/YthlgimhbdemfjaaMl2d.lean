/- Proved here: walks: what functions of this seat's program return and what they leave of memory, each as a contract. Conditions: stated at each theorem. -/
import Derived.Test.YthlgimhbdemfjaaMl2b
namespace Go.Proofs.Ythlgimhbdemfjaa
set_option linter.unusedVariables false
set_option linter.unusedSimpArgs false
open Go
open V (Bytes Meets Env Sl Own Gr Fr Cells S)

def allF (ls : List (List UInt8)) : List UInt8 := ls.flatMap frm
theorem allF_snoc (ls : List (List UInt8)) (x : List UInt8) : allF (ls ++ [x]) = allF ls ++ frm x := by simp [allF]
theorem scan_all : ∀ {ls : List (List UInt8)} {r : List UInt8}, (∀ x ∈ ls, 1 ≤ x.length ∧ x.length ≤ 500) → firstB r = none → scanB (allF ls ++ r) = (ls, (allF ls).length)
  | [], r, _, hr => by simp [allF, scanB_none hr]
  | x :: ls, r, h, hr => by
    have hx := h x (by simp)
    have ih := scan_all (ls := ls) (r := r) (fun y hy => h y (by simp [hy])) hr
    have e : allF (x :: ls) ++ r = frm x ++ (allF ls ++ r) := by simp [allF]
    rw [e, scan_frm (by omega) (by omega), ih]
    simp only [allF, List.flatMap_cons, List.length_append, frm_len]
    congr 1; omega
theorem frm_x {x : List UInt8} (h : x.length ≤ 500) : (!(decide ((frmB x).2 = 0) == decide (0 < (x.length : Int)))) = false := by
  by_cases h0 : x.length = 0
  · rw [frmB_no (.inl h0), h0]; decide
  · rw [frmB_ok (by omega) (by omega)]
    have : (0 : Int) < (x.length : Int) := by omega
    simp [this]; omega

set_option maxHeartbeats 300000 in
set_option maxRecDepth 10000 in
theorem sealBack_walk {w : World}  {D_l : Nat → Prop} {c_l : Nat} {a_l : Option Addr} {l : List (List UInt8)} (F_l : Sl V.Cod.byte.sl w D_l a_l c_l l) (hD_l : ∀ k, D_l k → k < w.heap.size) {D_behind : Nat → Prop} {c_behind : Nat} {a_behind : Option Addr} {behind : List UInt8} (F_behind : Sl V.Cod.byte w D_behind a_behind c_behind behind) (hD_behind : ∀ k, D_behind k → k < w.heap.size)  :
    Meets Try.prog 5 [.slice a_l l.length c_l, .slice a_behind behind.length c_behind] w fun r w' => r = .bool true ∧ Gr w w' := by
 have HG := V.Fr.refl [] w
 refine V.enter (n := 104) Try.func5 rfl rfl (by decide) rfl ?_
 refine V.seq ?_
 refine V.region ?_
 refine V.run T_ok 1 rfl ?_
 refine V.nil ?_
 refine V.tN ?_
 refine V.seq ?_
 refine V.region ?_
 refine V.run T_ok 1 rfl ?_
 refine V.nil ?_
 refine V.tN ?_
 refine V.seq ?_
 refine V.region ?_
 refine V.run T_ok 1 rfl ?_
 refine V.nil ?_
 refine V.tN ?_
 refine V.seq ?_
 refine V.seq ?_
 refine V.region ?_
 refine V.run T_ok 1 rfl ?_
 refine V.nil ?_
 refine V.tN ?_
 refine V.block ?_
 have hl63 := F_l.len63
 refine V.loopM (fun m e v2 => Fr [] w v2 ∧ w.heap.size ≤ v2.heap.size ∧ Sl V.Cod.byte.sl v2 D_l a_l c_l l ∧ Sl V.Cod.byte v2 D_behind a_behind c_behind behind ∧ ∃ (i : Nat) (dn : List (List UInt8)) (E1 E2 : Nat → Prop) (ra11 : Option Addr) (rc11 : Nat) (ra12 : Option Addr) (rc12 : Nat), m = l.length - i ∧ i ≤ l.length ∧ i ≤ 20 ∧ dn.length ≤ i ∧ (∀ x ∈ dn, 1 ≤ x.length ∧ x.length ≤ 500) ∧ (allF dn).length ≤ 508 * i ∧ (∀ j, E1 j → w.heap.size ≤ j ∧ j < v2.heap.size ∧ ¬ E2 j) ∧ (∀ j, E2 j → w.heap.size ≤ j ∧ j < v2.heap.size) ∧ V.RowE V.Cod.byte 5 v2 V.None' E1 ra11 rc11 (allF dn) ∧ V.RowE V.Cod.byte.sl 23 v2 D_l E2 ra12 rc12 dn ∧ e 0 = .slice a_l l.length c_l ∧ e 1 = .slice a_behind behind.length c_behind ∧ e 5 = .slice ra11 (allF dn).length rc11 ∧ e 6 = .slice ra12 dn.length rc12 ∧ e 7 = .int .i64 (i : Int)) ?_ ?_
 ·
  exact ⟨_, HG, (by omega), F_l, F_behind, (0), ([]), (fun _ => False), (fun _ => False), none, 0, none, 0, rfl, (Nat.zero_le _), (Nat.zero_le _), (Nat.le_refl _), (fun x h => by cases h), (Nat.le_refl _), (fun j h => h.elim), (fun j h => h.elim), V.RowE.nil, V.RowE.nil, rfl, rfl, rfl, rfl, rfl⟩
 clear HG F_l F_behind
 rintro _ e v2 ⟨HG, z3, F_l, F_behind, i, dn, E1, E2, ra11, rc11, ra12, rc12, rfl, hi, hi2, hdn, hdx, hal, hE1, hE2, rF11, rF12, he0_0, he0_1, he0_5, he0_6, he0_7⟩
 refine V.knownC (t := 0) he0_0 ?_
 refine V.knownC (t := 1) he0_1 ?_
 refine V.knownC (t := 5) he0_5 ?_
 refine V.knownC (t := 6) he0_6 ?_
 refine V.knownC (t := 7) he0_7 ?_
 refine V.seq ?_
 refine V.seq ?_
 refine V.region ?_
 refine V.run T_ok 5 rfl ?_
 refine V.andG T_ok 2 4 19 rfl rfl rfl rfl rfl rfl rfl rfl ?_
 refine V.nil ?_
 refine V.tN ?_
 refine V.condT rfl (fun h4 => ?_) (fun h4 => ?_)
 ·
  try replace h4 := V.dec h4
  try simp only [V.mk0, V.mk1, V.mk2, V.mk3] at h4
  refine V.skip ?_
  refine V.tN ?_
  refine V.seq ?_
  refine V.block ?_
  refine V.seq ?_
  refine V.seq ?_
  refine V.region ?_
  refine V.run T_ok 2 rfl ?_
  refine V.elem T_ok F_l rfl rfl sz23 rfl rfl rfl rfl (by first | omega | (simp only [List.length_take, List.length_drop, List.length_append, List.length_cons, List.length_nil, List.length_replicate, List.length_set, V.length_data, V.S_size]; omega)) (by first | omega | (simp only [List.length_take, List.length_drop, List.length_append, List.length_cons, List.length_nil, List.length_replicate, List.length_set, V.length_data, V.S_size]; omega)) ?_
  rintro b4 o5 cs6 hx7 hb8 hR14 hA9
  obtain ⟨x10, hx10⟩ : ∃ z', l[((i : Int)).toNat] = z' := ⟨_, rfl⟩
  rw [hx10] at hR14
  obtain ⟨a11, c12, rfl, F13⟩ := hR14
  try simp only [Int.toNat_natCast] at hx10 hx7
  refine V.loadA T_ok (o0 := o5) (off := 0) hA9 rfl rfl rfl rfl rfl ?_
  refine V.run T_ok 2 rfl ?_
  refine V.nil ?_
  refine V.tN ?_
  refine V.condT rfl (fun h6 => ?_) (fun h6 => ?_)
  ·
   try replace h6 := V.dec h6
   try simp only [V.mk0, V.mk1, V.mk2, V.mk3] at h6
   refine V.exit ?_
   refine V.tX ?_
   refine V.bE ?_
   refine V.tN ?_
   refine V.region ?_
   refine V.run T_ok 1 rfl ?_
   refine V.addN rfl rfl rfl rfl rfl (by first | omega | (simp only [List.length_take, List.length_drop, List.length_append, List.length_cons, List.length_nil, List.length_replicate, List.length_set, V.length_data, V.S_size]; omega)) (by first | omega | (simp only [List.length_take, List.length_drop, List.length_append, List.length_cons, List.length_nil, List.length_replicate, List.length_set, V.length_data, V.S_size]; omega)) ?_
   refine V.run T_ok 1 rfl ?_
   refine V.nil ?_
   refine V.tN ?_
   exact ⟨_, (by omega), HG, (by omega), F_l, F_behind, (i + 1), (dn), (E1), (E2), ra11, rc11, ra12, rc12, rfl, (by omega), (by omega), (by omega), (hdx), (by omega), ((by intro j h; (try dsimp only [V.In] at h ⊢); first | omega | grind)), ((by intro j h; (try dsimp only [V.In] at h ⊢); first | omega | grind)), rF11, rF12, rfl, rfl, rfl, rfl, rfl⟩
  ·
   try replace h6 := V.dec h6
   try simp only [V.mk0, V.mk1, V.mk2, V.mk3] at h6
   refine V.skip ?_
   refine V.tN ?_
   refine V.seq ?_
   refine V.region ?_
   refine V.run T_ok 2 rfl ?_
   refine V.elem T_ok F_l rfl rfl sz23 rfl rfl rfl rfl (by first | omega | (simp only [List.length_take, List.length_drop, List.length_append, List.length_cons, List.length_nil, List.length_replicate, List.length_set, V.length_data, V.S_size]; omega)) (by first | omega | (simp only [List.length_take, List.length_drop, List.length_append, List.length_cons, List.length_nil, List.length_replicate, List.length_set, V.length_data, V.S_size]; omega)) ?_
   rintro b15 o16 cs17 hx18 hb19 hR25 hA20
   obtain ⟨x21, hx21⟩ : ∃ z', l[((i : Int)).toNat] = z' := ⟨_, rfl⟩
   rw [hx21] at hR25
   obtain ⟨a22, c23, rfl, F24⟩ := hR25
   try simp only [Int.toNat_natCast] at hx21 hx18
   obtain rfl : x10 = x21 := hx10.symm.trans hx21
   refine V.loadA T_ok (o0 := o16) (off := 0) hA20 rfl rfl rfl rfl rfl ?_
   refine V.call (frame_spec F24 (fun k hk => by have := hD_l k hk; omega)) rfl rfl rfl ?_
   rintro _ w29 ⟨a26, c27, rfl, F28, G30⟩
   have z31 := V.Fr.size G30
   try replace F_l := F_l.gr G30
   try replace F_behind := F_behind.gr G30
   try replace rF11 := rF11.gr G30
   try replace rF12 := rF12.gr G30
   try replace F13 := F13.gr G30
   try replace F24 := F24.gr G30
   replace HG := HG.grow G30
   clear G30
   refine V.run T_ok 5 rfl ?_
   refine V.nil ?_
   refine V.tN ?_
   refine V.seq ?_
   refine V.seq ?_
   refine V.region ?_
   refine V.run T_ok 4 rfl ?_
   refine V.elem T_ok F_l rfl rfl sz23 rfl rfl rfl rfl (by first | omega | (simp only [List.length_take, List.length_drop, List.length_append, List.length_cons, List.length_nil, List.length_replicate, List.length_set, V.length_data, V.S_size]; omega)) (by first | omega | (simp only [List.length_take, List.length_drop, List.length_append, List.length_cons, List.length_nil, List.length_replicate, List.length_set, V.length_data, V.S_size]; omega)) ?_
   rintro b32 o33 cs34 hx35 hb36 hR42 hA37
   obtain ⟨x38, hx38⟩ : ∃ z', l[((i : Int)).toNat] = z' := ⟨_, rfl⟩
   rw [hx38] at hR42
   obtain ⟨a39, c40, rfl, F41⟩ := hR42
   try simp only [Int.toNat_natCast] at hx38 hx35
   obtain rfl : x10 = x38 := hx10.symm.trans hx38
   refine V.loadA T_ok (o0 := o33) (off := 0) hA37 rfl rfl rfl rfl rfl ?_
   refine V.run T_ok 3 rfl ?_
   refine V.nil ?_
   refine V.tN ?_
   refine V.condN rfl (by exact frm_x (by omega)) ?_
   refine V.skip ?_
   refine V.tN ?_
   refine V.seq ?_
   refine V.region ?_
   refine V.run T_ok 2 rfl ?_
   refine V.nil ?_
   refine V.tN ?_
   refine V.condT rfl (fun h10 => ?_) (fun h10 => ?_)
   ·
    try replace h10 := V.dec h10
    try simp only [V.mk0, V.mk1, V.mk2, V.mk3] at h10
    refine V.seq ?_
    have hfr := frm_of (b := x10) (by omega)
    have hfr1 : (frmB x10).1 = frm x10 := by rw [hfr.1]
    rw [hfr1] at F28 ⊢
    have hfl := frm_len x10
    have hwf := whole_frm (b := x10) (by omega) (by omega)
    refine V.region ?_
    refine V.run T_ok 1 rfl ?_
    refine V.call (whole_spec F28.sl (fun k hk => by have := hk.2; omega)) rfl rfl rfl ?_
    rintro _ w46 ⟨a43, c44, rfl, F45, G47⟩
    have z48 := V.Fr.size G47
    try replace F_l := F_l.gr G47
    try replace F_behind := F_behind.gr G47
    try replace rF11 := rF11.gr G47
    try replace rF12 := rF12.gr G47
    try replace F13 := F13.gr G47
    try replace F24 := F24.gr G47
    try replace F28 := F28.gr G47
    try replace F41 := F41.gr G47
    replace HG := HG.grow G47
    clear G47
    refine V.run T_ok 5 rfl ?_
    refine V.nil ?_
    refine V.tN ?_
    refine V.seq ?_
    refine V.seq ?_
    have hwf1 : (wholeB (frm x10)).1 = x10 := by rw [hwf]
    rw [hwf1] at F45 ⊢
    refine V.drawQ mixed (by kernel_rfl) ?_
    refine V.qrun T_ok 3 rfl ?_
    refine V.qsplitF (j := 2) (t := 57) rfl rfl (by (rw [hwf]; rfl)) ?_
    refine V.qrun T_ok 1 rfl ?_
    refine V.qyes rfl rfl rfl ?_
    refine V.qtoStr F45.sl Try.underlying23 Try.underlying5 Try.underlying9 rfl rfl rfl rfl ?_
    refine V.qrun T_ok 2 rfl ?_
    refine V.qyes rfl rfl rfl ?_
    refine V.qelem T_ok F_l rfl rfl sz23 rfl rfl rfl rfl (by first | omega | (simp only [List.length_take, List.length_drop, List.length_append, List.length_cons, List.length_nil, List.length_replicate, List.length_set, V.length_data, V.S_size]; omega)) (by first | omega | (simp only [List.length_take, List.length_drop, List.length_append, List.length_cons, List.length_nil, List.length_replicate, List.length_set, V.length_data, V.S_size]; omega)) ?_
    rintro b49 o50 cs51 hx52 hb53 hR59 hA54
    obtain ⟨x55, hx55⟩ : ∃ z', l[((i : Int)).toNat] = z' := ⟨_, rfl⟩
    rw [hx55] at hR59
    obtain ⟨a56, c57, rfl, F58⟩ := hR59
    try simp only [Int.toNat_natCast] at hx55 hx52
    obtain rfl : x10 = x55 := hx10.symm.trans hx55
    refine V.qyes rfl rfl rfl ?_
    refine V.qloadA T_ok (o0 := o50) (off := 0) hA54 rfl rfl rfl rfl rfl ?_
    refine V.qyes rfl rfl rfl ?_
    refine V.qtoStr F58 Try.underlying23 Try.underlying5 Try.underlying9 rfl rfl rfl rfl ?_
    refine V.qrun T_ok 2 rfl ?_
    refine V.qnil ?_
    rintro w60 G61
    have z62 := V.Fr.size G61
    try replace F_l := F_l.gr G61
    try replace F_behind := F_behind.gr G61
    try replace rF11 := rF11.gr G61
    try replace rF12 := rF12.gr G61
    try replace F13 := F13.gr G61
    try replace F24 := F24.gr G61
    try replace F28 := F28.gr G61
    try replace F41 := F41.gr G61
    try replace F45 := F45.gr G61
    try replace F58 := F58.gr G61
    replace HG := HG.grow G61
    clear G61
    refine V.tN ?_
    refine V.condN rfl (by (simp)) ?_
    refine V.skip ?_
    refine V.tN ?_
    refine V.seq ?_
    refine V.region ?_
    refine V.run T_ok 2 rfl ?_
    refine V.appendZ rF11 (V.From.flat (V.flat_byte) (D' := V.None') (F28.sl.from Try.underlying23)) elT23_23 rfl rfl rfl rfl rfl (by first | omega | (simp only [List.length_take, List.length_drop, List.length_append, List.length_cons, List.length_nil, List.length_replicate, List.length_set, V.length_data, V.S_size]; omega)) (by unfold maxLen; first | omega | (simp only [List.length_take, List.length_drop, List.length_append, List.length_cons, List.length_nil, List.length_replicate, List.length_set, V.length_data, V.S_size]; omega)) (by intro k h; (try dsimp only [V.In] at h ⊢); first | omega | grind) (fun _ h => h.elim) (fun _ h => h.elim) ?_
    rintro a63 c64 w66 G67 s68 F65
    clear rF11
    have z69 := V.FrE.size G67
    first | replace F_l := F_l.mvE G67 (by intro j h hd; (try dsimp only [V.In] at h hd ⊢); first | omega | grind) | clear F_l | skip
    first | replace F_behind := F_behind.mvE G67 (by intro j h hd; (try dsimp only [V.In] at h hd ⊢); first | omega | grind) | clear F_behind | skip
    first | replace rF12 := rF12.mvE G67 (by intro j h hd; (try dsimp only [V.In] at h hd ⊢); first | omega | grind) | clear rF12 | skip
    first | replace F13 := F13.mvE G67 (by intro j h hd; (try dsimp only [V.In] at h hd ⊢); first | omega | grind) | clear F13 | skip
    first | replace F24 := F24.mvE G67 (by intro j h hd; (try dsimp only [V.In] at h hd ⊢); first | omega | grind) | clear F24 | skip
    first | replace F28 := F28.mvE G67 (by intro j h hd; (try dsimp only [V.In] at h hd ⊢); first | omega | grind) | clear F28 | skip
    first | replace F41 := F41.mvE G67 (by intro j h hd; (try dsimp only [V.In] at h hd ⊢); first | omega | grind) | clear F41 | skip
    first | replace F45 := F45.mvE G67 (by intro j h hd; (try dsimp only [V.In] at h hd ⊢); first | omega | grind) | clear F45 | skip
    first | replace F58 := F58.mvE G67 (by intro j h hd; (try dsimp only [V.In] at h hd ⊢); first | omega | grind) | clear F58 | skip
    replace HG := HG.stepE G67 (by intro i h; (try dsimp only [V.In] at h ⊢); first | omega | grind)
    clear G67
    replace F65 := F65.mono2 (B' := V.None') (E' := (fun j => E1 j ∨ V.In w60.heap.size w66.heap.size j)) (by intro k h; (first | exact (h.elim (fun h => h.elim) (fun h => h.elim)) | ((try dsimp only [V.In] at h ⊢); first | omega | grind))) (by intro k h; (try dsimp only [V.In] at h ⊢); first | omega | grind)
    refine V.run T_ok 1 rfl ?_
    refine V.nil ?_
    refine V.tN ?_
    refine V.region ?_
    refine V.run T_ok 3 rfl ?_
    refine V.elem T_ok F_l rfl rfl sz23 rfl rfl rfl rfl (by first | omega | (simp only [List.length_take, List.length_drop, List.length_append, List.length_cons, List.length_nil, List.length_replicate, List.length_set, V.length_data, V.S_size]; omega)) (by first | omega | (simp only [List.length_take, List.length_drop, List.length_append, List.length_cons, List.length_nil, List.length_replicate, List.length_set, V.length_data, V.S_size]; omega)) ?_
    rintro b70 o71 cs72 hx73 hb74 hR80 hA75
    obtain ⟨x76, hx76⟩ : ∃ z', l[((i : Int)).toNat] = z' := ⟨_, rfl⟩
    rw [hx76] at hR80
    obtain ⟨a77, c78, rfl, F79⟩ := hR80
    try simp only [Int.toNat_natCast] at hx76 hx73
    obtain rfl : x10 = x76 := hx10.symm.trans hx76
    refine V.loadA T_ok (o0 := o71) (off := 0) hA75 rfl rfl rfl rfl rfl ?_
    refine V.mkSlice T_ok zero23 rfl rfl sz23 rfl rfl rfl rfl rfl rfl ?_
    rintro k81 w84 s86 s87 G85 Fk82
    have z88 := V.Fr.size G85
    try replace F_l := F_l.gr G85
    try replace F_behind := F_behind.gr G85
    try replace rF12 := rF12.gr G85
    try replace F13 := F13.gr G85
    try replace F24 := F24.gr G85
    try replace F28 := F28.gr G85
    try replace F41 := F41.gr G85
    try replace F45 := F45.gr G85
    try replace F58 := F58.gr G85
    try replace F65 := F65.gr G85
    try replace F79 := F79.gr G85
    replace HG := HG.grow G85
    clear G85
    have F83 : Sl V.Cod.byte.sl w84 (fun k => k = k81 ∨ D_l k) (some ⟨k81, 0, none⟩) ([x10] : List (List UInt8)).length ([x10] : List (List UInt8)) := V.Cells.sl Fk82 (V.reps_cons (x := x10) ⟨_, _, rfl, F79.mono (fun k h => .inr (h))⟩ rfl rfl) (.inl rfl) (by simp [maxLen])
    have hDu89 : ∀ k, (fun k => k = k81 ∨ D_l k) k → k < w84.heap.size := by intro k h; (try dsimp only at h); rcases h with h | h <;> first | omega | (have := h.2; omega) | (have := h.1; omega) | (have := hD_l k h; omega) | (have := hD_l k h; omega) | (have := hD_behind k h; omega)
    refine V.appendZ rF12 (F83.from Try.underlying22) elT22_22 rfl rfl rfl rfl rfl (by first | omega | (simp only [List.length_take, List.length_drop, List.length_append, List.length_cons, List.length_nil, List.length_replicate, List.length_set, V.length_data, V.S_size]; omega)) (by unfold maxLen; first | omega | (simp only [List.length_take, List.length_drop, List.length_append, List.length_cons, List.length_nil, List.length_replicate, List.length_set, V.length_data, V.S_size]; omega)) (by intro k h; (try dsimp only [V.In] at h ⊢); first | omega | grind) (by intro k h; (try dsimp only [V.In] at h ⊢); first | omega | grind) (by intro k h; (try dsimp only [V.In] at h ⊢); first | omega | grind) ?_
    rintro a90 c91 w93 G94 s95 F92
    clear rF12
    clear F83
    have z96 := V.FrE.size G94
    first | replace F_l := F_l.mvE G94 (by intro j h hd; (try dsimp only [V.In] at h hd ⊢); first | omega | grind) | clear F_l | skip
    first | replace F_behind := F_behind.mvE G94 (by intro j h hd; (try dsimp only [V.In] at h hd ⊢); first | omega | grind) | clear F_behind | skip
    first | replace F13 := F13.mvE G94 (by intro j h hd; (try dsimp only [V.In] at h hd ⊢); first | omega | grind) | clear F13 | skip
    first | replace F24 := F24.mvE G94 (by intro j h hd; (try dsimp only [V.In] at h hd ⊢); first | omega | grind) | clear F24 | skip
    first | replace F28 := F28.mvE G94 (by intro j h hd; (try dsimp only [V.In] at h hd ⊢); first | omega | grind) | clear F28 | skip
    first | replace F41 := F41.mvE G94 (by intro j h hd; (try dsimp only [V.In] at h hd ⊢); first | omega | grind) | clear F41 | skip
    first | replace F45 := F45.mvE G94 (by intro j h hd; (try dsimp only [V.In] at h hd ⊢); first | omega | grind) | clear F45 | skip
    first | replace F58 := F58.mvE G94 (by intro j h hd; (try dsimp only [V.In] at h hd ⊢); first | omega | grind) | clear F58 | skip
    first | replace F65 := F65.mvE G94 (by intro j h hd; (try dsimp only [V.In] at h hd ⊢); first | omega | grind) | clear F65 | skip
    first | replace F79 := F79.mvE G94 (by intro j h hd; (try dsimp only [V.In] at h hd ⊢); first | omega | grind) | clear F79 | skip
    first | replace Fk82 := Fk82.mvE G94 (by (try dsimp only [V.In]); first | omega | grind) | clear Fk82 | skip
    replace HG := HG.stepE G94 (by intro i h; (try dsimp only [V.In] at h ⊢); first | omega | grind)
    clear G94
    replace F92 := F92.mono2 (B' := D_l) (E' := (fun j => E2 j ∨ V.In w66.heap.size w93.heap.size j)) (by intro k h; (first | exact (h.elim (fun h => h.elim) (fun h => h.elim)) | ((try dsimp only [V.In] at h ⊢); first | omega | grind))) (by intro k h; (try dsimp only [V.In] at h ⊢); first | omega | grind)
    refine V.run T_ok 1 rfl ?_
    refine V.nil ?_
    refine V.bN ?_
    refine V.tN ?_
    refine V.region ?_
    refine V.run T_ok 1 rfl ?_
    refine V.addN rfl rfl rfl rfl rfl (by first | omega | (simp only [List.length_take, List.length_drop, List.length_append, List.length_cons, List.length_nil, List.length_replicate, List.length_set, V.length_data, V.S_size]; omega)) (by first | omega | (simp only [List.length_take, List.length_drop, List.length_append, List.length_cons, List.length_nil, List.length_replicate, List.length_set, V.length_data, V.S_size]; omega)) ?_
    refine V.run T_ok 1 rfl ?_
    refine V.nil ?_
    refine V.tN ?_
    have hr97 : (allF dn) ++ (frm x10) = allF (dn ++ [x10]) := (allF_snoc dn x10).symm
    rw [hr97] at F65 ⊢
    clear hr97
    have hq5 := allF_snoc dn x10
    have hq6 := frm_len x10
    exact ⟨_, (by omega), HG, (by omega), F_l, F_behind, (i + 1), (dn ++ [x10]), ((fun j => E1 j ∨ V.In w60.heap.size w66.heap.size j)), ((fun j => E2 j ∨ V.In w66.heap.size w93.heap.size j)), a63, c64, a90, c91, rfl, (by omega), (by omega), ((by rw [List.length_append]; simp only [List.length_cons, List.length_nil]; omega)), ((by intro y hy; rcases List.mem_append.1 hy with h | h; exact hdx y h; rw [List.mem_singleton.1 h]; omega)), ((by rw [hq5, List.length_append]; omega)), ((by intro j h; (try dsimp only [V.In] at h ⊢); first | omega | grind)), ((by intro j h; (try dsimp only [V.In] at h ⊢); first | omega | grind)), F65, F92, rfl, rfl, rfl, rfl, rfl⟩
   ·
    try replace h10 := V.dec h10
    try simp only [V.mk0, V.mk1, V.mk2, V.mk3] at h10
    refine V.skip ?_
    refine V.bN ?_
    refine V.tN ?_
    refine V.region ?_
    refine V.run T_ok 1 rfl ?_
    refine V.addN rfl rfl rfl rfl rfl (by first | omega | (simp only [List.length_take, List.length_drop, List.length_append, List.length_cons, List.length_nil, List.length_replicate, List.length_set, V.length_data, V.S_size]; omega)) (by first | omega | (simp only [List.length_take, List.length_drop, List.length_append, List.length_cons, List.length_nil, List.length_replicate, List.length_set, V.length_data, V.S_size]; omega)) ?_
    refine V.run T_ok 1 rfl ?_
    refine V.nil ?_
    refine V.tN ?_
    exact ⟨_, (by omega), HG, (by omega), F_l, F_behind, (i + 1), (dn), (E1), (E2), ra11, rc11, ra12, rc12, rfl, (by omega), (by omega), (by omega), (hdx), (by omega), ((by intro j h; (try dsimp only [V.In] at h ⊢); first | omega | grind)), ((by intro j h; (try dsimp only [V.In] at h ⊢); first | omega | grind)), rF11, rF12, rfl, rfl, rfl, rfl, rfl⟩
 ·
  try replace h4 := V.dec h4
  try simp only [V.mk0, V.mk1, V.mk2, V.mk3] at h4
  refine V.exit ?_
  refine V.tX ?_
  refine V.tX ?_
  refine V.bE ?_
  refine V.tN ?_
  refine V.seq ?_
  refine V.region ?_
  refine V.run T_ok 2 rfl ?_
  refine V.nil ?_
  refine V.tN ?_
  refine V.seq ?_
  refine V.seq ?_
  refine V.region ?_
  refine V.run T_ok 3 rfl ?_
  refine V.nil ?_
  refine V.tN ?_
  refine V.condT rfl (fun h17 => ?_) (fun h17 => ?_)
  ·
   try replace h17 := V.dec h17
   try simp only [V.mk0, V.mk1, V.mk2, V.mk3] at h17
   refine V.region ?_
   refine V.run T_ok 1 rfl ?_
   refine V.cutL T_ok F_behind rfl rfl sz5 rfl rfl rfl rfl (by first | omega | (simp only [List.length_take, List.length_drop, List.length_append, List.length_cons, List.length_nil, List.length_replicate, List.length_set, V.length_data, V.S_size]; omega)) (by first | omega | (simp only [List.length_take, List.length_drop, List.length_append, List.length_cons, List.length_nil, List.length_replicate, List.length_set, V.length_data, V.S_size]; omega)) (fun a98 F100 => ?_)
   refine V.run T_ok 1 rfl ?_
   refine V.nil ?_
   refine V.tN ?_
   refine V.seq ?_
   refine V.region ?_
   refine V.mkSlice T_ok zero5 rfl rfl sz5 rfl rfl rfl rfl rfl rfl ?_
   rintro k101 w104 s106 s107 G105 Fk102
   have z108 := V.Fr.size G105
   try replace F_l := F_l.gr G105
   try replace F_behind := F_behind.gr G105
   try replace rF11 := rF11.gr G105
   try replace rF12 := rF12.gr G105
   try replace F100 := F100.gr G105
   replace HG := HG.grow G105
   clear G105
   have F103 := V.rowOfB (xs := ([] : List UInt8)) Fk102 rfl rfl
   clear Fk102
   refine V.run T_ok 1 rfl ?_
   refine V.appendR (F103) (V.From.flat V.flat_byte (D' := V.None') (rF11.sl.from Try.underlying23)) elT23_23 rfl rfl rfl rfl rfl (by first | omega | (simp only [List.length_take, List.length_drop, List.length_append, List.length_cons, List.length_nil, List.length_replicate, List.length_set, V.length_data, V.S_size]; omega)) (by unfold maxLen; first | omega | (simp only [List.length_take, List.length_drop, List.length_append, List.length_cons, List.length_nil, List.length_replicate, List.length_set, V.length_data, V.S_size]; omega)) (by omega) (by omega) (fun _ h => h.elim) (fun _ h => h.elim) ?_
   rintro a109 c110 w112 G113 s114 F111
   clear F103
   have z115 := Go.RowKit.Below.size G113
   first | replace F_l := V.Sl.bl F_l G113 (by first | exact (fun _ h => by have := h.2; omega) | (intro k h; have := hD_l k h; omega)) | clear F_l | skip
   first | replace F_behind := V.Sl.bl F_behind G113 (by first | exact (fun _ h => by have := h.2; omega) | (intro k h; have := hD_behind k h; omega)) | clear F_behind | skip
   first | replace rF11 := V.RowE.bl rF11 G113 (by intro j h; (try dsimp only [V.In] at h ⊢); first | omega | grind) | clear rF11 | skip
   first | replace rF12 := V.RowE.bl rF12 G113 (by intro j h; (try dsimp only [V.In] at h ⊢); first | omega | grind) | clear rF12 | skip
   first | replace F100 := V.Sl.bl F100 G113 (by first | exact (fun _ h => by have := h.2; omega) | (intro k h; have := hD_behind k h; omega)) | clear F100 | skip
   replace HG := HG.bl (Go.RowKit.Below.mono G113 (by omega))
   clear G113
   rw [List.nil_append] at F111 ⊢
   refine V.run T_ok 1 rfl ?_
   refine V.appendR (F111) (V.From.flat V.flat_byte (D' := V.None') (F100.from Try.underlying23)) elT23_23 rfl rfl rfl rfl rfl (by first | omega | (simp only [List.length_take, List.length_drop, List.length_append, List.length_cons, List.length_nil, List.length_replicate, List.length_set, V.length_data, V.S_size]; omega)) (by unfold maxLen; first | omega | (simp only [List.length_take, List.length_drop, List.length_append, List.length_cons, List.length_nil, List.length_replicate, List.length_set, V.length_data, V.S_size]; omega)) (by omega) (by omega) (fun _ h => h.elim) (fun _ h => h.elim) ?_
   rintro a116 c117 w119 G120 s121 F118
   clear F111
   have z122 := Go.RowKit.Below.size G120
   first | replace F_l := V.Sl.bl F_l G120 (by first | exact (fun _ h => by have := h.2; omega) | (intro k h; have := hD_l k h; omega)) | clear F_l | skip
   first | replace F_behind := V.Sl.bl F_behind G120 (by first | exact (fun _ h => by have := h.2; omega) | (intro k h; have := hD_behind k h; omega)) | clear F_behind | skip
   first | replace rF11 := V.RowE.bl rF11 G120 (by intro j h; (try dsimp only [V.In] at h ⊢); first | omega | grind) | clear rF11 | skip
   first | replace rF12 := V.RowE.bl rF12 G120 (by intro j h; (try dsimp only [V.In] at h ⊢); first | omega | grind) | clear rF12 | skip
   first | replace F100 := V.Sl.bl F100 G120 (by first | exact (fun _ h => by have := h.2; omega) | (intro k h; have := hD_behind k h; omega)) | clear F100 | skip
   replace HG := HG.bl (Go.RowKit.Below.mono G120 (by omega))
   clear G120
   have hr123 : (allF dn) ++ (behind.take ((8 : Int)).toNat) = allF dn ++ (behind.take ((8 : Int)).toNat) := (by simp)
   rw [hr123] at F118 ⊢
   clear hr123
   have hsa := scan_all (r := (behind.take ((8 : Int)).toNat)) hdx (first_short (by first | omega | (rw [List.length_take]; omega)))
   refine V.call (scan_spec F118.sl (fun k hk => by have := hk.2; omega) (by first | omega | (simp only [List.length_take, List.length_drop, List.length_append, List.length_cons, List.length_nil, List.length_replicate, List.length_set, V.length_data, V.S_size]; omega))) rfl rfl rfl ?_
   rintro _ w127 ⟨a124, c125, rfl, F126, G128⟩
   have z129 := V.Fr.size G128
   try replace F_l := F_l.gr G128
   try replace F_behind := F_behind.gr G128
   try replace rF11 := rF11.gr G128
   try replace rF12 := rF12.gr G128
   try replace F100 := F100.gr G128
   try replace F118 := F118.gr G128
   replace HG := HG.grow G128
   clear G128
   refine V.run T_ok 5 rfl ?_
   refine V.nil ?_
   refine V.tN ?_
   refine V.seq ?_
   refine V.region ?_
   refine V.call (alive_spec) rfl rfl rfl ?_
   rintro _ w130 ⟨rfl, G131⟩
   have z132 := V.Fr.size G131
   try replace F_l := F_l.gr G131
   try replace F_behind := F_behind.gr G131
   try replace rF11 := rF11.gr G131
   try replace rF12 := rF12.gr G131
   try replace F100 := F100.gr G131
   try replace F118 := F118.gr G131
   try replace F126 := F126.gr G131
   replace HG := HG.grow G131
   clear G131
   refine V.run T_ok 3 rfl ?_
   refine V.yes rfl rfl rfl ?_
   refine V.call (rsame_spec (V.Sl.ofOwn F126.sl) rF12.slB) rfl rfl rfl ?_
   rintro _ w130_ ⟨rfl, G134⟩
   have z135 := V.Fr.size G134
   try replace F_l := F_l.gr G134
   try replace F_behind := F_behind.gr G134
   try replace rF11 := rF11.gr G134
   try replace rF12 := rF12.gr G134
   try replace F100 := F100.gr G134
   try replace F118 := F118.gr G134
   try replace F126 := F126.gr G134
   replace HG := HG.grow G134
   clear G134
   refine V.run T_ok 2 rfl ?_
   refine V.splitT (j := 6) (t := 98) rfl rfl (by (rw [hsa]; simp)) ?_
   refine V.run T_ok 6 rfl ?_
   refine V.nil ?_
   refine V.tN ?_
   refine V.ret ?_
   refine V.done rfl ?_
   exact ⟨congrArg Value.bool (by rw [hsa]; simp), HG⟩
  ·
   try replace h17 := V.dec h17
   try simp only [V.mk0, V.mk1, V.mk2, V.mk3] at h17
   refine V.skip ?_
   refine V.tN ?_
   refine V.seq ?_
   refine V.region ?_
   refine V.mkSlice T_ok zero5 rfl rfl sz5 rfl rfl rfl rfl rfl rfl ?_
   rintro k136 w139 s141 s142 G140 Fk137
   have z143 := V.Fr.size G140
   try replace F_l := F_l.gr G140
   try replace F_behind := F_behind.gr G140
   try replace rF11 := rF11.gr G140
   try replace rF12 := rF12.gr G140
   replace HG := HG.grow G140
   clear G140
   have F138 := V.rowOfB (xs := ([] : List UInt8)) Fk137 rfl rfl
   clear Fk137
   refine V.run T_ok 1 rfl ?_
   refine V.appendR (F138) (V.From.flat V.flat_byte (D' := V.None') (rF11.sl.from Try.underlying23)) elT23_23 rfl rfl rfl rfl rfl (by first | omega | (simp only [List.length_take, List.length_drop, List.length_append, List.length_cons, List.length_nil, List.length_replicate, List.length_set, V.length_data, V.S_size]; omega)) (by unfold maxLen; first | omega | (simp only [List.length_take, List.length_drop, List.length_append, List.length_cons, List.length_nil, List.length_replicate, List.length_set, V.length_data, V.S_size]; omega)) (by omega) (by omega) (fun _ h => h.elim) (fun _ h => h.elim) ?_
   rintro a144 c145 w147 G148 s149 F146
   clear F138
   have z150 := Go.RowKit.Below.size G148
   first | replace F_l := V.Sl.bl F_l G148 (by first | exact (fun _ h => by have := h.2; omega) | (intro k h; have := hD_l k h; omega)) | clear F_l | skip
   first | replace F_behind := V.Sl.bl F_behind G148 (by first | exact (fun _ h => by have := h.2; omega) | (intro k h; have := hD_behind k h; omega)) | clear F_behind | skip
   first | replace rF11 := V.RowE.bl rF11 G148 (by intro j h; (try dsimp only [V.In] at h ⊢); first | omega | grind) | clear rF11 | skip
   first | replace rF12 := V.RowE.bl rF12 G148 (by intro j h; (try dsimp only [V.In] at h ⊢); first | omega | grind) | clear rF12 | skip
   replace HG := HG.bl (Go.RowKit.Below.mono G148 (by omega))
   clear G148
   rw [List.nil_append] at F146 ⊢
   refine V.run T_ok 1 rfl ?_
   refine V.appendR (F146) (V.From.flat V.flat_byte (D' := V.None') (F_behind.from Try.underlying23)) elT23_23 rfl rfl rfl rfl rfl (by first | omega | (simp only [List.length_take, List.length_drop, List.length_append, List.length_cons, List.length_nil, List.length_replicate, List.length_set, V.length_data, V.S_size]; omega)) (by unfold maxLen; first | omega | (simp only [List.length_take, List.length_drop, List.length_append, List.length_cons, List.length_nil, List.length_replicate, List.length_set, V.length_data, V.S_size]; omega)) (by omega) (by omega) (fun _ h => h.elim) (fun _ h => h.elim) ?_
   rintro a151 c152 w154 G155 s156 F153
   clear F146
   have z157 := Go.RowKit.Below.size G155
   first | replace F_l := V.Sl.bl F_l G155 (by first | exact (fun _ h => by have := h.2; omega) | (intro k h; have := hD_l k h; omega)) | clear F_l | skip
   first | replace F_behind := V.Sl.bl F_behind G155 (by first | exact (fun _ h => by have := h.2; omega) | (intro k h; have := hD_behind k h; omega)) | clear F_behind | skip
   first | replace rF11 := V.RowE.bl rF11 G155 (by intro j h; (try dsimp only [V.In] at h ⊢); first | omega | grind) | clear rF11 | skip
   first | replace rF12 := V.RowE.bl rF12 G155 (by intro j h; (try dsimp only [V.In] at h ⊢); first | omega | grind) | clear rF12 | skip
   replace HG := HG.bl (Go.RowKit.Below.mono G155 (by omega))
   clear G155
   have hr158 : (allF dn) ++ behind = allF dn ++ behind := (by simp)
   rw [hr158] at F153 ⊢
   clear hr158
   have hsa := scan_all (r := behind) hdx (first_short (by first | omega | (rw [List.length_take]; omega)))
   refine V.call (scan_spec F153.sl (fun k hk => by have := hk.2; omega) (by first | omega | (simp only [List.length_take, List.length_drop, List.length_append, List.length_cons, List.length_nil, List.length_replicate, List.length_set, V.length_data, V.S_size]; omega))) rfl rfl rfl ?_
   rintro _ w162 ⟨a159, c160, rfl, F161, G163⟩
   have z164 := V.Fr.size G163
   try replace F_l := F_l.gr G163
   try replace F_behind := F_behind.gr G163
   try replace rF11 := rF11.gr G163
   try replace rF12 := rF12.gr G163
   try replace F153 := F153.gr G163
   replace HG := HG.grow G163
   clear G163
   refine V.run T_ok 5 rfl ?_
   refine V.nil ?_
   refine V.tN ?_
   refine V.seq ?_
   refine V.region ?_
   refine V.call (alive_spec) rfl rfl rfl ?_
   rintro _ w165 ⟨rfl, G166⟩
   have z167 := V.Fr.size G166
   try replace F_l := F_l.gr G166
   try replace F_behind := F_behind.gr G166
   try replace rF11 := rF11.gr G166
   try replace rF12 := rF12.gr G166
   try replace F153 := F153.gr G166
   try replace F161 := F161.gr G166
   replace HG := HG.grow G166
   clear G166
   refine V.run T_ok 3 rfl ?_
   refine V.yes rfl rfl rfl ?_
   refine V.call (rsame_spec (V.Sl.ofOwn F161.sl) rF12.slB) rfl rfl rfl ?_
   rintro _ w165_ ⟨rfl, G169⟩
   have z170 := V.Fr.size G169
   try replace F_l := F_l.gr G169
   try replace F_behind := F_behind.gr G169
   try replace rF11 := rF11.gr G169
   try replace rF12 := rF12.gr G169
   try replace F153 := F153.gr G169
   try replace F161 := F161.gr G169
   replace HG := HG.grow G169
   clear G169
   refine V.run T_ok 2 rfl ?_
   refine V.splitT (j := 6) (t := 98) rfl rfl (by (rw [hsa]; simp)) ?_
   refine V.run T_ok 6 rfl ?_
   refine V.nil ?_
   refine V.tN ?_
   refine V.ret ?_
   refine V.done rfl ?_
   exact ⟨congrArg Value.bool (by rw [hsa]; simp), HG⟩


def endL (ls : List (List UInt8)) : List Int := (List.range ls.length).map fun j => ((allF (ls.take (j + 1))).length : Int)
theorem endL_len (ls : List (List UInt8)) : (endL ls).length = ls.length := by simp [endL]
theorem endL_get (ls : List (List UInt8)) (j : Nat) (h : j < (endL ls).length) : (endL ls)[j] = ((allF (ls.take (j + 1))).length : Int) := by simp [endL]
theorem endL_snoc (ls : List (List UInt8)) (x : List UInt8) : endL (ls ++ [x]) = endL ls ++ [((allF (ls ++ [x])).length : Int)] := by
  unfold endL
  rw [List.length_append, List.length_cons, List.length_nil, List.range_succ, List.map_append]
  congr 1
  · apply List.map_congr_left
    intro j hj
    have : j < ls.length := by simpa using hj
    rw [List.take_append_of_le_length (by omega)]
  · simp [List.take_of_length_le]
theorem allF_dec {ls : List (List UInt8)} {n : Nat} (hn : n < ls.length) : allF ls = allF (ls.take n) ++ (frm ls[n] ++ allF (ls.drop (n + 1))) := by
  have e1 : ls = ls.take n ++ (ls[n] :: ls.drop (n + 1)) := by rw [← List.drop_eq_getElem_cons hn, List.take_append_drop]
  have e2 := congrArg allF e1
  rw [e2]; simp only [allF, List.flatMap_append, List.flatMap_cons]
theorem stop_len {ls : List (List UInt8)} {n : Nat} {x : List UInt8} (hn : n < ls.length) (hx : ls[n] = x) : (allF (ls.take n)).length + (x.length + 8) ≤ (allF ls).length := by
  have := congrArg List.length (allF_dec hn)
  rw [List.length_append, List.length_append, frm_len, hx] at this
  omega
theorem stop_at {ls : List (List UInt8)} (h : ∀ x ∈ ls, 1 ≤ x.length ∧ x.length ≤ 500) {n r : Nat} {x : List UInt8} (hn : n < ls.length) (he : ls[n] = x) (hr : r < 8 * x.length) :
    scanB (flip1 (allF ls) (8 * ((allF (ls.take n)).length + 8) + r)) = (ls.take n, (allF (ls.take n)).length) := by
  subst he
  have hx := h _ (List.getElem_mem hn)
  rw [allF_dec hn, show 8 * ((allF (ls.take n)).length + 8) + r = 8 * (allF (ls.take n)).length + (64 + r) by omega, flip1_app, flip1_left _ _ _ (by rw [frm_len]; omega)]
  exact scan_all (fun y hy => h y (List.mem_of_mem_take hy)) (first_flip (by omega) hr)

set_option maxHeartbeats 300000 in
set_option maxRecDepth 10000 in
theorem sealStops_walk {w : World}  {D_l : Nat → Prop} {c_l : Nat} {a_l : Option Addr} {l : List (List UInt8)} (F_l : Sl V.Cod.byte.sl w D_l a_l c_l l) (hD_l : ∀ k, D_l k → k < w.heap.size) {at0 : Int} {bit : Int} (hb1 : -9223372036854775808 ≤ at0 ∧ at0 ≤ 9223372036854775807) (hb2 : -9223372036854775808 ≤ bit ∧ bit ≤ 9223372036854775807) :
    Meets Try.prog 3 [.slice a_l l.length c_l, .int .i64 at0, .int .i64 bit] w fun r w' => r = .bool true ∧ Gr w w' := by
 have HG := V.Fr.refl [] w
 refine V.enter (n := 141) Try.func3 rfl rfl (by decide) rfl ?_
 refine V.seq ?_
 refine V.region ?_
 refine V.run T_ok 1 rfl ?_
 refine V.nil ?_
 refine V.tN ?_
 refine V.seq ?_
 refine V.region ?_
 refine V.run T_ok 1 rfl ?_
 refine V.nil ?_
 refine V.tN ?_
 refine V.seq ?_
 refine V.region ?_
 refine V.run T_ok 1 rfl ?_
 refine V.nil ?_
 refine V.tN ?_
 refine V.seq ?_
 refine V.region ?_
 refine V.run T_ok 1 rfl ?_
 refine V.nil ?_
 refine V.tN ?_
 refine V.seq ?_
 refine V.seq ?_
 refine V.region ?_
 refine V.run T_ok 1 rfl ?_
 refine V.nil ?_
 refine V.tN ?_
 refine V.block ?_
 have hl63 := F_l.len63
 refine V.loopM (fun m e v2 => Fr [] w v2 ∧ w.heap.size ≤ v2.heap.size ∧ Sl V.Cod.byte.sl v2 D_l a_l c_l l ∧ ∃ (i : Nat) (dn : List (List UInt8)) (E1 E2 E3 : Nat → Prop) (ra13 : Option Addr) (rc13 : Nat) (ra14 : Option Addr) (rc14 : Nat) (ra15 : Option Addr) (rc15 : Nat), m = l.length - i ∧ i ≤ l.length ∧ i ≤ 20 ∧ dn.length ≤ i ∧ (∀ x ∈ dn, 1 ≤ x.length ∧ x.length ≤ 500) ∧ (allF dn).length ≤ 508 * i ∧ (∀ j, E1 j → w.heap.size ≤ j ∧ j < v2.heap.size ∧ ¬ E2 j ∧ ¬ E3 j) ∧ (∀ j, E2 j → w.heap.size ≤ j ∧ j < v2.heap.size ∧ ¬ E3 j) ∧ (∀ j, E3 j → w.heap.size ≤ j ∧ j < v2.heap.size) ∧ V.RowE V.Cod.byte 5 v2 V.None' E1 ra13 rc13 (allF dn) ∧ V.RowE V.Cod.byte.sl 23 v2 D_l E2 ra14 rc14 dn ∧ V.RowE (V.Cod.int .i64) 3 v2 V.None' E3 ra15 rc15 (endL dn) ∧ e 0 = .slice a_l l.length c_l ∧ e 1 = .int .i64 at0 ∧ e 2 = .int .i64 bit ∧ e 7 = .slice ra13 (allF dn).length rc13 ∧ e 8 = .slice ra14 dn.length rc14 ∧ e 9 = .slice ra15 (endL dn).length rc15 ∧ e 10 = .int .i64 (i : Int)) ?_ ?_
 ·
  exact ⟨_, HG, (by omega), F_l, (0), ([]), (fun _ => False), (fun _ => False), (fun _ => False), none, 0, none, 0, none, 0, rfl, (Nat.zero_le _), (Nat.zero_le _), (Nat.le_refl _), (fun x h => by cases h), (Nat.le_refl _), (fun j h => h.elim), (fun j h => h.elim), (fun j h => h.elim), V.RowE.nil, V.RowE.nil, V.RowE.nil, rfl, rfl, rfl, rfl, rfl, rfl, rfl⟩
 clear HG F_l
 rintro _ e v2 ⟨HG, z3, F_l, i, dn, E1, E2, E3, ra13, rc13, ra14, rc14, ra15, rc15, rfl, hi, hi2, hdn, hdx, hal, hE1, hE2, hE3, rF13, rF14, rF15, he0_0, he0_1, he0_2, he0_7, he0_8, he0_9, he0_10⟩
 refine V.knownC (t := 0) he0_0 ?_
 refine V.knownC (t := 1) he0_1 ?_
 refine V.knownC (t := 2) he0_2 ?_
 refine V.knownC (t := 7) he0_7 ?_
 refine V.knownC (t := 8) he0_8 ?_
 refine V.knownC (t := 9) he0_9 ?_
 refine V.knownC (t := 10) he0_10 ?_
 refine V.seq ?_
 refine V.seq ?_
 refine V.region ?_
 refine V.run T_ok 5 rfl ?_
 refine V.andG T_ok 2 4 21 rfl rfl rfl rfl rfl rfl rfl rfl ?_
 refine V.nil ?_
 refine V.tN ?_
 refine V.condT rfl (fun h5 => ?_) (fun h5 => ?_)
 ·
  try replace h5 := V.dec h5
  try simp only [V.mk0, V.mk1, V.mk2, V.mk3] at h5
  refine V.skip ?_
  refine V.tN ?_
  refine V.seq ?_
  refine V.block ?_
  refine V.seq ?_
  refine V.seq ?_
  refine V.region ?_
  refine V.run T_ok 2 rfl ?_
  refine V.elem T_ok F_l rfl rfl sz23 rfl rfl rfl rfl (by first | omega | (simp only [List.length_take, List.length_drop, List.length_append, List.length_cons, List.length_nil, List.length_replicate, List.length_set, V.length_data, V.S_size]; omega)) (by first | omega | (simp only [List.length_take, List.length_drop, List.length_append, List.length_cons, List.length_nil, List.length_replicate, List.length_set, V.length_data, V.S_size]; omega)) ?_
  rintro b4 o5 cs6 hx7 hb8 hR14 hA9
  obtain ⟨x10, hx10⟩ : ∃ z', l[((i : Int)).toNat] = z' := ⟨_, rfl⟩
  rw [hx10] at hR14
  obtain ⟨a11, c12, rfl, F13⟩ := hR14
  try simp only [Int.toNat_natCast] at hx10 hx7
  refine V.loadA T_ok (o0 := o5) (off := 0) hA9 rfl rfl rfl rfl rfl ?_
  refine V.run T_ok 3 rfl ?_
  refine V.split (j := 6) (t := 33) rfl rfl (fun g7_6 => ?_) (fun g7_6 => ?_)
  ·
   try replace g7_6 := V.dec g7_6
   try simp only [V.mk0, V.mk1, V.mk2, V.mk3] at g7_6
   refine V.run T_ok 7 rfl ?_
   refine V.nil ?_
   refine V.tN ?_
   refine V.condY rfl rfl ?_
   refine V.exit ?_
   refine V.tX ?_
   refine V.bE ?_
   refine V.tN ?_
   refine V.region ?_
   refine V.run T_ok 1 rfl ?_
   refine V.addN rfl rfl rfl rfl rfl (by first | omega | (simp only [List.length_take, List.length_drop, List.length_append, List.length_cons, List.length_nil, List.length_replicate, List.length_set, V.length_data, V.S_size]; omega)) (by first | omega | (simp only [List.length_take, List.length_drop, List.length_append, List.length_cons, List.length_nil, List.length_replicate, List.length_set, V.length_data, V.S_size]; omega)) ?_
   refine V.run T_ok 1 rfl ?_
   refine V.nil ?_
   refine V.tN ?_
   exact ⟨_, (by omega), HG, (by omega), F_l, (i + 1), (dn), (E1), (E2), (E3), ra13, rc13, ra14, rc14, ra15, rc15, rfl, (by omega), (by omega), (by omega), (hdx), (by omega), ((by intro j h; (try dsimp only [V.In] at h ⊢); first | omega | grind)), ((by intro j h; (try dsimp only [V.In] at h ⊢); first | omega | grind)), ((by intro j h; (try dsimp only [V.In] at h ⊢); first | omega | grind)), rF13, rF14, rF15, rfl, rfl, rfl, rfl, rfl, rfl, rfl⟩
  ·
   try replace g7_6 := V.dec g7_6
   try simp only [V.mk0, V.mk1, V.mk2, V.mk3] at g7_6
   refine V.run T_ok 2 rfl ?_
   refine V.yes rfl rfl rfl ?_
   refine V.elem T_ok F_l rfl rfl sz23 rfl rfl rfl rfl (by first | omega | (simp only [List.length_take, List.length_drop, List.length_append, List.length_cons, List.length_nil, List.length_replicate, List.length_set, V.length_data, V.S_size]; omega)) (by first | omega | (simp only [List.length_take, List.length_drop, List.length_append, List.length_cons, List.length_nil, List.length_replicate, List.length_set, V.length_data, V.S_size]; omega)) ?_
   rintro b15 o16 cs17 hx18 hb19 hR25 hA20
   obtain ⟨x21, hx21⟩ : ∃ z', l[((i : Int)).toNat] = z' := ⟨_, rfl⟩
   rw [hx21] at hR25
   obtain ⟨a22, c23, rfl, F24⟩ := hR25
   try simp only [Int.toNat_natCast] at hx21 hx18
   obtain rfl : x10 = x21 := hx10.symm.trans hx21
   refine V.yes rfl rfl rfl ?_
   refine V.loadA T_ok (o0 := o16) (off := 0) hA20 rfl rfl rfl rfl rfl ?_
   refine V.run T_ok 3 rfl ?_
   refine V.nil ?_
   refine V.tN ?_
   refine V.condT rfl (fun h7 => ?_) (fun h7 => ?_)
   ·
    try replace h7 := V.dec h7
    try simp only [V.mk0, V.mk1, V.mk2, V.mk3] at h7
    refine V.exit ?_
    refine V.tX ?_
    refine V.bE ?_
    refine V.tN ?_
    refine V.region ?_
    refine V.run T_ok 1 rfl ?_
    refine V.addN rfl rfl rfl rfl rfl (by first | omega | (simp only [List.length_take, List.length_drop, List.length_append, List.length_cons, List.length_nil, List.length_replicate, List.length_set, V.length_data, V.S_size]; omega)) (by first | omega | (simp only [List.length_take, List.length_drop, List.length_append, List.length_cons, List.length_nil, List.length_replicate, List.length_set, V.length_data, V.S_size]; omega)) ?_
    refine V.run T_ok 1 rfl ?_
    refine V.nil ?_
    refine V.tN ?_
    exact ⟨_, (by omega), HG, (by omega), F_l, (i + 1), (dn), (E1), (E2), (E3), ra13, rc13, ra14, rc14, ra15, rc15, rfl, (by omega), (by omega), (by omega), (hdx), (by omega), ((by intro j h; (try dsimp only [V.In] at h ⊢); first | omega | grind)), ((by intro j h; (try dsimp only [V.In] at h ⊢); first | omega | grind)), ((by intro j h; (try dsimp only [V.In] at h ⊢); first | omega | grind)), rF13, rF14, rF15, rfl, rfl, rfl, rfl, rfl, rfl, rfl⟩
   ·
    try replace h7 := V.dec h7
    try simp only [V.mk0, V.mk1, V.mk2, V.mk3] at h7
    refine V.skip ?_
    refine V.tN ?_
    refine V.seq ?_
    refine V.region ?_
    refine V.run T_ok 2 rfl ?_
    refine V.elem T_ok F_l rfl rfl sz23 rfl rfl rfl rfl (by first | omega | (simp only [List.length_take, List.length_drop, List.length_append, List.length_cons, List.length_nil, List.length_replicate, List.length_set, V.length_data, V.S_size]; omega)) (by first | omega | (simp only [List.length_take, List.length_drop, List.length_append, List.length_cons, List.length_nil, List.length_replicate, List.length_set, V.length_data, V.S_size]; omega)) ?_
    rintro b26 o27 cs28 hx29 hb30 hR36 hA31
    obtain ⟨x32, hx32⟩ : ∃ z', l[((i : Int)).toNat] = z' := ⟨_, rfl⟩
    rw [hx32] at hR36
    obtain ⟨a33, c34, rfl, F35⟩ := hR36
    try simp only [Int.toNat_natCast] at hx32 hx29
    obtain rfl : x10 = x32 := hx10.symm.trans hx32
    refine V.loadA T_ok (o0 := o27) (off := 0) hA31 rfl rfl rfl rfl rfl ?_
    refine V.call (frame_spec F35 (fun k hk => by have := hD_l k hk; omega)) rfl rfl rfl ?_
    rintro _ w40 ⟨a37, c38, rfl, F39, G41⟩
    have z42 := V.Fr.size G41
    try replace F_l := F_l.gr G41
    try replace rF13 := rF13.gr G41
    try replace rF14 := rF14.gr G41
    try replace rF15 := rF15.gr G41
    try replace F13 := F13.gr G41
    try replace F24 := F24.gr G41
    try replace F35 := F35.gr G41
    replace HG := HG.grow G41
    clear G41
    refine V.run T_ok 5 rfl ?_
    refine V.nil ?_
    refine V.tN ?_
    refine V.seq ?_
    refine V.seq ?_
    have hfr := frmB_ok (b := x10) (by omega) (by omega)
    have hfr1 : (frmB x10).1 = frm x10 := by rw [hfr]
    have hfr2 : (frmB x10).2 = 0 := by rw [hfr]
    rw [hfr1] at F39 ⊢
    have hfl := frm_len x10
    refine V.region ?_
    refine V.run T_ok 3 rfl ?_
    refine V.splitF (j := 2) (t := 51) rfl rfl (by (rw [hfr2]; rfl)) ?_
    refine V.run T_ok 4 rfl ?_
    refine V.yes rfl rfl rfl ?_
    refine V.elem T_ok F_l rfl rfl sz23 rfl rfl rfl rfl (by first | omega | (simp only [List.length_take, List.length_drop, List.length_append, List.length_cons, List.length_nil, List.length_replicate, List.length_set, V.length_data, V.S_size]; omega)) (by first | omega | (simp only [List.length_take, List.length_drop, List.length_append, List.length_cons, List.length_nil, List.length_replicate, List.length_set, V.length_data, V.S_size]; omega)) ?_
    rintro b43 o44 cs45 hx46 hb47 hR53 hA48
    obtain ⟨x49, hx49⟩ : ∃ z', l[((i : Int)).toNat] = z' := ⟨_, rfl⟩
    rw [hx49] at hR53
    obtain ⟨a50, c51, rfl, F52⟩ := hR53
    try simp only [Int.toNat_natCast] at hx49 hx46
    obtain rfl : x10 = x49 := hx10.symm.trans hx49
    refine V.yes rfl rfl rfl ?_
    refine V.loadA T_ok (o0 := o44) (off := 0) hA48 rfl rfl rfl rfl rfl ?_
    refine V.run T_ok 1 rfl ?_
    refine V.yes rfl rfl rfl ?_
    refine V.addN rfl rfl rfl rfl rfl (by first | omega | (simp only [List.length_take, List.length_drop, List.length_append, List.length_cons, List.length_nil, List.length_replicate, List.length_set, V.length_data, V.S_size]; omega)) (by first | omega | (simp only [List.length_take, List.length_drop, List.length_append, List.length_cons, List.length_nil, List.length_replicate, List.length_set, V.length_data, V.S_size]; omega)) ?_
    refine V.run T_ok 2 rfl ?_
    refine V.nil ?_
    refine V.tN ?_
    refine V.condN rfl (by exact decide_eq_false (by omega)) ?_
    refine V.skip ?_
    refine V.tN ?_
    refine V.seq ?_
    refine V.region ?_
    refine V.run T_ok 2 rfl ?_
    refine V.appendZ rF13 (V.From.flat (V.flat_byte) (D' := V.None') (F39.sl.from Try.underlying23)) elT23_23 rfl rfl rfl rfl rfl (by first | omega | (simp only [List.length_take, List.length_drop, List.length_append, List.length_cons, List.length_nil, List.length_replicate, List.length_set, V.length_data, V.S_size]; omega)) (by unfold maxLen; first | omega | (simp only [List.length_take, List.length_drop, List.length_append, List.length_cons, List.length_nil, List.length_replicate, List.length_set, V.length_data, V.S_size]; omega)) (by intro k h; (try dsimp only [V.In] at h ⊢); first | omega | grind) (fun _ h => h.elim) (fun _ h => h.elim) ?_
    rintro a54 c55 w57 G58 s59 F56
    clear rF13
    have z60 := V.FrE.size G58
    first | replace F_l := F_l.mvE G58 (by intro j h hd; (try dsimp only [V.In] at h hd ⊢); first | omega | grind) | clear F_l | skip
    first | replace rF14 := rF14.mvE G58 (by intro j h hd; (try dsimp only [V.In] at h hd ⊢); first | omega | grind) | clear rF14 | skip
    first | replace rF15 := rF15.mvE G58 (by intro j h hd; (try dsimp only [V.In] at h hd ⊢); first | omega | grind) | clear rF15 | skip
    first | replace F13 := F13.mvE G58 (by intro j h hd; (try dsimp only [V.In] at h hd ⊢); first | omega | grind) | clear F13 | skip
    first | replace F24 := F24.mvE G58 (by intro j h hd; (try dsimp only [V.In] at h hd ⊢); first | omega | grind) | clear F24 | skip
    first | replace F35 := F35.mvE G58 (by intro j h hd; (try dsimp only [V.In] at h hd ⊢); first | omega | grind) | clear F35 | skip
    first | replace F39 := F39.mvE G58 (by intro j h hd; (try dsimp only [V.In] at h hd ⊢); first | omega | grind) | clear F39 | skip
    first | replace F52 := F52.mvE G58 (by intro j h hd; (try dsimp only [V.In] at h hd ⊢); first | omega | grind) | clear F52 | skip
    replace HG := HG.stepE G58 (by intro i h; (try dsimp only [V.In] at h ⊢); first | omega | grind)
    clear G58
    replace F56 := F56.mono2 (B' := V.None') (E' := (fun j => E1 j ∨ V.In w40.heap.size w57.heap.size j)) (by intro k h; (first | exact (h.elim (fun h => h.elim) (fun h => h.elim)) | ((try dsimp only [V.In] at h ⊢); first | omega | grind))) (by intro k h; (try dsimp only [V.In] at h ⊢); first | omega | grind)
    refine V.run T_ok 1 rfl ?_
    refine V.nil ?_
    refine V.tN ?_
    refine V.seq ?_
    refine V.region ?_
    refine V.run T_ok 3 rfl ?_
    refine V.elem T_ok F_l rfl rfl sz23 rfl rfl rfl rfl (by first | omega | (simp only [List.length_take, List.length_drop, List.length_append, List.length_cons, List.length_nil, List.length_replicate, List.length_set, V.length_data, V.S_size]; omega)) (by first | omega | (simp only [List.length_take, List.length_drop, List.length_append, List.length_cons, List.length_nil, List.length_replicate, List.length_set, V.length_data, V.S_size]; omega)) ?_
    rintro b61 o62 cs63 hx64 hb65 hR71 hA66
    obtain ⟨x67, hx67⟩ : ∃ z', l[((i : Int)).toNat] = z' := ⟨_, rfl⟩
    rw [hx67] at hR71
    obtain ⟨a68, c69, rfl, F70⟩ := hR71
    try simp only [Int.toNat_natCast] at hx67 hx64
    obtain rfl : x10 = x67 := hx10.symm.trans hx67
    refine V.loadA T_ok (o0 := o62) (off := 0) hA66 rfl rfl rfl rfl rfl ?_
    refine V.mkSlice T_ok zero23 rfl rfl sz23 rfl rfl rfl rfl rfl rfl ?_
    rintro k72 w75 s77 s78 G76 Fk73
    have z79 := V.Fr.size G76
    try replace F_l := F_l.gr G76
    try replace rF14 := rF14.gr G76
    try replace rF15 := rF15.gr G76
    try replace F13 := F13.gr G76
    try replace F24 := F24.gr G76
    try replace F35 := F35.gr G76
    try replace F39 := F39.gr G76
    try replace F52 := F52.gr G76
    try replace F56 := F56.gr G76
    try replace F70 := F70.gr G76
    replace HG := HG.grow G76
    clear G76
    have F74 : Sl V.Cod.byte.sl w75 (fun k => k = k72 ∨ D_l k) (some ⟨k72, 0, none⟩) ([x10] : List (List UInt8)).length ([x10] : List (List UInt8)) := V.Cells.sl Fk73 (V.reps_cons (x := x10) ⟨_, _, rfl, F70.mono (fun k h => .inr (h))⟩ rfl rfl) (.inl rfl) (by simp [maxLen])
    have hDu80 : ∀ k, (fun k => k = k72 ∨ D_l k) k → k < w75.heap.size := by intro k h; (try dsimp only at h); rcases h with h | h <;> first | omega | (have := h.2; omega) | (have := h.1; omega) | (have := hD_l k h; omega) | (have := hD_l k h; omega)
    refine V.appendZ rF14 (F74.from Try.underlying22) elT22_22 rfl rfl rfl rfl rfl (by first | omega | (simp only [List.length_take, List.length_drop, List.length_append, List.length_cons, List.length_nil, List.length_replicate, List.length_set, V.length_data, V.S_size]; omega)) (by unfold maxLen; first | omega | (simp only [List.length_take, List.length_drop, List.length_append, List.length_cons, List.length_nil, List.length_replicate, List.length_set, V.length_data, V.S_size]; omega)) (by intro k h; (try dsimp only [V.In] at h ⊢); first | omega | grind) (by intro k h; (try dsimp only [V.In] at h ⊢); first | omega | grind) (by intro k h; (try dsimp only [V.In] at h ⊢); first | omega | grind) ?_
    rintro a81 c82 w84 G85 s86 F83
    clear rF14
    clear F74
    have z87 := V.FrE.size G85
    first | replace F_l := F_l.mvE G85 (by intro j h hd; (try dsimp only [V.In] at h hd ⊢); first | omega | grind) | clear F_l | skip
    first | replace rF15 := rF15.mvE G85 (by intro j h hd; (try dsimp only [V.In] at h hd ⊢); first | omega | grind) | clear rF15 | skip
    first | replace F13 := F13.mvE G85 (by intro j h hd; (try dsimp only [V.In] at h hd ⊢); first | omega | grind) | clear F13 | skip
    first | replace F24 := F24.mvE G85 (by intro j h hd; (try dsimp only [V.In] at h hd ⊢); first | omega | grind) | clear F24 | skip
    first | replace F35 := F35.mvE G85 (by intro j h hd; (try dsimp only [V.In] at h hd ⊢); first | omega | grind) | clear F35 | skip
    first | replace F39 := F39.mvE G85 (by intro j h hd; (try dsimp only [V.In] at h hd ⊢); first | omega | grind) | clear F39 | skip
    first | replace F52 := F52.mvE G85 (by intro j h hd; (try dsimp only [V.In] at h hd ⊢); first | omega | grind) | clear F52 | skip
    first | replace F56 := F56.mvE G85 (by intro j h hd; (try dsimp only [V.In] at h hd ⊢); first | omega | grind) | clear F56 | skip
    first | replace F70 := F70.mvE G85 (by intro j h hd; (try dsimp only [V.In] at h hd ⊢); first | omega | grind) | clear F70 | skip
    first | replace Fk73 := Fk73.mvE G85 (by (try dsimp only [V.In]); first | omega | grind) | clear Fk73 | skip
    replace HG := HG.stepE G85 (by intro i h; (try dsimp only [V.In] at h ⊢); first | omega | grind)
    clear G85
    replace F83 := F83.mono2 (B' := D_l) (E' := (fun j => E2 j ∨ V.In w57.heap.size w84.heap.size j)) (by intro k h; (first | exact (h.elim (fun h => h.elim) (fun h => h.elim)) | ((try dsimp only [V.In] at h ⊢); first | omega | grind))) (by intro k h; (try dsimp only [V.In] at h ⊢); first | omega | grind)
    refine V.run T_ok 1 rfl ?_
    refine V.nil ?_
    refine V.tN ?_
    have hel := endL_len dn
    refine V.region ?_
    refine V.run T_ok 3 rfl ?_
    refine V.mkSlice T_ok zero3 rfl rfl sz3 rfl rfl rfl rfl rfl rfl ?_
    rintro k88 w91 s93 s94 G92 Fk89
    have z95 := V.Fr.size G92
    try replace F_l := F_l.gr G92
    try replace rF15 := rF15.gr G92
    try replace F13 := F13.gr G92
    try replace F24 := F24.gr G92
    try replace F35 := F35.gr G92
    try replace F39 := F39.gr G92
    try replace F52 := F52.gr G92
    try replace F56 := F56.gr G92
    try replace F70 := F70.gr G92
    try replace Fk73 := Fk73.gr G92
    try replace F83 := F83.gr G92
    replace HG := HG.grow G92
    clear G92
    have F90 := V.rowOfI (q := .i64) (xs := ([(((allF dn) ++ (frm x10)).length : Int)] : List Int)) Fk89 rfl rfl
    clear Fk89
    refine V.appendZ rF15 (V.From.flat (V.flat_int .i64) (D' := V.None') (F90.sl.from Try.underlying24)) elT24_24 rfl rfl rfl rfl rfl (by first | omega | (simp only [List.length_take, List.length_drop, List.length_append, List.length_cons, List.length_nil, List.length_replicate, List.length_set, V.length_data, V.S_size]; omega)) (by unfold maxLen; first | omega | (simp only [List.length_take, List.length_drop, List.length_append, List.length_cons, List.length_nil, List.length_replicate, List.length_set, V.length_data, V.S_size]; omega)) (by intro k h; (try dsimp only [V.In] at h ⊢); first | omega | grind) (fun _ h => h.elim) (fun _ h => h.elim) ?_
    rintro a96 c97 w99 G100 s101 F98
    clear rF15
    clear F90
    have z102 := V.FrE.size G100
    first | replace F_l := F_l.mvE G100 (by intro j h hd; (try dsimp only [V.In] at h hd ⊢); first | omega | grind) | clear F_l | skip
    first | replace F13 := F13.mvE G100 (by intro j h hd; (try dsimp only [V.In] at h hd ⊢); first | omega | grind) | clear F13 | skip
    first | replace F24 := F24.mvE G100 (by intro j h hd; (try dsimp only [V.In] at h hd ⊢); first | omega | grind) | clear F24 | skip
    first | replace F35 := F35.mvE G100 (by intro j h hd; (try dsimp only [V.In] at h hd ⊢); first | omega | grind) | clear F35 | skip
    first | replace F39 := F39.mvE G100 (by intro j h hd; (try dsimp only [V.In] at h hd ⊢); first | omega | grind) | clear F39 | skip
    first | replace F52 := F52.mvE G100 (by intro j h hd; (try dsimp only [V.In] at h hd ⊢); first | omega | grind) | clear F52 | skip
    first | replace F56 := F56.mvE G100 (by intro j h hd; (try dsimp only [V.In] at h hd ⊢); first | omega | grind) | clear F56 | skip
    first | replace F70 := F70.mvE G100 (by intro j h hd; (try dsimp only [V.In] at h hd ⊢); first | omega | grind) | clear F70 | skip
    first | replace Fk73 := Fk73.mvE G100 (by (try dsimp only [V.In]); first | omega | grind) | clear Fk73 | skip
    first | replace F83 := F83.mvE G100 (by intro j h hd; (try dsimp only [V.In] at h hd ⊢); first | omega | grind) | clear F83 | skip
    replace HG := HG.stepE G100 (by intro i h; (try dsimp only [V.In] at h ⊢); first | omega | grind)
    clear G100
    replace F98 := F98.mono2 (B' := V.None') (E' := (fun j => E3 j ∨ V.In w84.heap.size w99.heap.size j)) (by intro k h; (first | exact (h.elim (fun h => h.elim) (fun h => h.elim)) | ((try dsimp only [V.In] at h ⊢); first | omega | grind))) (by intro k h; (try dsimp only [V.In] at h ⊢); first | omega | grind)
    refine V.run T_ok 1 rfl ?_
    refine V.nil ?_
    refine V.bN ?_
    refine V.tN ?_
    refine V.region ?_
    refine V.run T_ok 1 rfl ?_
    refine V.addN rfl rfl rfl rfl rfl (by first | omega | (simp only [List.length_take, List.length_drop, List.length_append, List.length_cons, List.length_nil, List.length_replicate, List.length_set, V.length_data, V.S_size]; omega)) (by first | omega | (simp only [List.length_take, List.length_drop, List.length_append, List.length_cons, List.length_nil, List.length_replicate, List.length_set, V.length_data, V.S_size]; omega)) ?_
    refine V.run T_ok 1 rfl ?_
    refine V.nil ?_
    refine V.tN ?_
    have hq5 := allF_snoc dn x10
    have hq6 := frm_len x10
    have hr103 : (endL dn) ++ ([(((allF dn) ++ (frm x10)).length : Int)] : List Int) = endL (dn ++ [x10]) := (by rw [endL_snoc, hq5])
    rw [hr103] at F98 ⊢
    clear hr103
    have hr104 : (allF dn) ++ (frm x10) = allF (dn ++ [x10]) := hq5.symm
    rw [hr104] at F56 ⊢
    clear hr104
    exact ⟨_, (by omega), HG, (by omega), F_l, (i + 1), (dn ++ [x10]), ((fun j => E1 j ∨ V.In w40.heap.size w57.heap.size j)), ((fun j => E2 j ∨ V.In w57.heap.size w84.heap.size j)), ((fun j => E3 j ∨ V.In w84.heap.size w99.heap.size j)), a54, c55, a81, c82, a96, c97, rfl, (by omega), (by omega), ((by rw [List.length_append]; simp only [List.length_cons, List.length_nil]; omega)), ((by intro y hy; rcases List.mem_append.1 hy with h | h; exact hdx y h; rw [List.mem_singleton.1 h]; omega)), ((by rw [hq5, List.length_append]; omega)), ((by intro j h; (try dsimp only [V.In] at h ⊢); first | omega | grind)), ((by intro j h; (try dsimp only [V.In] at h ⊢); first | omega | grind)), ((by intro j h; (try dsimp only [V.In] at h ⊢); first | omega | grind)), F56, F83, F98, rfl, rfl, rfl, rfl, rfl, rfl, rfl⟩
 ·
  try replace h5 := V.dec h5
  try simp only [V.mk0, V.mk1, V.mk2, V.mk3] at h5
  refine V.exit ?_
  refine V.tX ?_
  refine V.tX ?_
  refine V.bE ?_
  refine V.tN ?_
  refine V.seq ?_
  refine V.seq ?_
  refine V.region ?_
  refine V.run T_ok 3 rfl ?_
  refine V.orG T_ok 4 2 79 rfl rfl rfl rfl rfl rfl rfl rfl ?_
  refine V.run T_ok 1 rfl ?_
  refine V.orG T_ok 2 8 85 rfl rfl rfl rfl rfl rfl rfl rfl ?_
  refine V.nil ?_
  refine V.tN ?_
  refine V.condT rfl (fun h14 => ?_) (fun h14 => ?_)
  ·
   try replace h14 := V.dec h14
   try simp only [V.mk0, V.mk1, V.mk2, V.mk3] at h14
   refine V.seq ?_
   refine V.region ?_
   refine V.call (alive_spec) rfl rfl rfl ?_
   rintro _ w105 ⟨rfl, G106⟩
   have z107 := V.Fr.size G106
   try replace F_l := F_l.gr G106
   try replace rF13 := rF13.gr G106
   try replace rF14 := rF14.gr G106
   try replace rF15 := rF15.gr G106
   replace HG := HG.grow G106
   clear G106
   refine V.run T_ok 1 rfl ?_
   refine V.nil ?_
   refine V.tN ?_
   refine V.ret ?_
   refine V.tR ?_
   refine V.done rfl ?_
   exact ⟨(by first | rfl | simp only [List.length_set]), HG⟩
  ·
   try replace h14 := V.dec h14
   try simp only [V.mk0, V.mk1, V.mk2, V.mk3] at h14
   refine V.skip ?_
   refine V.tN ?_
   refine V.seq ?_
   refine V.region ?_
   refine V.run T_ok 1 rfl ?_
   refine V.nil ?_
   refine V.tN ?_
   refine V.seq ?_
   refine V.seq ?_
   have hel := endL_len dn
   refine V.region ?_
   refine V.run T_ok 2 rfl ?_
   refine V.nil ?_
   refine V.tN ?_
   refine V.condT rfl (fun h17 => ?_) (fun h17 => ?_)
   ·
    try replace h17 := V.dec h17
    try simp only [V.mk0, V.mk1, V.mk2, V.mk3] at h17
    refine V.region ?_
    refine V.run T_ok 2 rfl ?_
    refine V.subN rfl rfl rfl rfl rfl (by first | omega | (simp only [List.length_take, List.length_drop, List.length_append, List.length_cons, List.length_nil, List.length_replicate, List.length_set, V.length_data, V.S_size]; omega)) (by first | omega | (simp only [List.length_take, List.length_drop, List.length_append, List.length_cons, List.length_nil, List.length_replicate, List.length_set, V.length_data, V.S_size]; omega)) ?_
    refine V.elem T_ok rF15.sl rfl rfl sz3 rfl rfl rfl rfl (by first | omega | (simp only [List.length_take, List.length_drop, List.length_append, List.length_cons, List.length_nil, List.length_replicate, List.length_set, V.length_data, V.S_size]; omega)) (by first | omega | (simp only [List.length_take, List.length_drop, List.length_append, List.length_cons, List.length_nil, List.length_replicate, List.length_set, V.length_data, V.S_size]; omega)) ?_
    rintro b108 o109 cs110 hx111 hb112 hR115 hA113
    obtain ⟨x114, hx114⟩ : ∃ z', (endL dn)[(at0 - 1).toNat] = z' := ⟨_, rfl⟩
    rw [hx114] at hR115
    obtain rfl := hR115
    try simp only [Int.toNat_natCast] at hx114 hx111
    refine V.loadA T_ok (o0 := o109) (off := 0) hA113 rfl rfl rfl rfl rfl ?_
    refine V.run T_ok 1 rfl ?_
    refine V.nil ?_
    refine V.tN ?_
    refine V.seq ?_
    have hsl0 := stop_len (ls := dn) (n := at0.toNat) (by omega) rfl
    have hbg : x114 = (((allF (dn.take at0.toNat)).length : Nat) : Int) := by rw [← hx114, endL_get]; rw [show (at0 - 1).toNat + 1 = at0.toNat by omega]
    refine V.region ?_
    refine V.run T_ok 1 rfl ?_
    refine V.addN rfl rfl rfl rfl rfl (by first | omega | (simp only [List.length_take, List.length_drop, List.length_append, List.length_cons, List.length_nil, List.length_replicate, List.length_set, V.length_data, V.S_size]; omega)) (by first | omega | (simp only [List.length_take, List.length_drop, List.length_append, List.length_cons, List.length_nil, List.length_replicate, List.length_set, V.length_data, V.S_size]; omega)) ?_
    refine V.mulN rfl rfl rfl rfl rfl (by first | omega | (simp only [List.length_take, List.length_drop, List.length_append, List.length_cons, List.length_nil, List.length_replicate, List.length_set, V.length_data, V.S_size]; omega)) (by first | omega | (simp only [List.length_take, List.length_drop, List.length_append, List.length_cons, List.length_nil, List.length_replicate, List.length_set, V.length_data, V.S_size]; omega)) ?_
    refine V.run T_ok 3 rfl ?_
    refine V.elem T_ok rF14.slB rfl rfl sz23 rfl rfl rfl rfl (by first | omega | (simp only [List.length_take, List.length_drop, List.length_append, List.length_cons, List.length_nil, List.length_replicate, List.length_set, V.length_data, V.S_size]; omega)) (by first | omega | (simp only [List.length_take, List.length_drop, List.length_append, List.length_cons, List.length_nil, List.length_replicate, List.length_set, V.length_data, V.S_size]; omega)) ?_
    rintro b116 o117 cs118 hx119 hb120 hR126 hA121
    obtain ⟨x122, hx122⟩ : ∃ z', dn[(at0).toNat] = z' := ⟨_, rfl⟩
    rw [hx122] at hR126
    obtain ⟨a123, c124, rfl, F125⟩ := hR126
    try simp only [Int.toNat_natCast] at hx122 hx119
    refine V.loadA T_ok (o0 := o117) (off := 0) hA121 rfl rfl rfl rfl rfl ?_
    refine V.run T_ok 1 rfl ?_
    have hsl := stop_len (ls := dn) (n := at0.toNat) (by omega) hx122
    have hxx := hdx x122 (hx122 ▸ List.getElem_mem _)
    refine V.mulN rfl rfl rfl rfl rfl (by first | omega | (simp only [List.length_take, List.length_drop, List.length_append, List.length_cons, List.length_nil, List.length_replicate, List.length_set, V.length_data, V.S_size]; omega)) (by first | omega | (simp only [List.length_take, List.length_drop, List.length_append, List.length_cons, List.length_nil, List.length_replicate, List.length_set, V.length_data, V.S_size]; omega)) ?_
    first | refine V.remN rfl rfl rfl rfl rfl (by first | omega | (simp only [List.length_take, List.length_drop, List.length_append, List.length_cons, List.length_nil, List.length_replicate, List.length_set, V.length_data, V.S_size]; omega)) (by first | omega | (simp only [List.length_take, List.length_drop, List.length_append, List.length_cons, List.length_nil, List.length_replicate, List.length_set, V.length_data, V.S_size]; omega)) ?_ | refine V.run T_ok 1 rfl ?_
    obtain ⟨r, hr⟩ : ∃ r : Nat, bit % (8 * (x122.length : Int)) = (r : Int) := ⟨_, (Int.toNat_of_nonneg (Int.emod_nonneg _ (by omega))).symm⟩
    have hr2 := Int.emod_lt_of_pos bit (show 0 < 8 * (x122.length : Int) by omega)
    rw [hr]
    rw [hr] at hr2
    refine V.addN rfl rfl rfl rfl rfl (by first | omega | (simp only [List.length_take, List.length_drop, List.length_append, List.length_cons, List.length_nil, List.length_replicate, List.length_set, V.length_data, V.S_size]; omega)) (by first | omega | (simp only [List.length_take, List.length_drop, List.length_append, List.length_cons, List.length_nil, List.length_replicate, List.length_set, V.length_data, V.S_size]; omega)) ?_
    refine V.run T_ok 1 rfl ?_
    refine V.nil ?_
    refine V.tN ?_
    refine V.seq ?_
    refine V.region ?_
    refine V.run T_ok 2 rfl ?_
    first | refine V.quoN rfl rfl rfl rfl rfl (by first | omega | (simp only [List.length_take, List.length_drop, List.length_append, List.length_cons, List.length_nil, List.length_replicate, List.length_set, V.length_data, V.S_size]; omega)) (by first | omega | (simp only [List.length_take, List.length_drop, List.length_append, List.length_cons, List.length_nil, List.length_replicate, List.length_set, V.length_data, V.S_size]; omega)) (by first | omega | (simp only [List.length_take, List.length_drop, List.length_append, List.length_cons, List.length_nil, List.length_replicate, List.length_set, V.length_data, V.S_size]; omega)) ?_ | refine V.run T_ok 1 rfl ?_
    refine V.run T_ok 2 rfl ?_
    first | refine V.quoN rfl rfl rfl rfl rfl (by first | omega | (simp only [List.length_take, List.length_drop, List.length_append, List.length_cons, List.length_nil, List.length_replicate, List.length_set, V.length_data, V.S_size]; omega)) (by first | omega | (simp only [List.length_take, List.length_drop, List.length_append, List.length_cons, List.length_nil, List.length_replicate, List.length_set, V.length_data, V.S_size]; omega)) (by first | omega | (simp only [List.length_take, List.length_drop, List.length_append, List.length_cons, List.length_nil, List.length_replicate, List.length_set, V.length_data, V.S_size]; omega)) ?_ | refine V.run T_ok 1 rfl ?_
    obtain ⟨g132, hg132E, F133⟩ := V.RowE.own1 V.flat_byte rF13 (by first | omega | (simp only [List.length_take, List.length_drop, List.length_append, List.length_cons, List.length_nil, List.length_replicate, List.length_set, V.length_data, V.S_size]; omega))
    clear rF13
    try have hq134 := hE1 _ hg132E
    refine V.elemO' T_ok F133 (by first | rfl | (first | omega | (simp only [List.length_take, List.length_drop, List.length_append, List.length_cons, List.length_nil, List.length_replicate, List.length_set, V.length_data, V.S_size]; omega))) rfl rfl sz5 rfl rfl rfl rfl (by first | omega | (simp only [List.length_take, List.length_drop, List.length_append, List.length_cons, List.length_nil, List.length_replicate, List.length_set, V.length_data, V.S_size]; omega)) (by first | omega | (simp only [List.length_take, List.length_drop, List.length_append, List.length_cons, List.length_nil, List.length_replicate, List.length_set, V.length_data, V.S_size]; omega)) ?_
    rintro hx128
    obtain ⟨cs131, hR129, hA130⟩ := V.Own.el F133 hx128
    obtain ⟨x127, hx127⟩ : ∃ z', (allF dn)[(((8 * (x114 + 8)) + (r : Int)) / 8).toNat] = z' := ⟨_, rfl⟩
    rw [hx127] at hR129
    obtain rfl := hR129
    try simp only [Int.toNat_natCast] at hx127 hx128
    refine V.loadA T_ok (o0 := (((8 * (x114 + 8)) + (r : Int)) / 8).toNat * V.Cod.byte.sz) (off := 0) hA130 rfl rfl rfl rfl rfl ?_
    refine V.run T_ok 1 rfl ?_
    first | refine V.remN rfl rfl rfl rfl rfl (by first | omega | (simp only [List.length_take, List.length_drop, List.length_append, List.length_cons, List.length_nil, List.length_replicate, List.length_set, V.length_data, V.S_size]; omega)) (by first | omega | (simp only [List.length_take, List.length_drop, List.length_append, List.length_cons, List.length_nil, List.length_replicate, List.length_set, V.length_data, V.S_size]; omega)) ?_ | refine V.run T_ok 1 rfl ?_
    first | refine V.cnvN T_ok rfl rfl rfl rfl rfl rfl (V.wrap_u64 (by omega) (by omega)) ?_ | refine V.run T_ok 1 rfl ?_
    refine V.shlN rfl rfl rfl rfl rfl (by first | omega | (simp only [List.length_take, List.length_drop, List.length_append, List.length_cons, List.length_nil, List.length_replicate, List.length_set, V.length_data, V.S_size]; omega)) ?_
    refine V.run T_ok 1 rfl ?_
    refine V.elemO' T_ok F133 (by first | rfl | (first | omega | (simp only [List.length_take, List.length_drop, List.length_append, List.length_cons, List.length_nil, List.length_replicate, List.length_set, V.length_data, V.S_size]; omega))) rfl rfl sz5 rfl rfl rfl rfl (by first | omega | (simp only [List.length_take, List.length_drop, List.length_append, List.length_cons, List.length_nil, List.length_replicate, List.length_set, V.length_data, V.S_size]; omega)) (by first | omega | (simp only [List.length_take, List.length_drop, List.length_append, List.length_cons, List.length_nil, List.length_replicate, List.length_set, V.length_data, V.S_size]; omega)) ?_
    rintro hx136
    obtain ⟨cs139, hR137, hA138⟩ := V.Own.el F133 hx136
    obtain ⟨x135, hx135⟩ : ∃ z', (allF dn)[(((8 * (x114 + 8)) + (r : Int)) / 8).toNat] = z' := ⟨_, rfl⟩
    rw [hx135] at hR137
    obtain rfl := hR137
    try simp only [Int.toNat_natCast] at hx135 hx136
    refine V.storeS (D' := V.None') (j := (((8 * (x114 + 8)) + (r : Int)) / 8).toNat) (x' := (x127 ^^^ UInt8.ofNat (2 ^ ((8 * ((allF (dn.take at0.toNat)).length + 8) + r) % 8)))) V.flat_byte F133 rfl rfl rfl (by first | omega | (simp only [List.length_take, List.length_drop, List.length_append, List.length_cons, List.length_nil, List.length_replicate, List.length_set, V.length_data, V.S_size]; omega)) rfl (V.cb1 (by rw [show ((8 : Int) * (x114 + 8) + (r : Int)) % 8 = (((8 * ((allF (dn.take at0.toNat)).length + 8) + r) % 8 : Nat) : Int) by omega]; exact flip_byte x127 _)) rfl sz5 rfl rfl ?_
    rintro w140 G141 z142 Fnew
    clear F133
    have z143 := V.Fr.size G141
    first | replace F_l := F_l.mb G141 hD_l | clear F_l | skip
    first | replace rF14 := rF14.mv1 G141 (by (try dsimp only [V.In]); first | omega | grind) | clear rF14 | skip
    first | replace rF15 := rF15.mv1 G141 (by (try dsimp only [V.In]); first | omega | grind) | clear rF15 | skip
    first | replace F125 := F125.ma G141 | clear F125 | skip
    replace HG := HG.n1 G141
    clear G141
    have F133 := Fnew; clear Fnew
    refine V.nil ?_
    refine V.tN ?_
    refine V.seq ?_
    have hr144 : (allF dn).set ((((8 * (x114 + 8)) + (r : Int)) / 8).toNat) (x127 ^^^ UInt8.ofNat (2 ^ ((8 * ((allF (dn.take at0.toNat)).length + 8) + r) % 8))) = flip1 (allF dn) (8 * ((allF (dn.take at0.toNat)).length + 8) + r) := (flip_set (by omega) (by omega) hx127)
    rw [hr144] at F133
    clear hr144
    rw [show (allF dn).length = (flip1 (allF dn) (8 * ((allF (dn.take at0.toNat)).length + 8) + r)).length by rw [flip1_len]]
    have hst := stop_at (r := r) hdx (n := at0.toNat) (by omega) hx122 (by omega)
    have hfl1 := flip1_len (allF dn) (8 * ((allF (dn.take at0.toNat)).length + 8) + r)
    refine V.region ?_
    refine V.run T_ok 1 rfl ?_
    refine V.call (scan_spec (V.RowE.back (E := E1) F133 hg132E).sl (by intro k h; (try dsimp only [V.In] at h ⊢); first | omega | grind) (by first | omega | (simp only [List.length_take, List.length_drop, List.length_append, List.length_cons, List.length_nil, List.length_replicate, List.length_set, V.length_data, V.S_size]; omega))) rfl rfl rfl ?_
    rintro _ w148 ⟨a145, c146, rfl, F147, G149⟩
    have z150 := V.Fr.size G149
    try replace F_l := F_l.gr G149
    try replace rF14 := rF14.gr G149
    try replace rF15 := rF15.gr G149
    try replace F125 := F125.gr G149
    try replace F133 := F133.gr G149
    replace HG := HG.grow G149
    clear G149
    refine V.run T_ok 5 rfl ?_
    refine V.nil ?_
    refine V.tN ?_
    refine V.seq ?_
    refine V.region ?_
    refine V.call (alive_spec) rfl rfl rfl ?_
    rintro _ w151 ⟨rfl, G152⟩
    have z153 := V.Fr.size G152
    try replace F_l := F_l.gr G152
    try replace rF14 := rF14.gr G152
    try replace rF15 := rF15.gr G152
    try replace F125 := F125.gr G152
    try replace F133 := F133.gr G152
    try replace F147 := F147.gr G152
    replace HG := HG.grow G152
    clear G152
    refine V.run T_ok 6 rfl ?_
    refine V.splitT (j := 6) (t := 134) rfl rfl (by (rw [hst]; exact decide_eq_true (by omega))) ?_
    refine V.run T_ok 3 rfl ?_
    refine V.yes rfl rfl rfl ?_
    refine V.cutL T_ok rF14.slB rfl rfl sz23 rfl rfl rfl rfl (by first | omega | (simp only [List.length_take, List.length_drop, List.length_append, List.length_cons, List.length_nil, List.length_replicate, List.length_set, V.length_data, V.S_size]; omega)) (by first | omega | (simp only [List.length_take, List.length_drop, List.length_append, List.length_cons, List.length_nil, List.length_replicate, List.length_set, V.length_data, V.S_size]; omega)) (fun a154 F156 => ?_)
    refine V.yes rfl rfl rfl ?_
    refine V.call (rsame_spec (V.Sl.ofOwn F147.sl) F156) rfl rfl rfl ?_
    rintro _ w151_ ⟨rfl, G158⟩
    have z159 := V.Fr.size G158
    try replace F_l := F_l.gr G158
    try replace rF14 := rF14.gr G158
    try replace rF15 := rF15.gr G158
    try replace F125 := F125.gr G158
    try replace F133 := F133.gr G158
    try replace F147 := F147.gr G158
    try replace F156 := F156.gr G158
    replace HG := HG.grow G158
    clear G158
    refine V.run T_ok 2 rfl ?_
    refine V.nil ?_
    refine V.tN ?_
    refine V.ret ?_
    refine V.done rfl ?_
    exact ⟨congrArg Value.bool (by rw [hst]; simp), HG⟩
   ·
    try replace h17 := V.dec h17
    try simp only [V.mk0, V.mk1, V.mk2, V.mk3] at h17
    refine V.skip ?_
    refine V.tN ?_
    refine V.seq ?_
    have hsl0 := stop_len (ls := dn) (n := at0.toNat) (by omega) rfl
    have hbg : 0 = (((allF (dn.take at0.toNat)).length : Nat) : Int) := by rw [show at0.toNat = 0 by omega]; rfl
    refine V.region ?_
    refine V.run T_ok 1 rfl ?_
    refine V.addN rfl rfl rfl rfl rfl (by first | omega | (simp only [List.length_take, List.length_drop, List.length_append, List.length_cons, List.length_nil, List.length_replicate, List.length_set, V.length_data, V.S_size]; omega)) (by first | omega | (simp only [List.length_take, List.length_drop, List.length_append, List.length_cons, List.length_nil, List.length_replicate, List.length_set, V.length_data, V.S_size]; omega)) ?_
    refine V.mulN rfl rfl rfl rfl rfl (by first | omega | (simp only [List.length_take, List.length_drop, List.length_append, List.length_cons, List.length_nil, List.length_replicate, List.length_set, V.length_data, V.S_size]; omega)) (by first | omega | (simp only [List.length_take, List.length_drop, List.length_append, List.length_cons, List.length_nil, List.length_replicate, List.length_set, V.length_data, V.S_size]; omega)) ?_
    refine V.run T_ok 3 rfl ?_
    refine V.elem T_ok rF14.slB rfl rfl sz23 rfl rfl rfl rfl (by first | omega | (simp only [List.length_take, List.length_drop, List.length_append, List.length_cons, List.length_nil, List.length_replicate, List.length_set, V.length_data, V.S_size]; omega)) (by first | omega | (simp only [List.length_take, List.length_drop, List.length_append, List.length_cons, List.length_nil, List.length_replicate, List.length_set, V.length_data, V.S_size]; omega)) ?_
    rintro b160 o161 cs162 hx163 hb164 hR170 hA165
    obtain ⟨x166, hx166⟩ : ∃ z', dn[(at0).toNat] = z' := ⟨_, rfl⟩
    rw [hx166] at hR170
    obtain ⟨a167, c168, rfl, F169⟩ := hR170
    try simp only [Int.toNat_natCast] at hx166 hx163
    refine V.loadA T_ok (o0 := o161) (off := 0) hA165 rfl rfl rfl rfl rfl ?_
    refine V.run T_ok 1 rfl ?_
    have hsl := stop_len (ls := dn) (n := at0.toNat) (by omega) hx166
    have hxx := hdx x166 (hx166 ▸ List.getElem_mem _)
    refine V.mulN rfl rfl rfl rfl rfl (by first | omega | (simp only [List.length_take, List.length_drop, List.length_append, List.length_cons, List.length_nil, List.length_replicate, List.length_set, V.length_data, V.S_size]; omega)) (by first | omega | (simp only [List.length_take, List.length_drop, List.length_append, List.length_cons, List.length_nil, List.length_replicate, List.length_set, V.length_data, V.S_size]; omega)) ?_
    first | refine V.remN rfl rfl rfl rfl rfl (by first | omega | (simp only [List.length_take, List.length_drop, List.length_append, List.length_cons, List.length_nil, List.length_replicate, List.length_set, V.length_data, V.S_size]; omega)) (by first | omega | (simp only [List.length_take, List.length_drop, List.length_append, List.length_cons, List.length_nil, List.length_replicate, List.length_set, V.length_data, V.S_size]; omega)) ?_ | refine V.run T_ok 1 rfl ?_
    obtain ⟨r, hr⟩ : ∃ r : Nat, bit % (8 * (x166.length : Int)) = (r : Int) := ⟨_, (Int.toNat_of_nonneg (Int.emod_nonneg _ (by omega))).symm⟩
    have hr2 := Int.emod_lt_of_pos bit (show 0 < 8 * (x166.length : Int) by omega)
    rw [hr]
    rw [hr] at hr2
    refine V.addN rfl rfl rfl rfl rfl (by first | omega | (simp only [List.length_take, List.length_drop, List.length_append, List.length_cons, List.length_nil, List.length_replicate, List.length_set, V.length_data, V.S_size]; omega)) (by first | omega | (simp only [List.length_take, List.length_drop, List.length_append, List.length_cons, List.length_nil, List.length_replicate, List.length_set, V.length_data, V.S_size]; omega)) ?_
    refine V.run T_ok 1 rfl ?_
    refine V.nil ?_
    refine V.tN ?_
    refine V.seq ?_
    refine V.region ?_
    refine V.run T_ok 2 rfl ?_
    first | refine V.quoN rfl rfl rfl rfl rfl (by first | omega | (simp only [List.length_take, List.length_drop, List.length_append, List.length_cons, List.length_nil, List.length_replicate, List.length_set, V.length_data, V.S_size]; omega)) (by first | omega | (simp only [List.length_take, List.length_drop, List.length_append, List.length_cons, List.length_nil, List.length_replicate, List.length_set, V.length_data, V.S_size]; omega)) (by first | omega | (simp only [List.length_take, List.length_drop, List.length_append, List.length_cons, List.length_nil, List.length_replicate, List.length_set, V.length_data, V.S_size]; omega)) ?_ | refine V.run T_ok 1 rfl ?_
    refine V.run T_ok 2 rfl ?_
    first | refine V.quoN rfl rfl rfl rfl rfl (by first | omega | (simp only [List.length_take, List.length_drop, List.length_append, List.length_cons, List.length_nil, List.length_replicate, List.length_set, V.length_data, V.S_size]; omega)) (by first | omega | (simp only [List.length_take, List.length_drop, List.length_append, List.length_cons, List.length_nil, List.length_replicate, List.length_set, V.length_data, V.S_size]; omega)) (by first | omega | (simp only [List.length_take, List.length_drop, List.length_append, List.length_cons, List.length_nil, List.length_replicate, List.length_set, V.length_data, V.S_size]; omega)) ?_ | refine V.run T_ok 1 rfl ?_
    obtain ⟨g176, hg176E, F177⟩ := V.RowE.own1 V.flat_byte rF13 (by first | omega | (simp only [List.length_take, List.length_drop, List.length_append, List.length_cons, List.length_nil, List.length_replicate, List.length_set, V.length_data, V.S_size]; omega))
    clear rF13
    try have hq178 := hE1 _ hg176E
    refine V.elemO' T_ok F177 (by first | rfl | (first | omega | (simp only [List.length_take, List.length_drop, List.length_append, List.length_cons, List.length_nil, List.length_replicate, List.length_set, V.length_data, V.S_size]; omega))) rfl rfl sz5 rfl rfl rfl rfl (by first | omega | (simp only [List.length_take, List.length_drop, List.length_append, List.length_cons, List.length_nil, List.length_replicate, List.length_set, V.length_data, V.S_size]; omega)) (by first | omega | (simp only [List.length_take, List.length_drop, List.length_append, List.length_cons, List.length_nil, List.length_replicate, List.length_set, V.length_data, V.S_size]; omega)) ?_
    rintro hx172
    obtain ⟨cs175, hR173, hA174⟩ := V.Own.el F177 hx172
    obtain ⟨x171, hx171⟩ : ∃ z', (allF dn)[(((8 * (0 + 8)) + (r : Int)) / 8).toNat] = z' := ⟨_, rfl⟩
    rw [hx171] at hR173
    obtain rfl := hR173
    try simp only [Int.toNat_natCast] at hx171 hx172
    refine V.loadA T_ok (o0 := (((8 * (0 + 8)) + (r : Int)) / 8).toNat * V.Cod.byte.sz) (off := 0) hA174 rfl rfl rfl rfl rfl ?_
    refine V.run T_ok 1 rfl ?_
    first | refine V.remN rfl rfl rfl rfl rfl (by first | omega | (simp only [List.length_take, List.length_drop, List.length_append, List.length_cons, List.length_nil, List.length_replicate, List.length_set, V.length_data, V.S_size]; omega)) (by first | omega | (simp only [List.length_take, List.length_drop, List.length_append, List.length_cons, List.length_nil, List.length_replicate, List.length_set, V.length_data, V.S_size]; omega)) ?_ | refine V.run T_ok 1 rfl ?_
    first | refine V.cnvN T_ok rfl rfl rfl rfl rfl rfl (V.wrap_u64 (by omega) (by omega)) ?_ | refine V.run T_ok 1 rfl ?_
    refine V.shlN rfl rfl rfl rfl rfl (by first | omega | (simp only [List.length_take, List.length_drop, List.length_append, List.length_cons, List.length_nil, List.length_replicate, List.length_set, V.length_data, V.S_size]; omega)) ?_
    refine V.run T_ok 1 rfl ?_
    refine V.elemO' T_ok F177 (by first | rfl | (first | omega | (simp only [List.length_take, List.length_drop, List.length_append, List.length_cons, List.length_nil, List.length_replicate, List.length_set, V.length_data, V.S_size]; omega))) rfl rfl sz5 rfl rfl rfl rfl (by first | omega | (simp only [List.length_take, List.length_drop, List.length_append, List.length_cons, List.length_nil, List.length_replicate, List.length_set, V.length_data, V.S_size]; omega)) (by first | omega | (simp only [List.length_take, List.length_drop, List.length_append, List.length_cons, List.length_nil, List.length_replicate, List.length_set, V.length_data, V.S_size]; omega)) ?_
    rintro hx180
    obtain ⟨cs183, hR181, hA182⟩ := V.Own.el F177 hx180
    obtain ⟨x179, hx179⟩ : ∃ z', (allF dn)[(((8 * (0 + 8)) + (r : Int)) / 8).toNat] = z' := ⟨_, rfl⟩
    rw [hx179] at hR181
    obtain rfl := hR181
    try simp only [Int.toNat_natCast] at hx179 hx180
    refine V.storeS (D' := V.None') (j := (((8 * (0 + 8)) + (r : Int)) / 8).toNat) (x' := (x171 ^^^ UInt8.ofNat (2 ^ ((8 * ((allF (dn.take at0.toNat)).length + 8) + r) % 8)))) V.flat_byte F177 rfl rfl rfl (by first | omega | (simp only [List.length_take, List.length_drop, List.length_append, List.length_cons, List.length_nil, List.length_replicate, List.length_set, V.length_data, V.S_size]; omega)) rfl (V.cb1 (by rw [show ((8 : Int) * (0 + 8) + (r : Int)) % 8 = (((8 * ((allF (dn.take at0.toNat)).length + 8) + r) % 8 : Nat) : Int) by omega]; exact flip_byte x171 _)) rfl sz5 rfl rfl ?_
    rintro w184 G185 z186 Fnew
    clear F177
    have z187 := V.Fr.size G185
    first | replace F_l := F_l.mb G185 hD_l | clear F_l | skip
    first | replace rF14 := rF14.mv1 G185 (by (try dsimp only [V.In]); first | omega | grind) | clear rF14 | skip
    first | replace rF15 := rF15.mv1 G185 (by (try dsimp only [V.In]); first | omega | grind) | clear rF15 | skip
    first | replace F169 := F169.ma G185 | clear F169 | skip
    replace HG := HG.n1 G185
    clear G185
    have F177 := Fnew; clear Fnew
    refine V.nil ?_
    refine V.tN ?_
    refine V.seq ?_
    have hr188 : (allF dn).set ((((8 * (0 + 8)) + (r : Int)) / 8).toNat) (x171 ^^^ UInt8.ofNat (2 ^ ((8 * ((allF (dn.take at0.toNat)).length + 8) + r) % 8))) = flip1 (allF dn) (8 * ((allF (dn.take at0.toNat)).length + 8) + r) := (flip_set (by omega) (by omega) hx171)
    rw [hr188] at F177
    clear hr188
    rw [show (allF dn).length = (flip1 (allF dn) (8 * ((allF (dn.take at0.toNat)).length + 8) + r)).length by rw [flip1_len]]
    have hst := stop_at (r := r) hdx (n := at0.toNat) (by omega) hx166 (by omega)
    have hfl1 := flip1_len (allF dn) (8 * ((allF (dn.take at0.toNat)).length + 8) + r)
    refine V.region ?_
    refine V.run T_ok 1 rfl ?_
    refine V.call (scan_spec (V.RowE.back (E := E1) F177 hg176E).sl (by intro k h; (try dsimp only [V.In] at h ⊢); first | omega | grind) (by first | omega | (simp only [List.length_take, List.length_drop, List.length_append, List.length_cons, List.length_nil, List.length_replicate, List.length_set, V.length_data, V.S_size]; omega))) rfl rfl rfl ?_
    rintro _ w192 ⟨a189, c190, rfl, F191, G193⟩
    have z194 := V.Fr.size G193
    try replace F_l := F_l.gr G193
    try replace rF14 := rF14.gr G193
    try replace rF15 := rF15.gr G193
    try replace F169 := F169.gr G193
    try replace F177 := F177.gr G193
    replace HG := HG.grow G193
    clear G193
    refine V.run T_ok 5 rfl ?_
    refine V.nil ?_
    refine V.tN ?_
    refine V.seq ?_
    refine V.region ?_
    refine V.call (alive_spec) rfl rfl rfl ?_
    rintro _ w195 ⟨rfl, G196⟩
    have z197 := V.Fr.size G196
    try replace F_l := F_l.gr G196
    try replace rF14 := rF14.gr G196
    try replace rF15 := rF15.gr G196
    try replace F169 := F169.gr G196
    try replace F177 := F177.gr G196
    try replace F191 := F191.gr G196
    replace HG := HG.grow G196
    clear G196
    refine V.run T_ok 6 rfl ?_
    refine V.splitT (j := 6) (t := 134) rfl rfl (by (rw [hst]; exact decide_eq_true (by omega))) ?_
    refine V.run T_ok 3 rfl ?_
    refine V.yes rfl rfl rfl ?_
    refine V.cutL T_ok rF14.slB rfl rfl sz23 rfl rfl rfl rfl (by first | omega | (simp only [List.length_take, List.length_drop, List.length_append, List.length_cons, List.length_nil, List.length_replicate, List.length_set, V.length_data, V.S_size]; omega)) (by first | omega | (simp only [List.length_take, List.length_drop, List.length_append, List.length_cons, List.length_nil, List.length_replicate, List.length_set, V.length_data, V.S_size]; omega)) (fun a198 F200 => ?_)
    refine V.yes rfl rfl rfl ?_
    refine V.call (rsame_spec (V.Sl.ofOwn F191.sl) F200) rfl rfl rfl ?_
    rintro _ w195_ ⟨rfl, G202⟩
    have z203 := V.Fr.size G202
    try replace F_l := F_l.gr G202
    try replace rF14 := rF14.gr G202
    try replace rF15 := rF15.gr G202
    try replace F169 := F169.gr G202
    try replace F177 := F177.gr G202
    try replace F191 := F191.gr G202
    try replace F200 := F200.gr G202
    replace HG := HG.grow G202
    clear G202
    refine V.run T_ok 2 rfl ?_
    refine V.nil ?_
    refine V.tN ?_
    refine V.ret ?_
    refine V.done rfl ?_
    exact ⟨congrArg Value.bool (by rw [hst]; simp), HG⟩

end Go.Proofs.Ythlgimhbdemfjaa
