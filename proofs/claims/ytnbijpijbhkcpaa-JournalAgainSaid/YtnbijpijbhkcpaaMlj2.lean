/- Proved here: walks: what functions of this seat's program return and what they leave of memory, each as a contract. Conditions: stated at each theorem. -/
import Derived.Test.YtnbijpijbhkcpaaMjn4
namespace Go.Proofs.Ytnbijpijbhkcpaa
set_option linter.unusedVariables false
set_option linter.unusedSimpArgs false
open Go
open V (Bytes Meets Env Sl Own Gr Fr Cells S)
/-! ### Two disks with the same file and cell -/
def Tw (d c : DiskV) : Prop := d.nf = c.nf ∧ d.nc = c.nc
theorem Tw.does {d c : DiskV} {j : JV} (x : List UInt8) (h : Tw d c) : doesJ j d x = doesJ j c x ∧ Tw (doesD d x) (doesD c x) := by
  unfold doesJ doesD eAppend dAppend
  rw [h.1]
  refine ⟨rfl, ?_⟩
  split
  · split
    · exact h
    · exact ⟨by dsimp only, h.2⟩
  · exact h
theorem Tw.app {d c : DiskV} {j : JV} (b : List UInt8) (h : Tw d c) : appJ j d b = appJ j c b ∧ Tw (appD d b) (appD c b) := by
  unfold appJ appD
  split
  · exact ⟨rfl, h⟩
  · exact h.does _
theorem Tw.cut {d c : DiskV} {j : JV} (n : Int) (h : Tw d c) : cutJ j d n = cutJ j c n ∧ Tw (cutD j d n) (cutD j c n) := by
  unfold cutJ cutD
  split
  · exact ⟨rfl, h⟩
  · exact h.does _
theorem Tw.reb {d c : DiskV} {j : JV} (n : Int) (b : List UInt8) (h : Tw d c) : rebJ j d n b = rebJ j c n b ∧ Tw (rebD d n b) (rebD c n b) := by
  unfold rebJ rebD
  split
  · exact ⟨rfl, h⟩
  · exact h.does _
theorem Tw.set {d c : DiskV} (t v b : Int) (h : Tw d c) : Tw (setD d t v b) (setD c t v b) := by
  unfold setD
  split
  · exact h
  · exact ⟨h.1, rfl⟩


set_option maxHeartbeats 900000 in
set_option maxRecDepth 10000 in
theorem seen_spec {w : World} {k kd : Nat} {E : Nat → Prop} {jv : JV} (FX : Jn w k kd E jv)   :
    Meets Try.prog 32 [.pointer (some ⟨k, 0, none⟩)] w fun r w' => ∃ (ra74 : Option Addr) (rc74 : Nat), r = .agg #[.int .i64 jv.base, .string (V.S jv.data), .slice ra74 jv.l.length rc74] ∧ V.Row V.Cod.byte.sl 22 w' V.None' w.heap.size w'.heap.size ra74 rc74 jv.l ∧ Gr w w' := by
 have hlt := FX.lt
 have hEk := FX.ek
 obtain ⟨hb0, hb1, hll, hdl, hel⟩ := FX.ok
 have HG := V.Fr.refl [] w
 refine V.enter (n := 16) Try.func32 rfl rfl (by decide) rfl ?_
 refine V.seq ?_
 refine V.region ?_
 refine V.alloc zero56 rfl rfl rfl ?_
 rintro k1 w3 s5 s6 G4 Fk2
 have z7 := V.Fr.size G4
 try replace FX := FX.gr G4
 replace HG := HG.grow G4
 clear G4
 try simp only [V.cellsL, V.spliceL] at Fk2
 refine V.nil ?_
 refine V.tN ?_
 refine V.seq ?_
 refine V.region ?_
 refine V.run T_ok 1 rfl ?_
 refine V.call (jbase_spec FX) rfl rfl rfl ?_
 rintro _ w11 ⟨a8, c9, rfl, F10, G12⟩
 have z13 := V.Fr.size G12
 try replace FX := FX.gr G12
 try replace Fk2 := Fk2.gr G12
 replace HG := HG.grow G12
 clear G12
 refine V.run T_ok 5 rfl ?_
 refine V.nil ?_
 refine V.tN ?_
 refine V.seq ?_
 refine V.drawGT 5 (V.sel [(4, (fun v wz => ∃ (ra65 : Option Addr) (rc65 : Nat), v = .slice ra65 jv.l.length rc65 ∧ V.Row V.Cod.byte.sl 22 wz V.None' w11.heap.size wz.heap.size ra65 rc65 jv.l))]) mixed (by kernel_rfl) (V.mono_cons (by rintro v wz wz' g ⟨ra65, rc65, rfl, rF65⟩; exact ⟨ra65, rc65, rfl, (by first | exact (rF65.gr g).mono (V.In.sub (Nat.le_refl _) g.size) | exact rF65.gr g | exact (rF65.gr g).mono (fun _ h => h) (Nat.le_refl _) g.size | exact (rF65.gr g).mono (fun k h => ⟨h.1, Nat.lt_of_lt_of_le h.2 g.size⟩))⟩) V.mono_nil) ?_
 refine V.grun T_ok 2 rfl (V.sel_none rfl) ?_
 refine V.gtoStr (fun w' h => F10.sl.gr h.1) Try.underlying22 Try.underlying5 Try.underlying9 rfl rfl rfl rfl rfl ?_
 refine V.grun T_ok 1 rfl (V.sel_none rfl) ?_
 refine V.gcall (fun w' h => (jrec_spec (FX.gr h.1)).mono (by rintro v w'' ⟨ra65, rc65, rfl, rF65, G⟩; exact ⟨⟨ra65, rc65, rfl, (by first | exact rF65.mono (V.In.mono_l h.1.size) | exact rF65 | exact rF65.mono (fun _ h => h) h.1.size (Nat.le_refl _))⟩, G⟩)) rfl rfl rfl rfl ?_
 rintro _ w17 - - ⟨a14, c15, rfl, -⟩
 refine V.gnil ?_
 rintro w18 G19 hH20
 have z21 := V.Fr.size G19
 try replace FX := FX.gr G19
 try replace Fk2 := Fk2.gr G19
 try replace F10 := F10.gr G19
 replace HG := HG.grow G19
 clear G19
 have F16 : V.Row V.Cod.byte.sl 22 w18 V.None' w11.heap.size w18.heap.size a14 c15 jv.l := by
   obtain ⟨_, _, he, F0⟩ := (V.Hist.here (hH20 4))
   cases he
   exact F0
 clear hH20
 refine V.mkStruct T_ok zero56 rfl rfl rfl rfl rfl ?_
 refine V.storeO Fk2 rfl rfl rfl rfl sz56 rfl rfl rfl rfl ?_
 rintro w22 G23 z25 Fs24
 clear Fk2
 have z26 := V.Fr.size G23
 first | replace FX := FX.mv1 G23 (by (try dsimp only [V.In]); first | omega | grind) | clear FX | skip
 try replace F10 := F10.ma G23
 try replace F16 := F16.ma G23
 replace HG := HG.n1 G23
 clear G23
 have Fk2 := Fs24; clear Fs24
 simp only [V.spliceL, V.cellsL] at Fk2
 refine V.nil ?_
 refine V.tN ?_
 refine V.ret ?_
 refine V.done1 rfl (V.resV_cell T_ok Fk2 rfl rfl) ?_
 exact ⟨a14, c15, (by first | rfl | simp only [List.length_set]), F16.re, HG⟩

theorem seen_j {w : World} {k kd : Nat} {EJ : Nat → Prop} {jv : JV} {dv : DiskV} (FJ : Jst w k kd EJ jv dv)   :
    Meets Try.prog 32 [.pointer (some ⟨k, 0, none⟩)] w fun r w' => ∃ (ra74 : Option Addr) (rc74 : Nat), r = .agg #[.int .i64 jv.base, .string (V.S jv.data), .slice ra74 jv.l.length rc74] ∧ V.Row V.Cod.byte.sl 22 w' V.None' w.heap.size w'.heap.size ra74 rc74 jv.l ∧ Gr w w' := by
  obtain ⟨E, D, FX, -⟩ := FJ.ex
  exact seen_spec FX

set_option maxHeartbeats 900000 in
set_option maxRecDepth 10000 in
theorem was_spec {w : World}  {b1 : Int} {s1 : ByteArray} {D_l1 : Nat → Prop} {c_l1 : Nat} {a_l1 : Option Addr} {l1 : List (List UInt8)} (F_l1 : Sl V.Cod.byte.sl w D_l1 a_l1 c_l1 l1) {b2 : Int} {s2 : ByteArray} {D_l2 : Nat → Prop} {c_l2 : Nat} {a_l2 : Option Addr} {l2 : List (List UInt8)} (F_l2 : Sl V.Cod.byte.sl w D_l2 a_l2 c_l2 l2)  :
    Meets Try.prog 34 [.agg #[.int .i64 b1, .string s1, .slice a_l1 l1.length c_l1], .agg #[.int .i64 b2, .string s2, .slice a_l2 l2.length c_l2]] w fun r w' => r = .bool (decide (l1 = l2 ∧ b1 = b2 ∧ s1 = s2)) ∧ Gr w w' := by
 have HG := V.Fr.refl [] w
 refine V.enter (n := 26) Try.func34 rfl rfl (by decide) rfl ?_
 refine V.seq ?_
 refine V.region ?_
 refine V.box rfl rfl rfl rfl ?_
 rintro k1 w3 s5 s6 G4 Fk2
 have z7 := V.Fr.size G4
 try replace F_l1 := F_l1.gr G4
 try replace F_l2 := F_l2.gr G4
 replace HG := HG.grow G4
 clear G4
 try simp only [V.cellsL, V.spliceL] at Fk2
 refine V.box rfl rfl rfl rfl ?_
 rintro k8 w10 s12 s13 G11 Fk9
 have z14 := V.Fr.size G11
 try replace F_l1 := F_l1.gr G11
 try replace F_l2 := F_l2.gr G11
 try replace Fk2 := Fk2.gr G11
 replace HG := HG.grow G11
 clear G11
 try simp only [V.cellsL, V.spliceL] at Fk9
 refine V.run T_ok 1 rfl ?_
 refine V.nil ?_
 refine V.tN ?_
 refine V.seq ?_
 refine V.region ?_
 refine V.run T_ok 1 rfl ?_
 refine V.loadO T_ok Fk2 rfl rfl rfl rfl rfl ?_
 refine V.run T_ok 1 rfl ?_
 refine V.loadO T_ok Fk9 rfl rfl rfl rfl rfl ?_
 refine V.call (rsameL_spec F_l1 F_l2) rfl rfl rfl ?_
 rintro _ w10_ ⟨rfl, G16⟩
 have z17 := V.Fr.size G16
 try replace F_l1 := F_l1.gr G16
 try replace F_l2 := F_l2.gr G16
 try replace Fk2 := Fk2.gr G16
 try replace Fk9 := Fk9.gr G16
 replace HG := HG.grow G16
 clear G16
 refine V.run T_ok 1 rfl ?_
 refine V.nil ?_
 refine V.tN ?_
 refine V.seq ?_
 refine V.region ?_
 refine V.run T_ok 2 rfl ?_
 refine V.split (j := 1) (t := 12) rfl rfl (fun g2_1 => ?_) (fun g2_1 => ?_)
 ·
  try replace g2_1 := V.dec g2_1
  try simp only [V.mk0, V.mk1, V.mk2, V.mk3] at g2_1
  refine V.run T_ok 1 rfl ?_
  refine V.yes rfl rfl rfl ?_
  refine V.loadO T_ok Fk2 rfl rfl rfl rfl rfl ?_
  refine V.run T_ok 1 rfl ?_
  refine V.yes rfl rfl rfl ?_
  refine V.loadO T_ok Fk9 rfl rfl rfl rfl rfl ?_
  refine V.run T_ok 3 rfl ?_
  refine V.split (j := 8) (t := 19) rfl rfl (fun g2_8 => ?_) (fun g2_8 => ?_)
  ·
   try replace g2_8 := V.dec g2_8
   try simp only [V.mk0, V.mk1, V.mk2, V.mk3] at g2_8
   refine V.run T_ok 1 rfl ?_
   refine V.yes rfl rfl rfl ?_
   refine V.loadO T_ok Fk2 rfl rfl rfl rfl rfl ?_
   refine V.run T_ok 1 rfl ?_
   refine V.yes rfl rfl rfl ?_
   refine V.loadO T_ok Fk9 rfl rfl rfl rfl rfl ?_
   refine V.run T_ok 3 rfl ?_
   refine V.nil ?_
   refine V.tN ?_
   refine V.ret ?_
   refine V.done rfl ?_
   exact ⟨(congrArg Value.bool (by first | rfl | grind)), HG⟩
  ·
   try replace g2_8 := V.dec g2_8
   try simp only [V.mk0, V.mk1, V.mk2, V.mk3] at g2_8
   refine V.run T_ok 7 rfl ?_
   refine V.nil ?_
   refine V.tN ?_
   refine V.ret ?_
   refine V.done rfl ?_
   exact ⟨(congrArg Value.bool (by first | rfl | grind)), HG⟩
 ·
  try replace g2_1 := V.dec g2_1
  try simp only [V.mk0, V.mk1, V.mk2, V.mk3] at g2_1
  refine V.run T_ok 14 rfl ?_
  refine V.nil ?_
  refine V.tN ?_
  refine V.ret ?_
  refine V.done rfl ?_
  exact ⟨(congrArg Value.bool (by first | rfl | grind)), HG⟩

set_option maxHeartbeats 900000 in
set_option maxRecDepth 10000 in
theorem journalAgain_walk {w : World}  {D_xs : Nat → Prop} {c_xs : Nat} {a_xs : Option Addr} {xs : List (Int × Int × Int × List UInt8 × Bool × Bool)} (F_xs : Sl (V.Cod.pair (V.Cod.int .i64) (V.Cod.pair (V.Cod.int .i64) (V.Cod.pair (V.Cod.int .i64) (V.Cod.pair V.Cod.byte.sl (V.Cod.pair V.Cod.bool V.Cod.bool))))) w D_xs a_xs c_xs xs) (hD_xs : ∀ k, D_xs k → k < w.heap.size)  :
    Meets Try.prog 8 [.slice a_xs xs.length c_xs] w fun r w' => r = .bool true ∧ Gr w w' := by
 have hsy0 := Sy.new
 have HG := V.Fr.refl [] w
 refine V.enter (n := 179) Try.func8 rfl rfl (by decide) rfl ?_
 refine V.seq ?_
 refine V.region ?_
 refine V.run T_ok 1 rfl ?_
 refine V.nil ?_
 refine V.tN ?_
 refine V.seq ?_
 refine V.region ?_
 refine V.call (dk_new) rfl rfl rfl ?_
 rintro _ w4 ⟨k1, rfl, ⟨h2l, h2u⟩, F3, G5⟩
 have z6 := V.Fr.size G5
 try replace F_xs := F_xs.gr G5
 replace HG := HG.grow G5
 clear G5
 refine V.run T_ok 1 rfl ?_
 refine V.nil ?_
 refine V.tN ?_
 refine V.seq ?_
 refine V.region ?_
 refine V.call (dk_new) rfl rfl rfl ?_
 rintro _ w10 ⟨k7, rfl, ⟨h8l, h8u⟩, F9, G11⟩
 have z12 := V.Fr.size G11
 try replace F_xs := F_xs.gr G11
 try replace F3 := F3.gr G11
 replace HG := HG.grow G11
 clear G11
 refine V.run T_ok 1 rfl ?_
 refine V.nil ?_
 refine V.tN ?_
 refine V.seq ?_
 refine V.region ?_
 refine V.run T_ok 1 rfl ?_
 refine V.call (open_sy F3 hsy0 (Nat.zero_le _)) rfl rfl rfl ?_
 rintro _ w16 ⟨k13, rfl, ⟨h14l, h14u⟩, F15, G17⟩
 have z18 := V.Fr.size G17
 try replace F_xs := F_xs.mb G17 hD_xs
 first | replace F3 := F3.mv1 G17 (by (try dsimp only [V.In]); first | omega | grind) | clear F3 | skip
 first | replace F9 := F9.mv1 G17 (by (try dsimp only [V.In]); first | omega | grind) | clear F9 | skip
 replace HG := HG.n1 G17
 clear G17
 refine V.run T_ok 5 rfl ?_
 refine V.nil ?_
 refine V.tN ?_
 refine V.seq ?_
 refine V.region ?_
 refine V.run T_ok 1 rfl ?_
 refine V.call (open_sy F9 hsy0 (Nat.zero_le _)) rfl rfl rfl ?_
 rintro _ w22 ⟨k19, rfl, ⟨h20l, h20u⟩, F21, G23⟩
 have z24 := V.Fr.size G23
 try replace F_xs := F_xs.mb G23 hD_xs
 first | replace F9 := F9.mv1 G23 (by (try dsimp only [V.In]); first | omega | grind) | clear F9 | skip
 first | replace F15 := F15.mv1 G23 (by (try dsimp only [V.In]); first | omega | grind) | clear F15 | skip
 replace HG := HG.n1 G23
 clear G23
 refine V.run T_ok 5 rfl ?_
 refine V.nil ?_
 refine V.tN ?_
 refine V.seq ?_
 refine V.seq ?_
 refine V.region ?_
 refine V.call (alive_spec) rfl rfl rfl ?_
 rintro _ w25 ⟨rfl, G26⟩
 have z27 := V.Fr.size G26
 try replace F_xs := F_xs.gr G26
 try replace F15 := F15.gr G26
 try replace F21 := F21.gr G26
 replace HG := HG.grow G26
 clear G26
 refine V.run T_ok 17 rfl ?_
 refine V.nil ?_
 refine V.tN ?_
 refine V.condN rfl rfl ?_
 refine V.skip ?_
 refine V.tN ?_
 refine V.seq ?_
 refine V.seq ?_
 refine V.region ?_
 refine V.run T_ok 1 rfl ?_
 refine V.nil ?_
 refine V.tN ?_
 refine V.block ?_
 have FJ1 := F15; clear F15
 have FJ2 := F21; clear F21
 have hl63 := F_xs.len63
 refine V.loopM (fun m e v29 => Fr [] w v29 ∧ w25.heap.size ≤ v29.heap.size ∧ Sl (V.Cod.pair (V.Cod.int .i64) (V.Cod.pair (V.Cod.int .i64) (V.Cod.pair (V.Cod.int .i64) (V.Cod.pair V.Cod.byte.sl (V.Cod.pair V.Cod.bool V.Cod.bool))))) v29 D_xs a_xs c_xs xs ∧ ∃ (i : Nat) (jv : JV) (dv cv : DiskV) (lf : List (List UInt8)) (E1 E2 : Nat → Prop) , m = xs.length - i ∧ i ≤ xs.length ∧ i ≤ 60 ∧ Sy jv dv lf ∧ Tw dv cv ∧ dv.nf.length ≤ 300 * i ∧ jv.l.length ≤ i ∧ (∀ x, E1 x → w.heap.size ≤ x) ∧ (∀ x, E2 x → w.heap.size ≤ x) ∧ (∀ x, E1 x → ¬ E2 x) ∧ Jst v29 k13 k1 E1 jv dv ∧ Jst v29 k19 k7 E2 jv cv ∧ e 0 = .slice a_xs xs.length c_xs ∧ e 3 = .pointer (some ⟨k1, 0, none⟩) ∧ e 4 = .pointer (some ⟨k7, 0, none⟩) ∧ e 5 = .pointer (some ⟨k13, 0, none⟩) ∧ e 7 = .pointer (some ⟨k19, 0, none⟩) ∧ e 9 = .int .i64 (i : Int)) ?_ ?_
 ·
  exact ⟨_, HG, (by omega), F_xs, (0), ((⟨0, [], [], 0, 0, 0⟩ : JV)), ((⟨[], [], [], []⟩)), ((⟨[], [], [], []⟩)), ([]), ((fun i => ((fun i => V.In w.heap.size w4.heap.size i ∧ i ≠ k1) i ∨ i = k1) ∨ V.In w10.heap.size w16.heap.size i)), ((fun i => ((fun i => V.In w4.heap.size w10.heap.size i ∧ i ≠ k7) i ∨ i = k7) ∨ V.In w16.heap.size w22.heap.size i)), rfl, (Nat.zero_le _), (Nat.zero_le _), (hsy0), (⟨rfl, rfl⟩), (Nat.zero_le _), (Nat.zero_le _), ((by intro i h; (try dsimp only [V.In] at h ⊢); first | omega | grind)), ((by intro i h; (try dsimp only [V.In] at h ⊢); first | omega | grind)), ((by intro i h hd; (try dsimp only [V.In] at h hd ⊢); first | omega | grind)), FJ1, FJ2, rfl, rfl, rfl, rfl, rfl, rfl⟩
 clear HG F_xs FJ1 FJ2
 rintro _ e v29 ⟨HG, z30, F_xs, i, jv, dv, cv, lf, E1, E2, rfl, hi, hi60, hsy, htw, hnf, hjl, hE1, hE2, hE12, FJ1, FJ2, he0_0, he0_3, he0_4, he0_5, he0_7, he0_9⟩
 have hEl1 := FJ1.lt
 have hEl2 := FJ2.lt
 refine V.knownC (t := 0) he0_0 ?_
 refine V.knownC (t := 3) he0_3 ?_
 refine V.knownC (t := 4) he0_4 ?_
 refine V.knownC (t := 5) he0_5 ?_
 refine V.knownC (t := 7) he0_7 ?_
 refine V.knownC (t := 9) he0_9 ?_
 refine V.seq ?_
 refine V.seq ?_
 refine V.region ?_
 refine V.run T_ok 5 rfl ?_
 refine V.andG T_ok 2 4 50 rfl rfl rfl rfl rfl rfl rfl rfl ?_
 refine V.nil ?_
 refine V.tN ?_
 refine V.condT rfl (fun h8 => ?_) (fun h8 => ?_)
 ·
  try replace h8 := V.dec h8
  try simp only [V.mk0, V.mk1, V.mk2, V.mk3] at h8
  refine V.skip ?_
  refine V.tN ?_
  refine V.seq ?_
  refine V.block ?_
  refine V.seq ?_
  refine V.region ?_
  refine V.run T_ok 2 rfl ?_
  refine V.elem T_ok F_xs rfl rfl sz42 rfl rfl rfl rfl (by first | omega | (simp only [List.length_take, List.length_drop, List.length_append, List.length_cons, List.length_nil, List.length_replicate, List.length_set, V.length_data, V.S_size]; omega)) (by first | omega | (simp only [List.length_take, List.length_drop, List.length_append, List.length_cons, List.length_nil, List.length_replicate, List.length_set, V.length_data, V.S_size]; omega)) ?_
  rintro b31 o32 cs33 hx34 hb35 hR41 hA36
  obtain ⟨x37, hx37⟩ : ∃ z', xs[((i : Int)).toNat] = z' := ⟨_, rfl⟩
  rw [hx37] at hR41
  obtain ⟨_, _, rfl, rfl, ⟨_, _, rfl, rfl, ⟨_, _, rfl, rfl, ⟨_, _, rfl, ⟨a38, c39, rfl, F40⟩, ⟨_, _, rfl, rfl, rfl⟩⟩⟩⟩⟩ := hR41
  try simp only [Int.toNat_natCast] at hx37 hx34
  refine V.loadA T_ok (o0 := o32) (off := 0) hA36 rfl rfl rfl rfl rfl ?_
  refine V.alloc zero42 rfl rfl rfl ?_
  rintro k42 w44 s46 s47 G45 Fk43
  have z48 := V.Fr.size G45
  try replace F_xs := F_xs.gr G45
  try replace FJ1 := FJ1.gr G45
  try replace FJ2 := FJ2.gr G45
  try replace F40 := F40.gr G45
  replace HG := HG.grow G45
  clear G45
  try simp only [V.cellsL, V.spliceL] at Fk43
  refine V.storeO Fk43 rfl rfl rfl rfl sz42 rfl rfl rfl rfl ?_
  rintro w49 G50 z52 Fs51
  clear Fk43
  have z53 := V.Fr.size G50
  try replace F_xs := F_xs.mb G50 hD_xs
  first | replace FJ1 := FJ1.mv1 G50 (by (try dsimp only [V.In]); first | omega | grind) | clear FJ1 | skip
  first | replace FJ2 := FJ2.mv1 G50 (by (try dsimp only [V.In]); first | omega | grind) | clear FJ2 | skip
  try replace F40 := F40.mb G50 hD_xs
  replace HG := HG.n1 G50
  clear G50
  have Fk43 := Fs51; clear Fs51
  simp only [V.spliceL, V.cellsL] at Fk43
  refine V.nil ?_
  refine V.tN ?_
  refine V.seq ?_
  refine V.seq ?_
  refine V.region ?_
  refine V.run T_ok 1 rfl ?_
  refine V.loadO T_ok Fk43 rfl rfl rfl rfl rfl ?_
  refine V.run T_ok 2 rfl ?_
  refine V.nil ?_
  refine V.tN ?_
  refine V.condT rfl (fun h11 => ?_) (fun h11 => ?_)
  ·
   try replace h11 := V.dec h11
   try simp only [V.mk0, V.mk1, V.mk2, V.mk3] at h11
   refine V.exit ?_
   refine V.tX ?_
   refine V.bE ?_
   refine V.tN ?_
   refine V.region ?_
   refine V.run T_ok 1 rfl ?_
   refine V.addN rfl rfl rfl rfl rfl (by first | omega | (simp only [List.length_take, List.length_drop, List.length_append, List.length_cons, List.length_nil, List.length_replicate, List.length_set, V.length_data, V.S_size]; omega)) (by first | omega | (simp only [List.length_take, List.length_drop, List.length_append, List.length_cons, List.length_nil, List.length_replicate, List.length_set, V.length_data, V.S_size]; omega)) ?_
   refine V.run T_ok 1 rfl ?_
   refine V.nil ?_
   refine V.tN ?_
   exact ⟨_, (by omega), HG, (by omega), F_xs, (i + 1), (jv), (dv), (cv), (lf), (E1), (E2), rfl, (by omega), (by omega), (hsy), (htw), (by omega), (by omega), (hE1), (hE2), (hE12), FJ1, FJ2, rfl, rfl, rfl, rfl, rfl, rfl⟩
  ·
   try replace h11 := V.dec h11
   try simp only [V.mk0, V.mk1, V.mk2, V.mk3] at h11
   refine V.skip ?_
   refine V.tN ?_
   refine V.seqJ (fun e v55 => Fr [] w v55 ∧ w49.heap.size ≤ v55.heap.size ∧ Sl (V.Cod.pair (V.Cod.int .i64) (V.Cod.pair (V.Cod.int .i64) (V.Cod.pair (V.Cod.int .i64) (V.Cod.pair V.Cod.byte.sl (V.Cod.pair V.Cod.bool V.Cod.bool))))) v55 D_xs a_xs c_xs xs ∧ Sl V.Cod.byte v55 D_xs a38 c39 x37.2.2.2.1 ∧ Cells v55 k42 [.int .i64 x37.1, .int .i64 x37.2.1, .int .i64 x37.2.2.1, .slice a38 x37.2.2.2.1.length c39, .bool x37.2.2.2.2.1, .bool x37.2.2.2.2.2] 42 ∧ ∃ (jv2 : JV) (dv2 cv2 : DiskV) (lf2 : List (List UInt8)) (E3 E4 : Nat → Prop), Sy jv2 dv2 lf2 ∧ Tw dv2 cv2 ∧ dv2.nf.length ≤ dv.nf.length + 300 ∧ jv2.l.length ≤ jv.l.length + 1 ∧ (∀ x, E3 x → w.heap.size ≤ x) ∧ (∀ x, E4 x → w.heap.size ≤ x) ∧ (∀ x, E3 x → ¬ E4 x) ∧ Jst v55 k13 k1 E3 jv2 dv2 ∧ Jst v55 k19 k7 E4 jv2 cv2 ∧ e 0 = .slice a_xs xs.length c_xs ∧ e 3 = .pointer (some ⟨k1, 0, none⟩) ∧ e 4 = .pointer (some ⟨k7, 0, none⟩) ∧ e 5 = .pointer (some ⟨k13, 0, none⟩) ∧ e 7 = .pointer (some ⟨k19, 0, none⟩) ∧ e 9 = .int .i64 (i : Int) ∧ True) ?_ ?_
   ·
    refine V.seq ?_
    refine V.region ?_
    refine V.run T_ok 1 rfl ?_
    refine V.loadO T_ok Fk43 rfl rfl rfl rfl rfl ?_
    refine V.nil ?_
    refine V.tN ?_
    refine V.block ?_
    refine V.seq ?_
    refine V.region ?_
    refine V.run T_ok 2 rfl ?_
    refine V.nil ?_
    refine V.tN ?_
    refine V.condT rfl (fun h13 => ?_) (fun h13 => ?_)
    ·
     try replace h13 := V.dec h13
     try simp only [V.mk0, V.mk1, V.mk2, V.mk3] at h13
     refine V.seq ?_
     refine V.region ?_
     refine V.run T_ok 2 rfl ?_
     refine V.loadO T_ok Fk43 rfl rfl rfl rfl rfl ?_
     refine V.call (jappend_spec FJ1 F40 (fun k hk => by have := hD_xs k hk; omega) (by first | assumption | omega | decide | (dsimp only; omega) | (simp only [List.length_append, List.length_take, List.length_cons, List.length_nil]; omega))) rfl rfl rfl ?_
     rintro _ w57 ⟨rfl, F56, G58⟩
     have z59 := V.FrE.size G58
     first | replace F_xs := F_xs.mvE G58 (by intro j h hd; (try dsimp only [V.In] at h hd ⊢); first | omega | grind) | clear F_xs | skip
     first | replace FJ1 := FJ1.mvE G58 (by intro j h hd; (try dsimp only [V.In] at h hd ⊢); first | omega | grind) | clear FJ1 | skip
     first | replace FJ2 := FJ2.mvE G58 (by intro j h hd; (try dsimp only [V.In] at h hd ⊢); first | omega | grind) | clear FJ2 | skip
     first | replace F40 := F40.mvE G58 (by intro j h hd; (try dsimp only [V.In] at h hd ⊢); first | omega | grind) | clear F40 | skip
     first | replace Fk43 := Fk43.mvE G58 (by (try dsimp only [V.In]); first | omega | grind) | clear Fk43 | skip
     replace HG := HG.stepE G58 (by intro i h; (try dsimp only [V.In] at h ⊢); first | omega | grind)
     clear G58
     refine V.nil ?_
     refine V.tN ?_
     refine V.region ?_
     refine V.run T_ok 2 rfl ?_
     refine V.loadO T_ok Fk43 rfl rfl rfl rfl rfl ?_
     refine V.call (jappend_spec FJ2 F40 (fun k hk => by have := hD_xs k hk; omega) (by first | assumption | omega | decide | (dsimp only; omega) | (simp only [List.length_append, List.length_take, List.length_cons, List.length_nil]; omega))) rfl rfl rfl ?_
     rintro _ w61 ⟨rfl, F60, G62⟩
     have z63 := V.FrE.size G62
     first | replace F_xs := F_xs.mvE G62 (by intro j h hd; (try dsimp only [V.In] at h hd ⊢); first | omega | grind) | clear F_xs | skip
     first | replace FJ2 := FJ2.mvE G62 (by intro j h hd; (try dsimp only [V.In] at h hd ⊢); first | omega | grind) | clear FJ2 | skip
     first | replace F40 := F40.mvE G62 (by intro j h hd; (try dsimp only [V.In] at h hd ⊢); first | omega | grind) | clear F40 | skip
     first | replace Fk43 := Fk43.mvE G62 (by (try dsimp only [V.In]); first | omega | grind) | clear Fk43 | skip
     first | replace F56 := F56.mvE G62 (by intro j h hd; (try dsimp only [V.In] at h hd ⊢); first | omega | grind) | clear F56 | skip
     replace HG := HG.stepE G62 (by intro i h; (try dsimp only [V.In] at h ⊢); first | omega | grind)
     clear G62
     refine V.nil ?_
     refine V.bN ?_
     refine V.tN ?_
     obtain ⟨lf9, hst9⟩ := hsy.appS (b := x37.2.2.2.1) (by omega) (by omega)
     have htw9 := htw.app (j := jv) x37.2.2.2.1
     rw [← htw9.1] at F60
     exact ⟨HG, (by omega), F_xs, F40, Fk43, (_), (_), (_), (_), ((fun i => E1 i ∨ V.In w49.heap.size w57.heap.size i)), ((fun i => E2 i ∨ V.In w57.heap.size w61.heap.size i)), (hst9.sy), (htw9.2), (hst9.nf), (hst9.ll), ((by intro i h; (try dsimp only [V.In] at h ⊢); first | omega | grind)), ((by intro i h; (try dsimp only [V.In] at h ⊢); first | omega | grind)), ((by intro i h hd; (try dsimp only [V.In] at h hd ⊢); first | omega | grind)), F56, F60, rfl, rfl, rfl, rfl, rfl, rfl, trivial⟩
    ·
     try replace h13 := V.dec h13
     try simp only [V.mk0, V.mk1, V.mk2, V.mk3] at h13
     refine V.seq ?_
     refine V.region ?_
     refine V.run T_ok 2 rfl ?_
     refine V.nil ?_
     refine V.tN ?_
     refine V.condT rfl (fun h16 => ?_) (fun h16 => ?_)
     ·
      try replace h16 := V.dec h16
      try simp only [V.mk0, V.mk1, V.mk2, V.mk3] at h16
      refine V.seq ?_
      refine V.region ?_
      refine V.run T_ok 2 rfl ?_
      refine V.loadO T_ok Fk43 rfl rfl rfl rfl rfl ?_
      refine V.call (jcut_spec (n := x37.2.1) FJ1 (by first | assumption | omega | decide | (dsimp only; omega) | (simp only [List.length_append, List.length_take, List.length_cons, List.length_nil]; omega))) rfl rfl rfl ?_
      rintro _ w65 ⟨rfl, F64, G66⟩
      have z67 := V.FrE.size G66
      first | replace F_xs := F_xs.mvE G66 (by intro j h hd; (try dsimp only [V.In] at h hd ⊢); first | omega | grind) | clear F_xs | skip
      first | replace FJ1 := FJ1.mvE G66 (by intro j h hd; (try dsimp only [V.In] at h hd ⊢); first | omega | grind) | clear FJ1 | skip
      first | replace FJ2 := FJ2.mvE G66 (by intro j h hd; (try dsimp only [V.In] at h hd ⊢); first | omega | grind) | clear FJ2 | skip
      first | replace F40 := F40.mvE G66 (by intro j h hd; (try dsimp only [V.In] at h hd ⊢); first | omega | grind) | clear F40 | skip
      first | replace Fk43 := Fk43.mvE G66 (by (try dsimp only [V.In]); first | omega | grind) | clear Fk43 | skip
      replace HG := HG.stepE G66 (by intro i h; (try dsimp only [V.In] at h ⊢); first | omega | grind)
      clear G66
      refine V.nil ?_
      refine V.tN ?_
      refine V.region ?_
      refine V.run T_ok 2 rfl ?_
      refine V.loadO T_ok Fk43 rfl rfl rfl rfl rfl ?_
      refine V.call (jcut_spec (n := x37.2.1) FJ2 (by first | assumption | omega | decide | (dsimp only; omega) | (simp only [List.length_append, List.length_take, List.length_cons, List.length_nil]; omega))) rfl rfl rfl ?_
      rintro _ w69 ⟨rfl, F68, G70⟩
      have z71 := V.FrE.size G70
      first | replace F_xs := F_xs.mvE G70 (by intro j h hd; (try dsimp only [V.In] at h hd ⊢); first | omega | grind) | clear F_xs | skip
      first | replace FJ2 := FJ2.mvE G70 (by intro j h hd; (try dsimp only [V.In] at h hd ⊢); first | omega | grind) | clear FJ2 | skip
      first | replace F40 := F40.mvE G70 (by intro j h hd; (try dsimp only [V.In] at h hd ⊢); first | omega | grind) | clear F40 | skip
      first | replace Fk43 := Fk43.mvE G70 (by (try dsimp only [V.In]); first | omega | grind) | clear Fk43 | skip
      first | replace F64 := F64.mvE G70 (by intro j h hd; (try dsimp only [V.In] at h hd ⊢); first | omega | grind) | clear F64 | skip
      replace HG := HG.stepE G70 (by intro i h; (try dsimp only [V.In] at h ⊢); first | omega | grind)
      clear G70
      refine V.nil ?_
      refine V.bN ?_
      refine V.tN ?_
      obtain ⟨lf9, hst9⟩ := hsy.cutS x37.2.1 (by omega) (by omega)
      have htw9 := htw.cut (j := jv) x37.2.1
      rw [← htw9.1] at F68
      exact ⟨HG, (by omega), F_xs, F40, Fk43, (_), (_), (_), (_), ((fun i => E1 i ∨ V.In w49.heap.size w65.heap.size i)), ((fun i => E2 i ∨ V.In w65.heap.size w69.heap.size i)), (hst9.sy), (htw9.2), (hst9.nf), (hst9.ll), ((by intro i h; (try dsimp only [V.In] at h ⊢); first | omega | grind)), ((by intro i h; (try dsimp only [V.In] at h ⊢); first | omega | grind)), ((by intro i h hd; (try dsimp only [V.In] at h hd ⊢); first | omega | grind)), F64, F68, rfl, rfl, rfl, rfl, rfl, rfl, trivial⟩
     ·
      try replace h16 := V.dec h16
      try simp only [V.mk0, V.mk1, V.mk2, V.mk3] at h16
      refine V.seq ?_
      refine V.region ?_
      refine V.run T_ok 2 rfl ?_
      refine V.nil ?_
      refine V.tN ?_
      refine V.condT rfl (fun h19 => ?_) (fun h19 => ?_)
      ·
       try replace h19 := V.dec h19
       try simp only [V.mk0, V.mk1, V.mk2, V.mk3] at h19
       refine V.seq ?_
       refine V.region ?_
       refine V.run T_ok 2 rfl ?_
       refine V.loadO T_ok Fk43 rfl rfl rfl rfl rfl ?_
       refine V.run T_ok 1 rfl ?_
       refine V.loadO T_ok Fk43 rfl rfl rfl rfl rfl ?_
       refine V.call (jreb_spec (n := x37.2.1) FJ1 F40 (fun k hk => by have := hD_xs k hk; omega) (by first | assumption | omega | decide | (dsimp only; omega) | (simp only [List.length_append, List.length_take, List.length_cons, List.length_nil]; omega))) rfl rfl rfl ?_
       rintro _ w73 ⟨rfl, F72, G74⟩
       have z75 := V.FrE.size G74
       first | replace F_xs := F_xs.mvE G74 (by intro j h hd; (try dsimp only [V.In] at h hd ⊢); first | omega | grind) | clear F_xs | skip
       first | replace FJ1 := FJ1.mvE G74 (by intro j h hd; (try dsimp only [V.In] at h hd ⊢); first | omega | grind) | clear FJ1 | skip
       first | replace FJ2 := FJ2.mvE G74 (by intro j h hd; (try dsimp only [V.In] at h hd ⊢); first | omega | grind) | clear FJ2 | skip
       first | replace F40 := F40.mvE G74 (by intro j h hd; (try dsimp only [V.In] at h hd ⊢); first | omega | grind) | clear F40 | skip
       first | replace Fk43 := Fk43.mvE G74 (by (try dsimp only [V.In]); first | omega | grind) | clear Fk43 | skip
       replace HG := HG.stepE G74 (by intro i h; (try dsimp only [V.In] at h ⊢); first | omega | grind)
       clear G74
       refine V.nil ?_
       refine V.tN ?_
       refine V.region ?_
       refine V.run T_ok 2 rfl ?_
       refine V.loadO T_ok Fk43 rfl rfl rfl rfl rfl ?_
       refine V.run T_ok 1 rfl ?_
       refine V.loadO T_ok Fk43 rfl rfl rfl rfl rfl ?_
       refine V.call (jreb_spec (n := x37.2.1) FJ2 F40 (fun k hk => by have := hD_xs k hk; omega) (by first | assumption | omega | decide | (dsimp only; omega) | (simp only [List.length_append, List.length_take, List.length_cons, List.length_nil]; omega))) rfl rfl rfl ?_
       rintro _ w77 ⟨rfl, F76, G78⟩
       have z79 := V.FrE.size G78
       first | replace F_xs := F_xs.mvE G78 (by intro j h hd; (try dsimp only [V.In] at h hd ⊢); first | omega | grind) | clear F_xs | skip
       first | replace FJ2 := FJ2.mvE G78 (by intro j h hd; (try dsimp only [V.In] at h hd ⊢); first | omega | grind) | clear FJ2 | skip
       first | replace F40 := F40.mvE G78 (by intro j h hd; (try dsimp only [V.In] at h hd ⊢); first | omega | grind) | clear F40 | skip
       first | replace Fk43 := Fk43.mvE G78 (by (try dsimp only [V.In]); first | omega | grind) | clear Fk43 | skip
       first | replace F72 := F72.mvE G78 (by intro j h hd; (try dsimp only [V.In] at h hd ⊢); first | omega | grind) | clear F72 | skip
       replace HG := HG.stepE G78 (by intro i h; (try dsimp only [V.In] at h ⊢); first | omega | grind)
       clear G78
       refine V.nil ?_
       refine V.bN ?_
       refine V.tN ?_
       obtain ⟨lf9, hst9⟩ := hsy.rebS (b := x37.2.2.2.1) x37.2.1 (by omega) (by omega)
       have htw9 := htw.reb (j := jv) x37.2.1 x37.2.2.2.1
       rw [← htw9.1] at F76
       exact ⟨HG, (by omega), F_xs, F40, Fk43, (_), (_), (_), (_), ((fun i => E1 i ∨ V.In w49.heap.size w73.heap.size i)), ((fun i => E2 i ∨ V.In w73.heap.size w77.heap.size i)), (hst9.sy), (htw9.2), (hst9.nf), (hst9.ll), ((by intro i h; (try dsimp only [V.In] at h ⊢); first | omega | grind)), ((by intro i h; (try dsimp only [V.In] at h ⊢); first | omega | grind)), ((by intro i h hd; (try dsimp only [V.In] at h hd ⊢); first | omega | grind)), F72, F76, rfl, rfl, rfl, rfl, rfl, rfl, trivial⟩
      ·
       try replace h19 := V.dec h19
       try simp only [V.mk0, V.mk1, V.mk2, V.mk3] at h19
       refine V.seq ?_
       refine V.region ?_
       refine V.run T_ok 2 rfl ?_
       refine V.nil ?_
       refine V.tN ?_
       refine V.condT rfl (fun h22 => ?_) (fun h22 => ?_)
       ·
        try replace h22 := V.dec h22
        try simp only [V.mk0, V.mk1, V.mk2, V.mk3] at h22
        refine V.seq ?_
        refine V.region ?_
        refine V.run T_ok 2 rfl ?_
        refine V.loadO T_ok Fk43 rfl rfl rfl rfl rfl ?_
        refine V.run T_ok 1 rfl ?_
        refine V.loadO T_ok Fk43 rfl rfl rfl rfl rfl ?_
        refine V.mkStruct T_ok zero47 rfl rfl rfl rfl rfl ?_
        refine V.call (jset_spec (n1 := x37.2.1) (n2 := x37.2.2.1) (n3 := 0) FJ1) rfl rfl rfl ?_
        rintro _ w81 ⟨rfl, F80, G82⟩
        have z83 := V.FrE.size G82
        first | replace F_xs := F_xs.mvE G82 (by intro j h hd; (try dsimp only [V.In] at h hd ⊢); first | omega | grind) | clear F_xs | skip
        first | replace FJ1 := FJ1.mvE G82 (by intro j h hd; (try dsimp only [V.In] at h hd ⊢); first | omega | grind) | clear FJ1 | skip
        first | replace FJ2 := FJ2.mvE G82 (by intro j h hd; (try dsimp only [V.In] at h hd ⊢); first | omega | grind) | clear FJ2 | skip
        first | replace F40 := F40.mvE G82 (by intro j h hd; (try dsimp only [V.In] at h hd ⊢); first | omega | grind) | clear F40 | skip
        first | replace Fk43 := Fk43.mvE G82 (by (try dsimp only [V.In]); first | omega | grind) | clear Fk43 | skip
        replace HG := HG.stepE G82 (by intro i h; (try dsimp only [V.In] at h ⊢); first | omega | grind)
        clear G82
        refine V.nil ?_
        refine V.tN ?_
        refine V.region ?_
        refine V.run T_ok 2 rfl ?_
        refine V.loadO T_ok Fk43 rfl rfl rfl rfl rfl ?_
        refine V.run T_ok 1 rfl ?_
        refine V.loadO T_ok Fk43 rfl rfl rfl rfl rfl ?_
        refine V.mkStruct T_ok zero47 rfl rfl rfl rfl rfl ?_
        refine V.call (jset_spec (n1 := x37.2.1) (n2 := x37.2.2.1) (n3 := 0) FJ2) rfl rfl rfl ?_
        rintro _ w85 ⟨rfl, F84, G86⟩
        have z87 := V.FrE.size G86
        first | replace F_xs := F_xs.mvE G86 (by intro j h hd; (try dsimp only [V.In] at h hd ⊢); first | omega | grind) | clear F_xs | skip
        first | replace FJ2 := FJ2.mvE G86 (by intro j h hd; (try dsimp only [V.In] at h hd ⊢); first | omega | grind) | clear FJ2 | skip
        first | replace F40 := F40.mvE G86 (by intro j h hd; (try dsimp only [V.In] at h hd ⊢); first | omega | grind) | clear F40 | skip
        first | replace Fk43 := Fk43.mvE G86 (by (try dsimp only [V.In]); first | omega | grind) | clear Fk43 | skip
        first | replace F80 := F80.mvE G86 (by intro j h hd; (try dsimp only [V.In] at h hd ⊢); first | omega | grind) | clear F80 | skip
        replace HG := HG.stepE G86 (by intro i h; (try dsimp only [V.In] at h ⊢); first | omega | grind)
        clear G86
        refine V.nil ?_
        refine V.bN ?_
        refine V.tN ?_
        have hst9 := hsy.setS x37.2.1 x37.2.2.1 0
        have htw9 := htw.set x37.2.1 x37.2.2.1 0
        exact ⟨HG, (by omega), F_xs, F40, Fk43, (_), (_), (_), (_), ((fun i => E1 i ∨ V.In w49.heap.size w81.heap.size i)), ((fun i => E2 i ∨ V.In w81.heap.size w85.heap.size i)), (hst9.sy), (htw9), (hst9.nf), (hst9.ll), ((by intro i h; (try dsimp only [V.In] at h ⊢); first | omega | grind)), ((by intro i h; (try dsimp only [V.In] at h ⊢); first | omega | grind)), ((by intro i h hd; (try dsimp only [V.In] at h hd ⊢); first | omega | grind)), F80, F84, rfl, rfl, rfl, rfl, rfl, rfl, trivial⟩
       ·
        try replace h22 := V.dec h22
        try simp only [V.mk0, V.mk1, V.mk2, V.mk3] at h22
        refine V.seq ?_
        refine V.region ?_
        refine V.run T_ok 2 rfl ?_
        refine V.nil ?_
        refine V.tN ?_
        refine V.condT rfl (fun h25 => ?_) (fun h25 => ?_)
        ·
         try replace h25 := V.dec h25
         try simp only [V.mk0, V.mk1, V.mk2, V.mk3] at h25
         refine V.region ?_
         refine V.run T_ok 1 rfl ?_
         refine V.call (jsync_spec FJ1) rfl rfl rfl ?_
         rintro _ w89 ⟨rfl, F88, G90⟩
         have z91 := V.FrE.size G90
         first | replace F_xs := F_xs.mvE G90 (by intro j h hd; (try dsimp only [V.In] at h hd ⊢); first | omega | grind) | clear F_xs | skip
         first | replace FJ1 := FJ1.mvE G90 (by intro j h hd; (try dsimp only [V.In] at h hd ⊢); first | omega | grind) | clear FJ1 | skip
         first | replace FJ2 := FJ2.mvE G90 (by intro j h hd; (try dsimp only [V.In] at h hd ⊢); first | omega | grind) | clear FJ2 | skip
         first | replace F40 := F40.mvE G90 (by intro j h hd; (try dsimp only [V.In] at h hd ⊢); first | omega | grind) | clear F40 | skip
         first | replace Fk43 := Fk43.mvE G90 (by (try dsimp only [V.In]); first | omega | grind) | clear Fk43 | skip
         replace HG := HG.stepE G90 (by intro i h; (try dsimp only [V.In] at h ⊢); first | omega | grind)
         clear G90
         refine V.nil ?_
         refine V.bN ?_
         refine V.tN ?_
         exact ⟨HG, (by omega), F_xs, F40, Fk43, (jv), (dSync dv), (cv), (lf), ((fun i => E1 i ∨ V.In w49.heap.size w89.heap.size i)), (E2), (hsy.sync), (htw), ((by show dv.nf.length ≤ _; omega)), (Nat.le_succ _), ((by intro i h; (try dsimp only [V.In] at h ⊢); first | omega | grind)), ((by intro i h; (try dsimp only [V.In] at h ⊢); first | omega | grind)), ((by intro i h hd; (try dsimp only [V.In] at h hd ⊢); first | omega | grind)), F88, FJ2, rfl, rfl, rfl, rfl, rfl, rfl, trivial⟩
        ·
         try replace h25 := V.dec h25
         try simp only [V.mk0, V.mk1, V.mk2, V.mk3] at h25
         refine V.skip ?_
         refine V.bN ?_
         refine V.tN ?_
         exact ⟨HG, (by omega), F_xs, F40, Fk43, (jv), (dv), (cv), (lf), (E1), (E2), (hsy), (htw), ((by omega)), (Nat.le_succ _), ((by intro i h; (try dsimp only [V.In] at h ⊢); first | omega | grind)), ((by intro i h; (try dsimp only [V.In] at h ⊢); first | omega | grind)), ((by intro i h hd; (try dsimp only [V.In] at h hd ⊢); first | omega | grind)), FJ1, FJ2, rfl, rfl, rfl, rfl, rfl, rfl, trivial⟩
   clear HG F_xs F40 Fk43 FJ1 FJ2
   rintro e v55 ⟨HG, z92, F_xs, F40, Fk43, jv2, dv2, cv2, lf2, E3, E4, hsy2, htw2, hnf2, hjl2, hE3, hE4, hE34, FJ1, FJ2, hjn54_0, hjn54_3, hjn54_4, hjn54_5, hjn54_7, hjn54_9, -⟩
   refine V.knownC (t := 0) hjn54_0 ?_
   refine V.knownC (t := 3) hjn54_3 ?_
   refine V.knownC (t := 4) hjn54_4 ?_
   refine V.knownC (t := 5) hjn54_5 ?_
   refine V.knownC (t := 7) hjn54_7 ?_
   refine V.knownC (t := 9) hjn54_9 ?_
   have hEl3 := FJ1.lt
   have hEl4 := FJ2.lt
   refine V.seq ?_
   refine V.region ?_
   refine V.run T_ok 1 rfl ?_
   refine V.call (jd_file FJ1) rfl rfl rfl ?_
   rintro _ w96 ⟨a93, c94, rfl, F95, G97⟩
   have z98 := V.Fr.size G97
   try replace F_xs := F_xs.gr G97
   try replace FJ1 := FJ1.gr G97
   try replace FJ2 := FJ2.gr G97
   try replace F40 := F40.gr G97
   try replace Fk43 := Fk43.gr G97
   replace HG := HG.grow G97
   clear G97
   refine V.toStr F95.sl Try.underlying22 Try.underlying5 Try.underlying9 rfl rfl rfl rfl ?_
   refine V.run T_ok 1 rfl ?_
   refine V.nil ?_
   refine V.tN ?_
   refine V.seq ?_
   refine V.region ?_
   refine V.run T_ok 1 rfl ?_
   refine V.call (open_again FJ1 hsy2 (by omega)) rfl rfl rfl ?_
   rintro _ w102 ⟨k99, rfl, ⟨h100l, h100u⟩, F101, G103⟩
   have z104 := V.Fr.size G103
   try replace F_xs := F_xs.gr G103
   try replace FJ1 := FJ1.gr G103
   try replace FJ2 := FJ2.gr G103
   try replace F40 := F40.gr G103
   try replace Fk43 := Fk43.gr G103
   try replace F95 := F95.gr G103
   replace HG := HG.grow G103
   clear G103
   refine V.run T_ok 5 rfl ?_
   refine V.nil ?_
   refine V.tN ?_
   refine V.seq ?_
   refine V.seq ?_
   refine V.drawGT 27 (V.sel [(8, (fun v wz => ∃ (ra54 : Option Addr) (rc54 : Nat), v = .slice ra54 dv2.nf.length rc54 ∧ V.Row V.Cod.byte 5 wz V.None' w102.heap.size wz.heap.size ra54 rc54 dv2.nf)), (15, (fun v wz => ∃ (ra54 : Option Addr) (rc54 : Nat), v = .slice ra54 cv2.nf.length rc54 ∧ V.Row V.Cod.byte 5 wz V.None' w102.heap.size wz.heap.size ra54 rc54 cv2.nf)), (22, (fun v wz => ∃ (ra55 : Option Addr) (rc55 : Nat), v = .slice ra55 cv2.nc.length rc55 ∧ V.Row V.Cod.byte 5 wz V.None' w102.heap.size wz.heap.size ra55 rc55 cv2.nc)), (25, (fun v wz => ∃ (ra55 : Option Addr) (rc55 : Nat), v = .slice ra55 dv2.nc.length rc55 ∧ V.Row V.Cod.byte 5 wz V.None' w102.heap.size wz.heap.size ra55 rc55 dv2.nc))]) mixed (by kernel_rfl) (V.mono_cons (by rintro v wz wz' g ⟨ra54, rc54, rfl, rF54⟩; exact ⟨ra54, rc54, rfl, (by first | exact (rF54.gr g).mono (V.In.sub (Nat.le_refl _) g.size) | exact rF54.gr g | exact (rF54.gr g).mono (fun _ h => h) (Nat.le_refl _) g.size | exact (rF54.gr g).mono (fun k h => ⟨h.1, Nat.lt_of_lt_of_le h.2 g.size⟩))⟩) (V.mono_cons (by rintro v wz wz' g ⟨ra54, rc54, rfl, rF54⟩; exact ⟨ra54, rc54, rfl, (by first | exact (rF54.gr g).mono (V.In.sub (Nat.le_refl _) g.size) | exact rF54.gr g | exact (rF54.gr g).mono (fun _ h => h) (Nat.le_refl _) g.size | exact (rF54.gr g).mono (fun k h => ⟨h.1, Nat.lt_of_lt_of_le h.2 g.size⟩))⟩) (V.mono_cons (by rintro v wz wz' g ⟨ra55, rc55, rfl, rF55⟩; exact ⟨ra55, rc55, rfl, (by first | exact (rF55.gr g).mono (V.In.sub (Nat.le_refl _) g.size) | exact rF55.gr g | exact (rF55.gr g).mono (fun _ h => h) (Nat.le_refl _) g.size | exact (rF55.gr g).mono (fun k h => ⟨h.1, Nat.lt_of_lt_of_le h.2 g.size⟩))⟩) (V.mono_cons (by rintro v wz wz' g ⟨ra55, rc55, rfl, rF55⟩; exact ⟨ra55, rc55, rfl, (by first | exact (rF55.gr g).mono (V.In.sub (Nat.le_refl _) g.size) | exact rF55.gr g | exact (rF55.gr g).mono (fun _ h => h) (Nat.le_refl _) g.size | exact (rF55.gr g).mono (fun k h => ⟨h.1, Nat.lt_of_lt_of_le h.2 g.size⟩))⟩) V.mono_nil)))) ?_
   refine V.grun T_ok 8 rfl (V.sel_none rfl) ?_
   refine V.gyes rfl rfl rfl ?_
   refine V.gcall (fun w' h => (jd_file (FJ1.gr h.1)).mono (by rintro v w'' ⟨ra54, rc54, rfl, rF54, G⟩; exact ⟨⟨ra54, rc54, rfl, (by first | exact rF54.mono (V.In.mono_l h.1.size) | exact rF54 | exact rF54.mono (fun _ h => h) h.1.size (Nat.le_refl _))⟩, G⟩)) rfl rfl rfl rfl ?_
   rintro _ w108 - - ⟨a105, c106, rfl, -⟩
   refine V.gyes rfl rfl rfl ?_
   refine V.gtoStr (fun w' h => by obtain ⟨_, _, he, F0⟩ := (V.Hist.here (h.get (i := 8) rfl)); cases he; exact F0.sl.mono (fun _ _ => trivial)) Try.underlying22 Try.underlying5 Try.underlying9 rfl rfl rfl rfl rfl ?_
   refine V.grun T_ok 4 rfl (V.sel_none rfl) ?_
   refine V.gsplitF (j := 13) (t := 141) rfl rfl (by simp [htw2.1, htw2.2]) ?_
   refine V.grun T_ok 1 rfl (V.sel_none rfl) ?_
   refine V.gyes rfl rfl rfl ?_
   refine V.gcall (fun w' h => (jd_file (FJ2.gr h.1)).mono (by rintro v w'' ⟨ra54, rc54, rfl, rF54, G⟩; exact ⟨⟨ra54, rc54, rfl, (by first | exact rF54.mono (V.In.mono_l h.1.size) | exact rF54 | exact rF54.mono (fun _ h => h) h.1.size (Nat.le_refl _))⟩, G⟩)) rfl rfl rfl rfl ?_
   rintro _ w112 - - ⟨a109, c110, rfl, -⟩
   refine V.gyes rfl rfl rfl ?_
   refine V.gtoStr (fun w' h => by obtain ⟨_, _, he, F0⟩ := (V.Hist.here (h.get (i := 15) rfl)); cases he; exact F0.sl.mono (fun _ _ => trivial)) Try.underlying22 Try.underlying5 Try.underlying9 rfl rfl rfl rfl rfl ?_
   refine V.grun T_ok 4 rfl (V.sel_none rfl) ?_
   refine V.gsplitF (j := 20) (t := 148) rfl rfl (by simp [htw2.1, htw2.2]) ?_
   refine V.grun T_ok 1 rfl (V.sel_none rfl) ?_
   refine V.gyes rfl rfl rfl ?_
   refine V.gcall (fun w' h => (jd_cell (FJ2.gr h.1)).mono (by rintro v w'' ⟨ra55, rc55, rfl, rF55, G⟩; exact ⟨⟨ra55, rc55, rfl, (by first | exact rF55.mono (V.In.mono_l h.1.size) | exact rF55 | exact rF55.mono (fun _ h => h) h.1.size (Nat.le_refl _))⟩, G⟩)) rfl rfl rfl rfl ?_
   rintro _ w116 - - ⟨a113, c114, rfl, -⟩
   refine V.gyes rfl rfl rfl ?_
   refine V.gtoStr (fun w' h => by obtain ⟨_, _, he, F0⟩ := (V.Hist.here (h.get (i := 22) rfl)); cases he; exact F0.sl.mono (fun _ _ => trivial)) Try.underlying22 Try.underlying5 Try.underlying9 rfl rfl rfl rfl rfl ?_
   refine V.grun T_ok 1 rfl (V.sel_none rfl) ?_
   refine V.gyes rfl rfl rfl ?_
   refine V.gcall (fun w' h => (jd_cell (FJ1.gr h.1)).mono (by rintro v w'' ⟨ra55, rc55, rfl, rF55, G⟩; exact ⟨⟨ra55, rc55, rfl, (by first | exact rF55.mono (V.In.mono_l h.1.size) | exact rF55 | exact rF55.mono (fun _ h => h) h.1.size (Nat.le_refl _))⟩, G⟩)) rfl rfl rfl rfl ?_
   rintro _ w120 - - ⟨a117, c118, rfl, -⟩
   refine V.gyes rfl rfl rfl ?_
   refine V.gtoStr (fun w' h => by obtain ⟨_, _, he, F0⟩ := (V.Hist.here (h.get (i := 25) rfl)); cases he; exact F0.sl.mono (fun _ _ => trivial)) Try.underlying22 Try.underlying5 Try.underlying9 rfl rfl rfl rfl rfl ?_
   refine V.gnil ?_
   rintro w121 G122 hH123
   have z124 := V.Fr.size G122
   try replace F_xs := F_xs.gr G122
   try replace FJ1 := FJ1.gr G122
   try replace FJ2 := FJ2.gr G122
   try replace F40 := F40.gr G122
   try replace Fk43 := Fk43.gr G122
   try replace F95 := F95.gr G122
   try replace F101 := F101.gr G122
   replace HG := HG.grow G122
   clear G122
   have F107 : V.Row V.Cod.byte 5 w121 V.None' w102.heap.size w121.heap.size a105 c106 dv2.nf := by
     obtain ⟨_, _, he, F0⟩ := (V.Hist.here (V.Hist.old (V.Hist.old (V.Hist.old (hH123 8)))))
     cases he
     exact F0
   have F111 : V.Row V.Cod.byte 5 w121 V.None' w102.heap.size w121.heap.size a109 c110 cv2.nf := by
     obtain ⟨_, _, he, F0⟩ := (V.Hist.here (V.Hist.old (V.Hist.old (hH123 15))))
     cases he
     exact F0
   have F115 : V.Row V.Cod.byte 5 w121 V.None' w102.heap.size w121.heap.size a113 c114 cv2.nc := by
     obtain ⟨_, _, he, F0⟩ := (V.Hist.here (V.Hist.old (hH123 22)))
     cases he
     exact F0
   have F119 : V.Row V.Cod.byte 5 w121 V.None' w102.heap.size w121.heap.size a117 c118 dv2.nc := by
     obtain ⟨_, _, he, F0⟩ := (V.Hist.here (hH123 25))
     cases he
     exact F0
   clear hH123
   refine V.run T_ok 2 rfl ?_
   refine V.nil ?_
   refine V.tN ?_
   refine V.condN rfl (by simp [htw2.1, htw2.2]) ?_
   refine V.skip ?_
   refine V.tN ?_
   refine V.seq ?_
   refine V.region ?_
   refine V.run T_ok 1 rfl ?_
   refine V.call (seen_j FJ1) rfl rfl rfl ?_
   rintro _ w128 ⟨a125, c126, rfl, F127, G129⟩
   have z130 := V.Fr.size G129
   try replace F_xs := F_xs.gr G129
   try replace FJ1 := FJ1.gr G129
   try replace FJ2 := FJ2.gr G129
   try replace F40 := F40.gr G129
   try replace Fk43 := Fk43.gr G129
   try replace F95 := F95.gr G129
   try replace F101 := F101.gr G129
   try replace F107 := F107.gr G129
   try replace F111 := F111.gr G129
   try replace F115 := F115.gr G129
   try replace F119 := F119.gr G129
   replace HG := HG.grow G129
   clear G129
   refine V.alloc zero56 rfl rfl rfl ?_
   rintro k131 w133 s135 s136 G134 Fk132
   have z137 := V.Fr.size G134
   try replace F_xs := F_xs.gr G134
   try replace FJ1 := FJ1.gr G134
   try replace FJ2 := FJ2.gr G134
   try replace F40 := F40.gr G134
   try replace Fk43 := Fk43.gr G134
   try replace F95 := F95.gr G134
   try replace F101 := F101.gr G134
   try replace F107 := F107.gr G134
   try replace F111 := F111.gr G134
   try replace F115 := F115.gr G134
   try replace F119 := F119.gr G134
   try replace F127 := F127.gr G134
   replace HG := HG.grow G134
   clear G134
   try simp only [V.cellsL, V.spliceL] at Fk132
   refine V.storeO Fk132 rfl rfl rfl rfl sz56 rfl rfl rfl rfl ?_
   rintro w138 G139 z141 Fs140
   clear Fk132
   have z142 := V.Fr.size G139
   try replace F_xs := F_xs.mb G139 hD_xs
   first | replace FJ1 := FJ1.mv1 G139 (by (try dsimp only [V.In]); first | omega | grind) | clear FJ1 | skip
   first | replace FJ2 := FJ2.mv1 G139 (by (try dsimp only [V.In]); first | omega | grind) | clear FJ2 | skip
   try replace F40 := F40.mb G139 hD_xs
   try replace Fk43 := Fk43.ma G139
   try replace F95 := F95.ma G139
   first | replace F101 := F101.mv1 G139 (by (try dsimp only [V.In]); first | omega | grind) | clear F101 | skip
   try replace F107 := F107.ma G139
   try replace F111 := F111.ma G139
   try replace F115 := F115.ma G139
   try replace F119 := F119.ma G139
   try replace F127 := F127.ma G139
   replace HG := HG.n1 G139
   clear G139
   have Fk132 := Fs140; clear Fs140
   simp only [V.spliceL, V.cellsL] at Fk132
   refine V.nil ?_
   refine V.tN ?_
   refine V.seq ?_
   refine V.drawGT 3 (V.sel [(2, (fun v wz => ∃ (ra74 : Option Addr) (rc74 : Nat), v = .agg #[.int .i64 jv2.base, .string (V.S jv2.data), .slice ra74 jv2.l.length rc74] ∧ V.Row V.Cod.byte.sl 22 wz V.None' w138.heap.size wz.heap.size ra74 rc74 jv2.l))]) mixed (by kernel_rfl) (V.mono_cons (by rintro v wz wz' g ⟨ra74, rc74, rfl, rF74⟩; exact ⟨ra74, rc74, rfl, (by first | exact (rF74.gr g).mono (V.In.sub (Nat.le_refl _) g.size) | exact rF74.gr g | exact (rF74.gr g).mono (fun _ h => h) (Nat.le_refl _) g.size | exact (rF74.gr g).mono (fun k h => ⟨h.1, Nat.lt_of_lt_of_le h.2 g.size⟩))⟩) V.mono_nil) ?_
   refine V.gloadO T_ok (fun w' h => Fk132.gr h.1) rfl rfl rfl rfl rfl rfl ?_
   refine V.grun T_ok 1 rfl (V.sel_none rfl) ?_
   refine V.gcall (fun w' h => (seen_spec (F101.gr h.1)).mono (by rintro v w'' ⟨ra74, rc74, rfl, rF74, G⟩; exact ⟨⟨ra74, rc74, rfl, (by first | exact rF74.mono (V.In.mono_l h.1.size) | exact rF74 | exact rF74.mono (fun _ h => h) h.1.size (Nat.le_refl _))⟩, G⟩)) rfl rfl rfl rfl ?_
   rintro _ w146 - - ⟨a143, c144, rfl, -⟩
   refine V.gnil ?_
   rintro w147 G148 hH149
   have z150 := V.Fr.size G148
   try replace F_xs := F_xs.gr G148
   try replace FJ1 := FJ1.gr G148
   try replace FJ2 := FJ2.gr G148
   try replace F40 := F40.gr G148
   try replace Fk43 := Fk43.gr G148
   try replace F95 := F95.gr G148
   try replace F101 := F101.gr G148
   try replace F107 := F107.gr G148
   try replace F111 := F111.gr G148
   try replace F115 := F115.gr G148
   try replace F119 := F119.gr G148
   try replace F127 := F127.gr G148
   try replace Fk132 := Fk132.gr G148
   replace HG := HG.grow G148
   clear G148
   have F145 : V.Row V.Cod.byte.sl 22 w147 V.None' w138.heap.size w147.heap.size a143 c144 jv2.l := by
     obtain ⟨_, _, he, F0⟩ := (V.Hist.here (hH149 2))
     cases he
     exact F0
   clear hH149
   refine V.call (was_spec (b1 := jv2.base) (s1 := (V.S jv2.data)) (b2 := jv2.base) (s2 := (V.S jv2.data)) F127.sl F145.sl) rfl rfl rfl ?_
   rintro _ w151 ⟨rfl, G152⟩
   have z153 := V.Fr.size G152
   try replace F_xs := F_xs.gr G152
   try replace FJ1 := FJ1.gr G152
   try replace FJ2 := FJ2.gr G152
   try replace F40 := F40.gr G152
   try replace Fk43 := Fk43.gr G152
   try replace F95 := F95.gr G152
   try replace F101 := F101.gr G152
   try replace F107 := F107.gr G152
   try replace F111 := F111.gr G152
   try replace F115 := F115.gr G152
   try replace F119 := F119.gr G152
   try replace F127 := F127.gr G152
   try replace Fk132 := Fk132.gr G152
   try replace F145 := F145.gr G152
   replace HG := HG.grow G152
   clear G152
   refine V.run T_ok 1 rfl ?_
   refine V.nil ?_
   refine V.tN ?_
   refine V.seq ?_
   refine V.region ?_
   refine V.run T_ok 3 rfl ?_
   refine V.splitF (j := 2) (t := 165) rfl rfl (by simp) ?_
   refine V.run T_ok 1 rfl ?_
   refine V.yes rfl rfl rfl ?_
   refine V.call (jhard_spec F101) rfl rfl rfl ?_
   rintro _ w154 ⟨rfl, G155⟩
   have z156 := V.Fr.size G155
   try replace F_xs := F_xs.gr G155
   try replace FJ1 := FJ1.gr G155
   try replace FJ2 := FJ2.gr G155
   try replace F40 := F40.gr G155
   try replace Fk43 := Fk43.gr G155
   try replace F95 := F95.gr G155
   try replace F101 := F101.gr G155
   try replace F107 := F107.gr G155
   try replace F111 := F111.gr G155
   try replace F115 := F115.gr G155
   try replace F119 := F119.gr G155
   try replace F127 := F127.gr G155
   try replace Fk132 := Fk132.gr G155
   try replace F145 := F145.gr G155
   replace HG := HG.grow G155
   clear G155
   refine V.run T_ok 1 rfl ?_
   refine V.yes rfl rfl rfl ?_
   refine V.call (jhard_spec_j FJ1) rfl rfl rfl ?_
   rintro _ w157 ⟨rfl, G158⟩
   have z159 := V.Fr.size G158
   try replace F_xs := F_xs.gr G158
   try replace FJ1 := FJ1.gr G158
   try replace FJ2 := FJ2.gr G158
   try replace F40 := F40.gr G158
   try replace Fk43 := Fk43.gr G158
   try replace F95 := F95.gr G158
   try replace F101 := F101.gr G158
   try replace F107 := F107.gr G158
   try replace F111 := F111.gr G158
   try replace F115 := F115.gr G158
   try replace F119 := F119.gr G158
   try replace F127 := F127.gr G158
   try replace Fk132 := Fk132.gr G158
   try replace F145 := F145.gr G158
   replace HG := HG.grow G158
   clear G158
   refine V.yes rfl rfl rfl ?_
   refine V.step rfl rfl (V.neA_run rfl rfl rfl eqG47 (eqS47 _)) ?_
   refine V.run T_ok 2 rfl ?_
   refine V.splitF (j := 9) (t := 172) rfl rfl (by simp) ?_
   refine V.run T_ok 1 rfl ?_
   refine V.yes rfl rfl rfl ?_
   refine V.call (jlast_spec F101) rfl rfl rfl ?_
   rintro _ w160 ⟨rfl, G161⟩
   have z162 := V.Fr.size G161
   try replace F_xs := F_xs.gr G161
   try replace FJ1 := FJ1.gr G161
   try replace FJ2 := FJ2.gr G161
   try replace F40 := F40.gr G161
   try replace Fk43 := Fk43.gr G161
   try replace F95 := F95.gr G161
   try replace F101 := F101.gr G161
   try replace F107 := F107.gr G161
   try replace F111 := F111.gr G161
   try replace F115 := F115.gr G161
   try replace F119 := F119.gr G161
   try replace F127 := F127.gr G161
   try replace Fk132 := Fk132.gr G161
   try replace F145 := F145.gr G161
   replace HG := HG.grow G161
   clear G161
   refine V.run T_ok 1 rfl ?_
   refine V.yes rfl rfl rfl ?_
   refine V.call (jlast_j FJ1) rfl rfl rfl ?_
   rintro _ w163 ⟨rfl, G164⟩
   have z165 := V.Fr.size G164
   try replace F_xs := F_xs.gr G164
   try replace FJ1 := FJ1.gr G164
   try replace FJ2 := FJ2.gr G164
   try replace F40 := F40.gr G164
   try replace Fk43 := Fk43.gr G164
   try replace F95 := F95.gr G164
   try replace F101 := F101.gr G164
   try replace F107 := F107.gr G164
   try replace F111 := F111.gr G164
   try replace F115 := F115.gr G164
   try replace F119 := F119.gr G164
   try replace F127 := F127.gr G164
   try replace Fk132 := Fk132.gr G164
   try replace F145 := F145.gr G164
   replace HG := HG.grow G164
   clear G164
   refine V.run T_ok 2 rfl ?_
   refine V.nil ?_
   refine V.tN ?_
   refine V.condN rfl (by simp) ?_
   refine V.skip ?_
   refine V.bN ?_
   refine V.tN ?_
   refine V.region ?_
   refine V.run T_ok 1 rfl ?_
   refine V.addN rfl rfl rfl rfl rfl (by first | omega | (simp only [List.length_take, List.length_drop, List.length_append, List.length_cons, List.length_nil, List.length_replicate, List.length_set, V.length_data, V.S_size]; omega)) (by first | omega | (simp only [List.length_take, List.length_drop, List.length_append, List.length_cons, List.length_nil, List.length_replicate, List.length_set, V.length_data, V.S_size]; omega)) ?_
   refine V.run T_ok 1 rfl ?_
   refine V.nil ?_
   refine V.tN ?_
   exact ⟨_, (by omega), HG, (by omega), F_xs, (i + 1), (jv2), (dv2), (cv2), (lf2), (E3), (E4), rfl, (by omega), (by omega), (hsy2), (htw2), (by omega), (by omega), (hE3), (hE4), (hE34), FJ1, FJ2, rfl, rfl, rfl, rfl, rfl, rfl⟩
 ·
  try replace h8 := V.dec h8
  try simp only [V.mk0, V.mk1, V.mk2, V.mk3] at h8
  refine V.exit ?_
  refine V.tX ?_
  refine V.tX ?_
  refine V.bE ?_
  refine V.tN ?_
  refine V.seq ?_
  refine V.region ?_
  refine V.run T_ok 1 rfl ?_
  refine V.nil ?_
  refine V.tN ?_
  refine V.ret ?_
  refine V.done rfl ?_
  exact ⟨(by first | rfl | simp only [List.length_set]), HG⟩

end Go.Proofs.Ytnbijpijbhkcpaa
