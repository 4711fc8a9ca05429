/- Proved here: walks: what functions of this seat's program return and what they leave of memory, each as a contract. Conditions: stated at each theorem. -/
import Derived.Test.YtaokenlcjkomhaaMrec3
namespace Go.Proofs.Ytaokenlcjkomhaa
set_option linter.unusedVariables false
set_option linter.unusedSimpArgs false
open Go
open V (Bytes Meets Env Sl Own Gr Fr Cells S)

theorem small_of {ws : List (ByteArray × Int)} (h0 : ws.length ≤ 20) (h : ∀ j (hj : j < ws.length), ws[j].1.size ≤ 300) (hv : ∀ y ∈ ws, y.2 ≤ 9223372036854775807) : small ws := by
  refine ⟨by omega, fun x hx => ⟨?_, hv x hx⟩⟩
  obtain ⟨j, hj, rfl⟩ := List.mem_iff_getElem.1 hx
  have := h j hj; omega
theorem recBy_len {d : RecV} (hd : inR64 d) (h : small d.ws) : (recBy d).length ≤ 109000 := by
  obtain ⟨i1, i2, i3, i4, i5, i6, i7⟩ := hd
  have n1 := numB_len9 i1
  have n2 := numB_len9 i2
  have n3 := numB_len9 i3
  have n4 := stB_len i4 i5
  have n5 := stB_len i6 i7
  have n6 := numB_len9 (v := (d.ws.length : Int)) (by have := h.1; omega)
  rw [Int.toNat_natCast] at n6
  have n7 := wrsB_len h.2
  have := h.1
  simp only [recBy, List.length_append]; omega

set_option maxHeartbeats 4000000 in
set_option maxRecDepth 10000 in
theorem recordTells_walk {w : World} {d : RecV} {D_o : Nat → Prop} {c_o : Nat} {a_o : Option Addr} (F_o : Sl V.Cod.write w D_o a_o c_o d.ws) (hD_o : ∀ k, D_o k → k < w.heap.size) {x : RecV} {D_q : Nat → Prop} {c_q : Nat} {a_q : Option Addr} (F_q : Sl V.Cod.write w D_q a_q c_q x.ws) (hD_q : ∀ k, D_q k → k < w.heap.size) {D_b : Nat → Prop} {c_b : Nat} {a_b : Option Addr} {b : List UInt8} (F_b : Sl V.Cod.byte w D_b a_b c_b b) (hD_b : ∀ k, D_b k → k < w.heap.size) (hkr : keysOk d.ws) (hd : inR64 d) (hv : ∀ y ∈ d.ws, y.2 ≤ 9223372036854775807) :
    Meets Try.prog 8 [.agg #[.int .i64 d.id, .int .i64 d.ep, .int .i64 d.st, .int .i64 d.aw, .int .i64 d.al, .int .i64 d.bw, .int .i64 d.bl, .slice a_o d.ws.length c_o], .agg #[.int .i64 x.id, .int .i64 x.ep, .int .i64 x.st, .int .i64 x.aw, .int .i64 x.al, .int .i64 x.bw, .int .i64 x.bl, .slice a_q x.ws.length c_q], .slice a_b b.length c_b] w fun r w' => r = .bool true ∧ Gr w w' := by
 have HG := V.Fr.refl [] w
 refine V.enter (n := 70) Try.func8 rfl rfl (by decide) rfl ?_
 refine V.seq ?_
 refine V.region ?_
 refine V.box rfl rfl rfl rfl ?_
 rintro k1 w3 s5 s6 G4 Fk2
 have z7 := V.Fr.size G4
 try replace F_o := F_o.gr G4
 try replace F_q := F_q.gr G4
 try replace F_b := F_b.gr G4
 replace HG := HG.grow G4
 clear G4
 try simp only [V.cellsL, V.spliceL] at Fk2
 refine V.box rfl rfl rfl rfl ?_
 rintro k8 w10 s12 s13 G11 Fk9
 have z14 := V.Fr.size G11
 try replace F_o := F_o.gr G11
 try replace F_q := F_q.gr G11
 try replace F_b := F_b.gr G11
 try replace Fk2 := Fk2.gr G11
 replace HG := HG.grow G11
 clear G11
 try simp only [V.cellsL, V.spliceL] at Fk9
 refine V.run T_ok 1 rfl ?_
 refine V.nil ?_
 refine V.tN ?_
 refine V.seq ?_
 refine V.seq ?_
 refine V.region ?_
 refine V.run T_ok 1 rfl ?_
 refine V.loadO T_ok Fk2 rfl rfl rfl rfl rfl ?_
 refine V.run T_ok 3 rfl ?_
 refine V.split (j := 4) (t := 12) rfl rfl (fun g1_4 => ?_) (fun g1_4 => ?_)
 ·
  try replace g1_4 := V.dec g1_4
  try simp only [V.mk0, V.mk1, V.mk2, V.mk3] at g1_4
  refine V.run T_ok 10 rfl ?_
  refine V.nil ?_
  refine V.tN ?_
  refine V.condY rfl rfl ?_
  refine V.seq ?_
  refine V.region ?_
  refine V.call (alive_spec) rfl rfl rfl ?_
  rintro _ w15 ⟨rfl, G16⟩
  have z17 := V.Fr.size G16
  try replace F_o := F_o.gr G16
  try replace F_q := F_q.gr G16
  try replace F_b := F_b.gr G16
  try replace Fk2 := Fk2.gr G16
  try replace Fk9 := Fk9.gr G16
  replace HG := HG.grow G16
  clear G16
  refine V.run T_ok 1 rfl ?_
  refine V.nil ?_
  refine V.tN ?_
  refine V.ret ?_
  refine V.tR ?_
  refine V.done rfl ?_
  exact ⟨(congrArg Value.bool (by first | rfl | (simp [V.S_append]))), HG⟩
 ·
  try replace g1_4 := V.dec g1_4
  try simp only [V.mk0, V.mk1, V.mk2, V.mk3] at g1_4
  refine V.run T_ok 1 rfl ?_
  refine V.yes rfl rfl rfl ?_
  refine V.loadO T_ok Fk9 rfl rfl rfl rfl rfl ?_
  refine V.run T_ok 4 rfl ?_
  refine V.orG T_ok 3 10 18 rfl rfl rfl rfl rfl rfl rfl rfl ?_
  refine V.nil ?_
  refine V.tN ?_
  refine V.condT rfl (fun h1 => ?_) (fun h1 => ?_)
  ·
   try replace h1 := V.dec h1
   try simp only [V.mk0, V.mk1, V.mk2, V.mk3] at h1
   refine V.seq ?_
   refine V.region ?_
   refine V.call (alive_spec) rfl rfl rfl ?_
   rintro _ w18 ⟨rfl, G19⟩
   have z20 := V.Fr.size G19
   try replace F_o := F_o.gr G19
   try replace F_q := F_q.gr G19
   try replace F_b := F_b.gr G19
   try replace Fk2 := Fk2.gr G19
   try replace Fk9 := Fk9.gr G19
   replace HG := HG.grow G19
   clear G19
   refine V.run T_ok 1 rfl ?_
   refine V.nil ?_
   refine V.tN ?_
   refine V.ret ?_
   refine V.tR ?_
   refine V.done rfl ?_
   exact ⟨(congrArg Value.bool (by first | rfl | (simp [V.S_append]))), HG⟩
  ·
   try replace h1 := V.dec h1
   try simp only [V.mk0, V.mk1, V.mk2, V.mk3] at h1
   refine V.skip ?_
   refine V.tN ?_
   refine V.seq ?_
   refine V.seq ?_
   refine V.region ?_
   refine V.run T_ok 1 rfl ?_
   refine V.nil ?_
   refine V.tN ?_
   refine V.block ?_
   refine V.loopM (fun m e v22 => Fr [] w v22 ∧ w10.heap.size ≤ v22.heap.size ∧ Sl V.Cod.write v22 D_o a_o c_o d.ws ∧ Sl V.Cod.write v22 D_q a_q c_q x.ws ∧ Sl V.Cod.byte v22 D_b a_b c_b b ∧ Cells v22 k1 [.int .i64 d.id, .int .i64 d.ep, .int .i64 d.st, .int .i64 d.aw, .int .i64 d.al, .int .i64 d.bw, .int .i64 d.bl, .slice a_o d.ws.length c_o] 27 ∧ Cells v22 k8 [.int .i64 x.id, .int .i64 x.ep, .int .i64 x.st, .int .i64 x.aw, .int .i64 x.al, .int .i64 x.bw, .int .i64 x.bl, .slice a_q x.ws.length c_q] 27 ∧ ∃ (i : Nat) , m = d.ws.length - i ∧ i ≤ d.ws.length ∧ (∀ j (hj : j < d.ws.length), j < i → d.ws[j].1.size ≤ 300) ∧ e 2 = .slice a_b b.length c_b ∧ e 3 = .pointer (some ⟨k1, 0, none⟩) ∧ e 4 = .pointer (some ⟨k8, 0, none⟩) ∧ e 7 = .int .i64 (i : Int)) ?_ ?_
   ·
    exact ⟨_, HG, (by omega), F_o, F_q, F_b, Fk2, Fk9, (0), rfl, (by omega), (fun j hj h => absurd h (Nat.not_lt_zero _)), rfl, rfl, rfl, rfl⟩
   clear HG F_o F_q F_b Fk2 Fk9
   rintro _ e v22 ⟨HG, z23, F_o, F_q, F_b, Fk2, Fk9, i, rfl, hi, hno, he0_2, he0_3, he0_4, he0_7⟩
   refine V.knownC (t := 2) he0_2 ?_
   refine V.knownC (t := 3) he0_3 ?_
   refine V.knownC (t := 4) he0_4 ?_
   refine V.knownC (t := 7) he0_7 ?_
   refine V.seq ?_
   refine V.seq ?_
   refine V.region ?_
   refine V.run T_ok 2 rfl ?_
   refine V.loadO T_ok Fk2 rfl rfl rfl rfl rfl ?_
   refine V.run T_ok 2 rfl ?_
   refine V.nil ?_
   refine V.tN ?_
   refine V.condT rfl (fun h4 => ?_) (fun h4 => ?_)
   ·
    try replace h4 := V.dec h4
    try simp only [V.mk0, V.mk1, V.mk2, V.mk3] at h4
    refine V.skip ?_
    refine V.tN ?_
    refine V.seq ?_
    refine V.block ?_
    refine V.seq ?_
    refine V.region ?_
    refine V.run T_ok 1 rfl ?_
    refine V.loadO T_ok Fk2 rfl rfl rfl rfl rfl ?_
    refine V.run T_ok 1 rfl ?_
    refine V.elem T_ok F_o rfl rfl sz49 rfl rfl rfl rfl (by first | omega | (simp only [List.length_take, List.length_drop, List.length_append, List.length_cons, List.length_nil, List.length_replicate, List.length_set, V.length_data, V.S_size]; omega)) (by first | omega | (simp only [List.length_take, List.length_drop, List.length_append, List.length_cons, List.length_nil, List.length_replicate, List.length_set, V.length_data, V.S_size]; omega)) ?_
    rintro b24 o25 cs26 hx27 hb28 hR31 hA29
    obtain ⟨x30, hx30⟩ : ∃ z', d.ws[((i : Int)).toNat] = z' := ⟨_, rfl⟩
    rw [hx30] at hR31
    obtain ⟨_, _, rfl, rfl, rfl⟩ := hR31
    try simp only [Int.toNat_natCast] at hx30 hx27
    refine V.run T_ok 1 rfl ?_
    refine V.loadA T_ok (o0 := o25) (off := 0) hA29 rfl rfl rfl rfl rfl ?_
    refine V.run T_ok 2 rfl ?_
    refine V.nil ?_
    refine V.tN ?_
    refine V.condT rfl (fun h6 => ?_) (fun h6 => ?_)
    ·
     try replace h6 := V.dec h6
     try simp only [V.mk0, V.mk1, V.mk2, V.mk3] at h6
     refine V.seq ?_
     refine V.region ?_
     refine V.call (alive_spec) rfl rfl rfl ?_
     rintro _ w32 ⟨rfl, G33⟩
     have z34 := V.Fr.size G33
     try replace F_o := F_o.gr G33
     try replace F_q := F_q.gr G33
     try replace F_b := F_b.gr G33
     try replace Fk2 := Fk2.gr G33
     try replace Fk9 := Fk9.gr G33
     replace HG := HG.grow G33
     clear G33
     refine V.run T_ok 1 rfl ?_
     refine V.nil ?_
     refine V.tN ?_
     refine V.ret ?_
     refine V.bR ?_
     refine V.tR ?_
     refine V.tR ?_
     refine V.bR ?_
     refine V.tR ?_
     refine V.done rfl ?_
     exact ⟨(congrArg Value.bool (by first | rfl | (simp [V.S_append]))), HG⟩
    ·
     try replace h6 := V.dec h6
     try simp only [V.mk0, V.mk1, V.mk2, V.mk3] at h6
     refine V.skip ?_
     refine V.bN ?_
     refine V.tN ?_
     refine V.region ?_
     refine V.run T_ok 1 rfl ?_
     refine V.addN rfl rfl rfl rfl rfl (by first | omega | (simp only [List.length_take, List.length_drop, List.length_append, List.length_cons, List.length_nil, List.length_replicate, List.length_set, V.length_data, V.S_size]; omega)) (by first | omega | (simp only [List.length_take, List.length_drop, List.length_append, List.length_cons, List.length_nil, List.length_replicate, List.length_set, V.length_data, V.S_size]; omega)) ?_
     refine V.run T_ok 1 rfl ?_
     refine V.nil ?_
     refine V.tN ?_
     exact ⟨_, (by omega), HG, (by omega), F_o, F_q, F_b, Fk2, Fk9, (i + 1), rfl, (by omega), (fun j hj h => by rcases Nat.lt_or_ge j i with h2 | h2; exact hno j hj h2; obtain rfl : j = i := (by omega); subst_vars; omega), rfl, rfl, rfl, rfl⟩
   ·
    try replace h4 := V.dec h4
    try simp only [V.mk0, V.mk1, V.mk2, V.mk3] at h4
    refine V.exit ?_
    refine V.tX ?_
    refine V.tX ?_
    refine V.bE ?_
    refine V.tN ?_
    refine V.seq ?_
    have hsm := small_of (by omega) (fun j hj => hno j hj (by omega)) hv
    have hrl := recBy_len hd hsm
    refine V.drawGT 28 (V.sel [(0, (fun v wz => v = .bool true)), (3, (fun v wz => v = .bool (recB d))), (5, (fun v wz => v = .bool (recB d))), (11, (fun v wz => v = .bool (sameR d x))), (14, (fun v wz => v = .bool (sameR d x))), (20, (fun v wz => ∃ (ra31 : Option Addr) (rc31 : Nat), v = .slice ra31 (b ++ recBy d).length rc31 ∧ V.Row V.Cod.byte 5 wz V.None' v22.heap.size wz.heap.size ra31 rc31 (b ++ recBy d))), (25, (fun v wz => ∃ (ra33 : Option Addr) (rc33 : Nat), v = .slice ra33 (recBy d).length rc33 ∧ V.Row V.Cod.byte 5 wz V.None' v22.heap.size wz.heap.size ra33 rc33 (recBy d)))]) mixed (by kernel_rfl) (V.mono_cons V.eqV_mono (V.mono_cons V.eqV_mono (V.mono_cons V.eqV_mono (V.mono_cons V.eqV_mono (V.mono_cons V.eqV_mono (V.mono_cons (by rintro v wz wz' g ⟨ra31, rc31, rfl, rF31⟩; exact ⟨ra31, rc31, rfl, (by first | exact (rF31.gr g).mono (V.In.sub (Nat.le_refl _) g.size) | exact rF31.gr g | exact (rF31.gr g).mono (fun _ h => h) (Nat.le_refl _) g.size | exact (rF31.gr g).mono (fun k h => ⟨h.1, Nat.lt_of_lt_of_le h.2 g.size⟩))⟩) (V.mono_cons (by rintro v wz wz' g ⟨ra33, rc33, rfl, rF33⟩; exact ⟨ra33, rc33, rfl, (by first | exact (rF33.gr g).mono (V.In.sub (Nat.le_refl _) g.size) | exact rF33.gr g | exact (rF33.gr g).mono (fun _ h => h) (Nat.le_refl _) g.size | exact (rF33.gr g).mono (fun k h => ⟨h.1, Nat.lt_of_lt_of_le h.2 g.size⟩))⟩) V.mono_nil))))))) ?_
    refine V.gcall (fun w' h => alive_spec.mono (by rintro v w'' ⟨rfl, G⟩; exact ⟨rfl, G⟩)) rfl rfl rfl rfl ?_
    rintro _ w35 - - rfl
    refine V.grun T_ok 1 rfl (V.sel_none rfl) ?_
    refine V.gyes rfl rfl rfl ?_
    refine V.gloadO T_ok (fun w' h => Fk2.gr h.1) rfl rfl rfl rfl rfl rfl ?_
    refine V.gyes rfl rfl rfl ?_
    refine V.gcall (fun w' h => (recR_spec (d := d) (F_o.gr h.1) (fun k hk => by have := Fr.size h.1; have := hD_o k hk; omega) (by first | assumption | (unfold keysOk; decide))).mono (by rintro v w'' ⟨rfl, G⟩; exact ⟨rfl, G⟩)) rfl rfl rfl rfl ?_
    rintro _ w36 - - rfl
    refine V.gyes rfl rfl rfl ?_
    refine V.gloadO T_ok (fun w' h => Fk2.gr h.1) rfl rfl rfl rfl rfl rfl ?_
    refine V.gyes rfl rfl rfl ?_
    refine V.gcall (fun w' h => (rrecR_spec (d := d) (F_o.gr h.1) (fun k hk => by have := Fr.size h.1; have := hD_o k hk; omega) (by first | assumption | (unfold keysOk; decide))).mono (by rintro v w'' ⟨rfl, G⟩; exact ⟨rfl, G⟩)) rfl rfl rfl rfl ?_
    rintro _ w37 - - rfl
    refine V.grun T_ok 3 rfl (V.sel_none rfl) ?_
    refine V.gsplitT (j := 8) (t := 48) rfl rfl (by (first | rfl | simp)) ?_
    refine V.gyes rfl rfl rfl ?_
    refine V.gloadO T_ok (fun w' h => Fk2.gr h.1) rfl rfl rfl rfl rfl rfl ?_
    refine V.gyes rfl rfl rfl ?_
    refine V.gloadO T_ok (fun w' h => Fk9.gr h.1) rfl rfl rfl rfl rfl rfl ?_
    refine V.gyes rfl rfl rfl ?_
    refine V.gcall (fun w' h => (same_spec (d := d) (x := x) (F_o.gr h.1) (fun k hk => by have := Fr.size h.1; have := hD_o k hk; omega) (F_q.gr h.1) (fun k hk => by have := Fr.size h.1; have := hD_q k hk; omega)).mono (by rintro v w'' ⟨rfl, G⟩; exact ⟨rfl, G⟩)) rfl rfl rfl rfl ?_
    rintro _ w38 - - rfl
    refine V.gyes rfl rfl rfl ?_
    refine V.gloadO T_ok (fun w' h => Fk2.gr h.1) rfl rfl rfl rfl rfl rfl ?_
    refine V.gyes rfl rfl rfl ?_
    refine V.gloadO T_ok (fun w' h => Fk9.gr h.1) rfl rfl rfl rfl rfl rfl ?_
    refine V.gyes rfl rfl rfl ?_
    refine V.gcall (fun w' h => (rsame_spec (d := d) (x := x) (F_o.gr h.1) (fun k hk => by have := Fr.size h.1; have := hD_o k hk; omega) (F_q.gr h.1) (fun k hk => by have := Fr.size h.1; have := hD_q k hk; omega)).mono (by rintro v w'' ⟨rfl, G⟩; exact ⟨rfl, G⟩)) rfl rfl rfl rfl ?_
    rintro _ w39 - - rfl
    refine V.grun T_ok 3 rfl (V.sel_none rfl) ?_
    refine V.gsplitT (j := 17) (t := 57) rfl rfl (by (first | rfl | simp)) ?_
    refine V.grun T_ok 1 rfl (V.sel_none rfl) ?_
    refine V.gyes rfl rfl rfl ?_
    refine V.gloadO T_ok (fun w' h => Fk2.gr h.1) rfl rfl rfl rfl rfl rfl ?_
    refine V.gyes rfl rfl rfl ?_
    refine V.gcall (fun w' h => (rput_spec (d := d) (F_b.gr h.1) (fun k hk => by have := Fr.size h.1; have := hD_b k hk; omega) (F_o.gr h.1) (fun k hk => by have := Fr.size h.1; have := hD_o k hk; omega) (by first | omega | (simp only [List.length_append]; omega)) (by assumption) (by assumption)).mono (by rintro v w'' ⟨ra31, rc31, rfl, rF31, G⟩; exact ⟨⟨ra31, rc31, rfl, (by first | exact rF31.mono (V.In.mono_l h.1.size) | exact rF31 | exact rF31.mono (fun _ h => h) h.1.size (Nat.le_refl _))⟩, G⟩)) rfl rfl rfl rfl ?_
    rintro _ w43 - - ⟨a40, c41, rfl, -⟩
    refine V.gyes rfl rfl rfl ?_
    refine V.gtoStr (fun w' h => by obtain ⟨_, _, he, F0⟩ := (V.Hist.here (h.get (i := 20) rfl)); cases he; exact F0.sl.mono (fun _ _ => trivial)) Try.underlying47 Try.underlying5 Try.underlying9 rfl rfl rfl rfl rfl ?_
    refine V.grun T_ok 1 rfl (V.sel_none rfl) ?_
    refine V.gyes rfl rfl rfl ?_
    refine V.gtoStr (fun w' h => F_b.gr h.1) Try.underlying47 Try.underlying5 Try.underlying9 rfl rfl rfl rfl rfl ?_
    refine V.gyes rfl rfl rfl ?_
    refine V.gloadO T_ok (fun w' h => Fk2.gr h.1) rfl rfl rfl rfl rfl rfl ?_
    refine V.gyes rfl rfl rfl ?_
    refine V.gcall (fun w' h => (rbytes_spec (d := d) (F_o.gr h.1) (fun k hk => by have := Fr.size h.1; have := hD_o k hk; omega) (by assumption) (by assumption)).mono (by rintro v w'' ⟨ra33, rc33, rfl, rF33, G⟩; exact ⟨⟨ra33, rc33, rfl, (by first | exact rF33.mono (V.In.mono_l h.1.size) | exact rF33 | exact rF33.mono (fun _ h => h) h.1.size (Nat.le_refl _))⟩, G⟩)) rfl rfl rfl rfl ?_
    rintro _ w47 - - ⟨a44, c45, rfl, -⟩
    refine V.gyes rfl rfl rfl ?_
    refine V.gtoStr (fun w' h => by obtain ⟨_, _, he, F0⟩ := (V.Hist.here (h.get (i := 25) rfl)); cases he; exact F0.sl.mono (fun _ _ => trivial)) Try.underlying47 Try.underlying5 Try.underlying9 rfl rfl rfl rfl rfl ?_
    refine V.gyes rfl rfl rfl ?_
    refine V.gscat rfl rfl rfl rfl rfl (by simp only [V.S_size]; omega) ?_
    refine V.gnil ?_
    rintro w48 G49 hH50
    have z51 := V.Fr.size G49
    try replace F_o := F_o.gr G49
    try replace F_q := F_q.gr G49
    try replace F_b := F_b.gr G49
    try replace Fk2 := Fk2.gr G49
    try replace Fk9 := Fk9.gr G49
    replace HG := HG.grow G49
    clear G49
    have F42 : V.Row V.Cod.byte 5 w48 V.None' v22.heap.size w48.heap.size a40 c41 (b ++ recBy d) := by
      obtain ⟨_, _, he, F0⟩ := (V.Hist.here (V.Hist.old (hH50 20)))
      cases he
      exact F0
    have F46 : V.Row V.Cod.byte 5 w48 V.None' v22.heap.size w48.heap.size a44 c45 (recBy d) := by
      obtain ⟨_, _, he, F0⟩ := (V.Hist.here (hH50 25))
      cases he
      exact F0
    clear hH50
    refine V.run T_ok 3 rfl ?_
    refine V.nil ?_
    refine V.tN ?_
    refine V.ret ?_
    refine V.done rfl ?_
    exact ⟨(congrArg Value.bool (by first | rfl | (simp [V.S_append]))), HG⟩

end Go.Proofs.Ytaokenlcjkomhaa
