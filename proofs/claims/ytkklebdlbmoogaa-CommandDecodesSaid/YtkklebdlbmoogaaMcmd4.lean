/- Proved here: walks: what functions of this seat's program return and what they leave of memory, each as a contract. Conditions: stated at each theorem. -/
import Derived.Test.YtkklebdlbmoogaaMcmd3
namespace Go.Proofs.Ytkklebdlbmoogaa
set_option linter.unusedVariables false
set_option linter.unusedSimpArgs false
open Go
open V (Bytes Meets Env Sl Own Gr Fr Cells S)
theorem V.flat_span : V.Flat (V.Cod.pair V.Cod.str V.Cod.str) := (V.flat_pair (V.flat_str) (V.flat_str))

set_option maxHeartbeats 900000 in
set_option maxRecDepth 10000 in
theorem spans_spec {w : World} {d : CmdV} {D_o : Nat → Prop} {c_o : Nat} {a_o : Option Addr} (F_o : Sl V.Cod.write w D_o a_o c_o d.ws) (hD_o : ∀ k, D_o k → k < w.heap.size)   :
    Meets Try.prog 16 [.agg #[.int .i64 d.kd, .int .i64 d.id, .int .i64 d.le, .int .i64 d.nd, .int .i64 d.ti, .int .i64 d.te, .string d.an, .int .i64 d.sw, .int .i64 d.sl, .int .i64 d.sq, .string d.fr, .string d.to, .string d.va, .bool d.go, .int .i64 d.aw, .int .i64 d.al, .int .i64 d.lw, .int .i64 d.ll, .bool d.cm, .bool d.st, .slice a_o d.ws.length c_o, .int .i64 d.pr]] w fun r w' => ∃ (ra25 : Option Addr) (rc25 : Nat), r = .tuple #[.slice ra25 (spnV d).length rc25, .bool (spnW d)] ∧ Sl (V.Cod.pair V.Cod.str V.Cod.str) w' (V.In w.heap.size w'.heap.size) ra25 rc25 (spnV d) ∧ Gr w w' := by
 have HG := V.Fr.refl [] w
 refine V.enter (n := 31) Try.func16 rfl rfl (by decide) rfl ?_
 refine V.seq ?_
 refine V.region ?_
 refine V.box rfl rfl rfl rfl ?_
 rintro k1 w3 s5 s6 G4 Fk2
 have z7 := V.Fr.size G4
 try replace F_o := F_o.gr G4
 replace HG := HG.grow G4
 clear G4
 try simp only [V.cellsL, V.spliceL] at Fk2
 refine V.run T_ok 2 rfl ?_
 refine V.nil ?_
 refine V.tN ?_
 refine V.seq ?_
 refine V.drawGT 5 (V.sel [(0, (fun v wz => ∃ (rk1 : Nat), v = .map (some rk1) ∧ V.MapB wz rk1 (Value.int .i64) kindsM)), (4, V.newC w3.heap.size [.bool false, .bool false, .bool false, .bool false] 83)]) mixed (by kernel_rfl) (V.mono_cons (by rintro v wz wz' g ⟨rk1, rfl, rF1⟩; exact ⟨rk1, rfl, (by first | exact (rF1.gr g).mono (V.In.sub (Nat.le_refl _) g.size) | exact rF1.gr g | exact (rF1.gr g).mono (fun _ h => h) (Nat.le_refl _) g.size | exact (rF1.gr g).mono (fun k h => ⟨h.1, Nat.lt_of_lt_of_le h.2 g.size⟩))⟩) (V.mono_cons V.newC_mono V.mono_nil)) ?_
 refine V.gcall (fun w' h => kinds_spec.mono (by rintro v w'' ⟨rk1, rfl, rF1, G⟩; exact ⟨⟨rk1, rfl, (by first | exact rF1.mono (V.In.mono_l h.1.size) | exact rF1 | exact rF1.mono (fun _ h => h) h.1.size (Nat.le_refl _))⟩, G⟩)) rfl rfl rfl rfl ?_
 rintro _ w10 - - ⟨k8, rfl, -⟩
 refine V.grun T_ok 1 rfl (V.sel_none rfl) ?_
 refine V.gloadO T_ok (fun w' h => Fk2.gr h.1) rfl rfl rfl rfl rfl rfl ?_
 refine V.gstep rfl rfl rfl (fun w' h => V.look_run (V.key_int Try.underlying24) rfl Try.underlying85 zero83 (by obtain ⟨_, he, F0⟩ := (V.Hist.here (h.get (i := 0) rfl)); cases he; exact F0) rfl rfl) ?_
 rw [look_kinds0]
 refine V.galloc (lo := w3.heap.size) zero83 (by omega) rfl rfl rfl rfl ?_
 rintro k11
 refine V.gnil ?_
 rintro w13 G14 hH15
 have z16 := V.Fr.size G14
 try replace F_o := F_o.gr G14
 try replace Fk2 := Fk2.gr G14
 replace HG := HG.grow G14
 clear G14
 have F9 : V.MapB w13 k8 (Value.int .i64) kindsM := by
   obtain ⟨_, he, F0⟩ := (V.Hist.here (V.Hist.old (hH15 0)))
   cases he
   exact F0
 have Fk12 := V.newC_get (V.Hist.here (hH15 4))
 have hk17 := V.newC_lt (V.Hist.here (hH15 4))
 clear hH15
 refine V.storeO Fk12 rfl rfl rfl rfl sz83 rfl rfl rfl rfl ?_
 rintro w18 G19 z21 Fs20
 clear Fk12
 have z22 := V.Fr.size G19
 first | replace F_o := F_o.mb G19 hD_o | clear F_o | skip
 first | replace Fk2 := Fk2.mv1 G19 (by omega) | clear Fk2 | skip
 first | replace F9 := F9.mv1 G19 (by first | exact ⟨by omega, by assumption⟩ | exact ⟨by omega, fun h => absurd h.1 (by assumption)⟩ | exact ⟨by omega, fun h => absurd h.1.1 (by assumption)⟩ | exact ⟨by omega, fun h => by first | (have h2 := h.1; have h3 := h.2; omega) | (have h2 := h; dsimp only at h2; omega)⟩ | first | omega | exact fun h => h | exact ⟨by omega, fun h => h⟩ | (intro h; first | (have := hD _ h; omega)) | (refine ⟨by omega, ?_⟩; intro h; first | (have := hD _ h; omega))) | clear F9 | skip
 replace HG := HG.n1 G19
 clear G19
 have Fk12 := Fs20; clear Fs20
 simp only [V.spliceL, V.cellsL] at Fk12
 refine V.nil ?_
 refine V.tN ?_
 refine V.seq ?_
 refine V.block ?_
 refine V.seq ?_
 refine V.region ?_
 refine V.run T_ok 1 rfl ?_
 refine V.loadO T_ok Fk12 rfl rfl rfl rfl rfl ?_
 refine V.run T_ok 1 rfl ?_
 refine V.nil ?_
 refine V.tN ?_
 refine V.condT rfl (fun h2 => ?_) (fun h2 => ?_)
 ·
  try replace h2 := V.dec h2
  try simp only [V.mk0, V.mk1, V.mk2, V.mk3] at h2
  refine V.seq ?_
  refine V.drawGT 12 (V.sel [(2, V.newSl (V.Cod.pair V.Cod.str V.Cod.str) w18.heap.size 1 ([(d.fr, d.to)] : List (ByteArray × ByteArray)))]) mixed (by kernel_rfl) (V.mono_cons V.newSl_mono V.mono_nil) ?_
  refine V.grun T_ok 1 rfl (V.sel_none rfl) ?_
  refine V.gloadO T_ok (fun w' h => Fk2.gr h.1) rfl rfl rfl rfl rfl rfl ?_
  refine V.gmkSlice T_ok (xs := ([(d.fr, d.to)] : List (ByteArray × ByteArray))) (C := (V.Cod.pair V.Cod.str V.Cod.str)) zero30 rfl rfl sz30 rfl rfl rfl rfl rfl rfl rfl (Nat.le_refl _) (fun w' h w'' g hsz Fk => by have hz1 := h.1.size; have hz2 := g.size; exact ((V.rowOfC (xs := ([(d.fr, d.to)] : List (ByteArray × ByteArray))) Fk (C := (V.Cod.pair V.Cod.str V.Cod.str)) (V.reps_cons (x := (d.fr, d.to)) ⟨_, _, rfl, rfl, rfl⟩ rfl rfl) rfl).sl.mono (fun k h => ⟨by have := h.1; omega, by have := h.2; omega⟩))) ?_
  rintro k23
  refine V.grun T_ok 1 rfl (V.sel_none rfl) ?_
  refine V.gloadO T_ok (fun w' h => Fk2.gr h.1) rfl rfl rfl rfl rfl rfl ?_
  refine V.grun T_ok 2 rfl (V.sel_none rfl) ?_
  refine V.gsplit (j := 6) (t := 18) rfl rfl (fun g3_6 => ?_) (fun g3_6 => ?_)
  ·
   try replace g3_6 := V.dec g3_6
   try simp only [V.mk0, V.mk1, V.mk2, V.mk3] at g3_6
   refine V.grun T_ok 1 rfl (V.sel_none rfl) ?_
   refine V.gyes rfl rfl rfl ?_
   refine V.gloadO T_ok (fun w' h => Fk2.gr h.1) rfl rfl rfl rfl rfl rfl ?_
   refine V.grun T_ok 3 rfl (V.sel_none rfl) ?_
   refine V.gnil ?_
   rintro w25 G26 hH27
   have z28 := V.Fr.size G26
   try replace F_o := F_o.gr G26
   try replace Fk2 := Fk2.gr G26
   try replace F9 := F9.gr G26
   try replace Fk12 := Fk12.gr G26
   replace HG := HG.grow G26
   clear G26
   have F24 := V.newSl_get (V.Hist.here (hH27 2))
   clear hH27
   refine V.run T_ok 1 rfl ?_
   refine V.nil ?_
   refine V.tN ?_
   refine V.ret ?_
   refine V.bR ?_
   refine V.tR ?_
   refine V.done rfl ?_
   rw [show spnV d = [(d.fr, d.to)] by unfold spnV; rw [if_pos (by assumption)]]
   exact ⟨(some ⟨k23, 0, none⟩), (([(d.fr, d.to)] : List (ByteArray × ByteArray)).length), (congrArg (fun b_ => Value.tuple #[_, Value.bool b_]) (by unfold spnW; grind)), F24.re, HG⟩
  ·
   try replace g3_6 := V.dec g3_6
   try simp only [V.mk0, V.mk1, V.mk2, V.mk3] at g3_6
   refine V.grun T_ok 5 rfl (V.sel_none rfl) ?_
   refine V.gnil ?_
   rintro w29 G30 hH31
   have z32 := V.Fr.size G30
   try replace F_o := F_o.gr G30
   try replace Fk2 := Fk2.gr G30
   try replace F9 := F9.gr G30
   try replace Fk12 := Fk12.gr G30
   replace HG := HG.grow G30
   clear G30
   have F24 := V.newSl_get (V.Hist.here (hH31 2))
   clear hH31
   refine V.run T_ok 1 rfl ?_
   refine V.nil ?_
   refine V.tN ?_
   refine V.ret ?_
   refine V.bR ?_
   refine V.tR ?_
   refine V.done rfl ?_
   rw [show spnV d = [(d.fr, d.to)] by unfold spnV; rw [if_pos (by assumption)]]
   exact ⟨(some ⟨k23, 0, none⟩), (([(d.fr, d.to)] : List (ByteArray × ByteArray)).length), (congrArg (fun b_ => Value.tuple #[_, Value.bool b_]) (by unfold spnW; grind)), F24.re, HG⟩
 ·
  try replace h2 := V.dec h2
  try simp only [V.mk0, V.mk1, V.mk2, V.mk3] at h2
  refine V.seq ?_
  refine V.region ?_
  refine V.run T_ok 1 rfl ?_
  refine V.loadO T_ok Fk12 rfl rfl rfl rfl rfl ?_
  refine V.run T_ok 1 rfl ?_
  refine V.nil ?_
  refine V.tN ?_
  refine V.condT rfl (fun h4 => ?_) (fun h4 => ?_)
  ·
   try replace h4 := V.dec h4
   try simp only [V.mk0, V.mk1, V.mk2, V.mk3] at h4
   refine V.seq ?_
   refine V.region ?_
   refine V.run T_ok 2 rfl ?_
   refine V.loadO T_ok Fk2 rfl rfl rfl rfl rfl ?_
   refine V.mkStruct T_ok zero30 rfl rfl rfl rfl rfl ?_
   refine V.mkSlice T_ok zero30 rfl rfl sz30 rfl rfl rfl rfl rfl rfl ?_
   rintro k33 w36 s38 s39 G37 Fk34
   have z40 := V.Fr.size G37
   try replace F_o := F_o.gr G37
   try replace Fk2 := Fk2.gr G37
   try replace F9 := F9.gr G37
   try replace Fk12 := Fk12.gr G37
   replace HG := HG.grow G37
   clear G37
   have F35 := V.rowOfC (xs := ([(d.an, ByteArray.empty)] : List (ByteArray × ByteArray))) Fk34 (C := (V.Cod.pair V.Cod.str V.Cod.str)) (V.reps_cons (x := (d.an, ByteArray.empty)) ⟨_, _, rfl, rfl, rfl⟩ rfl rfl) rfl
   clear Fk34
   refine V.run T_ok 2 rfl ?_
   refine V.nil ?_
   refine V.tN ?_
   refine V.ret ?_
   refine V.bR ?_
   refine V.tR ?_
   refine V.done rfl ?_
   rw [show spnV d = [(d.an, S [])] by unfold spnV; rw [if_neg (by simp [*]), if_pos (by assumption)]]
   exact ⟨(some ⟨k33, 0, none⟩), (([(d.an, ByteArray.empty)] : List (ByteArray × ByteArray)).length), (congrArg (fun b_ => Value.tuple #[_, Value.bool b_]) (by unfold spnW; grind)), F35.sl.re, HG⟩
  ·
   try replace h4 := V.dec h4
   try simp only [V.mk0, V.mk1, V.mk2, V.mk3] at h4
   refine V.skip ?_
   refine V.bN ?_
   refine V.tN ?_
   refine V.seq ?_
   refine V.region ?_
   refine V.run T_ok 2 rfl ?_
   refine V.nil ?_
   refine V.tN ?_
   refine V.ret ?_
   refine V.done rfl ?_
   rw [show spnV d = [] by unfold spnV; rw [if_neg (by simp [*]), if_neg (by simp [*])]]
   exact ⟨none, 0, (congrArg (fun b_ => Value.tuple #[_, Value.bool b_]) (by unfold spnW; grind)), (Sl.nil _ _ _ _ _ (Nat.zero_le _)), HG⟩

set_option maxHeartbeats 900000 in
set_option maxRecDepth 10000 in
theorem ckey_spec {w : World} {d : CmdV} {D_o : Nat → Prop} {c_o : Nat} {a_o : Option Addr} (F_o : Sl V.Cod.write w D_o a_o c_o d.ws) (hD_o : ∀ k, D_o k → k < w.heap.size)   :
    Meets Try.prog 18 [.agg #[.int .i64 d.kd, .int .i64 d.id, .int .i64 d.le, .int .i64 d.nd, .int .i64 d.ti, .int .i64 d.te, .string d.an, .int .i64 d.sw, .int .i64 d.sl, .int .i64 d.sq, .string d.fr, .string d.to, .string d.va, .bool d.go, .int .i64 d.aw, .int .i64 d.al, .int .i64 d.lw, .int .i64 d.ll, .bool d.cm, .bool d.st, .slice a_o d.ws.length c_o, .int .i64 d.pr]] w fun r w' => r = .string (keyV d) ∧ Gr w w' := by
 have HG := V.Fr.refl [] w
 refine V.enter (n := 17) Try.func18 rfl rfl (by decide) rfl ?_
 refine V.seq ?_
 refine V.region ?_
 refine V.box rfl rfl rfl rfl ?_
 rintro k1 w3 s5 s6 G4 Fk2
 have z7 := V.Fr.size G4
 try replace F_o := F_o.gr G4
 replace HG := HG.grow G4
 clear G4
 try simp only [V.cellsL, V.spliceL] at Fk2
 refine V.run T_ok 1 rfl ?_
 refine V.nil ?_
 refine V.tN ?_
 refine V.seq ?_
 refine V.region ?_
 refine V.loadO T_ok Fk2 rfl rfl rfl rfl rfl ?_
 refine V.call (spans_spec (d := d) F_o (fun k hk => by have := hD_o k hk; omega)) rfl rfl rfl ?_
 rintro _ w11 ⟨a8, c9, rfl, F10, G12⟩
 have z13 := V.Fr.size G12
 try replace F_o := F_o.gr G12
 try replace Fk2 := Fk2.gr G12
 replace HG := HG.grow G12
 clear G12
 refine V.run T_ok 5 rfl ?_
 refine V.nil ?_
 refine V.tN ?_
 refine V.seq ?_
 refine V.seq ?_
 refine V.region ?_
 refine V.run T_ok 3 rfl ?_
 refine V.nil ?_
 refine V.tN ?_
 refine V.condT rfl (fun h2 => ?_) (fun h2 => ?_)
 ·
  try replace h2 := V.dec h2
  try simp only [V.mk0, V.mk1, V.mk2, V.mk3] at h2
  refine V.seq ?_
  refine V.region ?_
  refine V.run T_ok 1 rfl ?_
  refine V.nil ?_
  refine V.tN ?_
  refine V.ret ?_
  refine V.tR ?_
  refine V.done rfl ?_
  rw [key_no (d := d) (by omega)]
  exact ⟨(by first | rfl | simp only [List.length_set]), HG⟩
 ·
  try replace h2 := V.dec h2
  try simp only [V.mk0, V.mk1, V.mk2, V.mk3] at h2
  refine V.skip ?_
  refine V.tN ?_
  refine V.seq ?_
  refine V.region ?_
  refine V.run T_ok 1 rfl ?_
  refine V.elem T_ok F10 rfl rfl sz30 rfl rfl rfl rfl (by first | omega | (simp only [List.length_take, List.length_drop, List.length_append, List.length_cons, List.length_nil, List.length_replicate, List.length_set, V.length_data, V.S_size]; omega)) (by first | omega | (simp only [List.length_take, List.length_drop, List.length_append, List.length_cons, List.length_nil, List.length_replicate, List.length_set, V.length_data, V.S_size]; omega)) ?_
  rintro b14 o15 cs16 hx17 hb18 hR21 hA19
  obtain ⟨x20, hx20⟩ : ∃ z', (spnV d)[(0 : Int).toNat] = z' := ⟨_, rfl⟩
  rw [hx20] at hR21
  obtain ⟨_, _, rfl, rfl, rfl⟩ := hR21
  try simp only [Int.toNat_natCast] at hx20 hx17
  refine V.run T_ok 1 rfl ?_
  refine V.loadA T_ok (o0 := o15) (off := 0) hA19 rfl rfl rfl rfl rfl ?_
  refine V.run T_ok 1 rfl ?_
  refine V.nil ?_
  refine V.tN ?_
  refine V.ret ?_
  refine V.done rfl ?_
  rw [show keyV d = x20.1 from key_at (by rw [List.getElem?_eq_getElem (by omega)]; exact congrArg some hx20)]
  exact ⟨(by first | rfl | simp only [List.length_set]), HG⟩

theorem eqG28 : Try.prog.eqGuardType Try.prog.depth 28 = false := by kernel_rfl
theorem eqD28 (d : Nat) (w : World) {x0 y0 : Int} {x1 y1 : Int} {x2 y2 : ByteArray} {x3 y3 : Int} {x4 y4 : Int} : (Op.equalIn (d + 3) 28 (.agg #[.int .i64 x0, .int .i64 x1, .string x2, .int .i64 x3, .int .i64 x4]) (.agg #[.int .i64 y0, .int .i64 y1, .string y2, .int .i64 y3, .int .i64 y4])).run Try.prog w = .ok ((decide (x0 = y0)) && ((decide (x1 = y1)) && ((decide (x2 = y2)) && (((decide (x3 = y3)) && ((decide (x4 = y4)) && (true))) && (true))))) w :=
  V.eqIn_struct _ Try.underlying28 (by kernel_rfl) (V.eqF_cons (agg := false) (by decide) sz3 (by kernel_rfl) (by kernel_rfl) rfl rfl (V.eqIn_int _ Try.underlying3) (V.eqF_cons (agg := false) (by decide) sz3 (by kernel_rfl) (by kernel_rfl) rfl rfl (V.eqIn_int _ Try.underlying3) (V.eqF_cons (agg := false) (by decide) sz9 (by kernel_rfl) (by kernel_rfl) rfl rfl (V.eqIn_str _ Try.underlying9) (V.eqF_cons (agg := true) (by decide) sz26 (by kernel_rfl) (by kernel_rfl) rfl rfl (eqD26 _ w) V.eqF_nil))))
theorem eqS28 (w : World) {x0 y0 : Int} {x1 y1 : Int} {x2 y2 : ByteArray} {x3 y3 : Int} {x4 y4 : Int} : (Op.equalIn 10000 28 (.agg #[.int .i64 x0, .int .i64 x1, .string x2, .int .i64 x3, .int .i64 x4]) (.agg #[.int .i64 y0, .int .i64 y1, .string y2, .int .i64 y3, .int .i64 y4])).run Try.prog w = .ok ((decide (x0 = y0)) && ((decide (x1 = y1)) && ((decide (x2 = y2)) && (((decide (x3 = y3)) && ((decide (x4 = y4)) && (true))) && (true))))) w := eqD28 9997 w


theorem eqG65 : Try.prog.eqGuardType Try.prog.depth 65 = false := by kernel_rfl
theorem eqD65 (d : Nat) (w : World) {x0 y0 : ByteArray} {x1 y1 : Int} : (Op.equalIn (d + 2) 65 (.agg #[.string x0, .int .i64 x1]) (.agg #[.string y0, .int .i64 y1])).run Try.prog w = .ok ((decide (x0 = y0)) && ((decide (x1 = y1)) && (true))) w :=
  V.eqIn_struct _ Try.underlying65 (by kernel_rfl) (V.eqF_cons (agg := false) (by decide) sz9 (by kernel_rfl) (by kernel_rfl) rfl rfl (V.eqIn_str _ Try.underlying9) (V.eqF_cons (agg := false) (by decide) sz3 (by kernel_rfl) (by kernel_rfl) rfl rfl (V.eqIn_int _ Try.underlying3) V.eqF_nil))
theorem eqS65 (w : World) {x0 y0 : ByteArray} {x1 y1 : Int} : (Op.equalIn 10000 65 (.agg #[.string x0, .int .i64 x1]) (.agg #[.string y0, .int .i64 y1])).run Try.prog w = .ok ((decide (x0 = y0)) && ((decide (x1 = y1)) && (true))) w := eqD65 9998 w

set_option maxHeartbeats 900000 in
set_option maxRecDepth 10000 in
theorem equalW_spec {w : World}  {D_xs : Nat → Prop} {c_xs : Nat} {a_xs : Option Addr} {xs : List (ByteArray × Int)} (F_xs : Sl V.Cod.write w D_xs a_xs c_xs xs) {D_ys : Nat → Prop} {c_ys : Nat} {a_ys : Option Addr} {ys : List (ByteArray × Int)} (F_ys : Sl V.Cod.write w D_ys a_ys c_ys ys)  :
    Meets Try.prog 41 [.slice a_xs xs.length c_xs, .slice a_ys ys.length c_ys] w fun r w' => r = .bool (decide (xs = ys)) ∧ Gr w w' := by
 have HG := V.Fr.refl [] w
 refine V.enter (n := 26) Try.func41 rfl rfl (by decide) rfl ?_
 refine V.seq ?_
 refine V.region ?_
 refine V.run T_ok 1 rfl ?_
 refine V.nil ?_
 refine V.tN ?_
 refine V.seq ?_
 refine V.seq ?_
 refine V.region ?_
 refine V.run T_ok 5 rfl ?_
 refine V.nil ?_
 refine V.tN ?_
 refine V.condT rfl (fun h1 => ?_) (fun h1 => ?_)
 ·
  try replace h1 := V.dec h1
  try simp only [V.mk0, V.mk1, V.mk2, V.mk3] at h1
  refine V.seq ?_
  refine V.region ?_
  refine V.run T_ok 1 rfl ?_
  refine V.nil ?_
  refine V.tN ?_
  refine V.ret ?_
  refine V.tR ?_
  refine V.done rfl ?_
  exact ⟨congrArg Value.bool (decide_eq_false (fun h => h1 (by rw [h]))).symm, HG⟩
 ·
  try replace h1 := V.dec h1
  try simp only [V.mk0, V.mk1, V.mk2, V.mk3] at h1
  refine V.skip ?_
  refine V.tN ?_
  refine V.seq ?_
  refine V.seq ?_
  refine V.region ?_
  refine V.run T_ok 3 rfl ?_
  refine V.nil ?_
  refine V.tN ?_
  refine V.block ?_
  have hl63 := F_xs.len63
  refine V.loopM (fun m e v2 => Fr [] w v2 ∧ w.heap.size ≤ v2.heap.size ∧ Sl V.Cod.write v2 D_xs a_xs c_xs xs ∧ Sl V.Cod.write v2 D_ys a_ys c_ys ys ∧ ∃ (i : Nat) , m = xs.length - i ∧ i ≤ xs.length ∧ (∀ j (hj : j < xs.length) (hj2 : j < ys.length), j < i → xs[j] = ys[j]) ∧ e 0 = .slice a_xs xs.length c_xs ∧ e 1 = .slice a_ys ys.length c_ys ∧ e 12 = .int .i64 (xs.length : Int) ∧ e 13 = .int .i64 (i : Int)) ?_ ?_
  ·
   exact ⟨_, HG, (by omega), F_xs, F_ys, (0), rfl, (by omega), (fun j hj hj2 h => absurd h (Nat.not_lt_zero _)), rfl, rfl, rfl, rfl⟩
  clear HG F_xs F_ys
  rintro _ e v2 ⟨HG, z3, F_xs, F_ys, i, rfl, hi, hno, he0_0, he0_1, he0_12, he0_13⟩
  refine V.knownC (t := 0) he0_0 ?_
  refine V.knownC (t := 1) he0_1 ?_
  refine V.knownC (t := 12) he0_12 ?_
  refine V.knownC (t := 13) he0_13 ?_
  refine V.seq ?_
  refine V.region ?_
  refine V.run T_ok 1 rfl ?_
  refine V.nil ?_
  refine V.tN ?_
  refine V.seq ?_
  refine V.condT rfl (fun h4 => ?_) (fun h4 => ?_)
  ·
   try replace h4 := V.dec h4
   try simp only [V.mk0, V.mk1, V.mk2, V.mk3] at h4
   refine V.skip ?_
   refine V.tN ?_
   refine V.seq ?_
   refine V.block ?_
   refine V.seq ?_
   refine V.region ?_
   refine V.run T_ok 2 rfl ?_
   refine V.nil ?_
   refine V.tN ?_
   refine V.seq ?_
   refine V.drawQ mixed (by kernel_rfl) ?_
   refine V.qrun T_ok 2 rfl ?_
   refine V.qelem T_ok F_xs rfl rfl sz65 rfl rfl rfl rfl (by first | omega | (simp only [List.length_take, List.length_drop, List.length_append, List.length_cons, List.length_nil, List.length_replicate, List.length_set, V.length_data, V.S_size]; omega)) (by first | omega | (simp only [List.length_take, List.length_drop, List.length_append, List.length_cons, List.length_nil, List.length_replicate, List.length_set, V.length_data, V.S_size]; omega)) ?_
   rintro b4 o5 cs6 hx7 hb8 hR11 hA9
   obtain ⟨x10, hx10⟩ : ∃ z', xs[((i : Int)).toNat] = z' := ⟨_, rfl⟩
   rw [hx10] at hR11
   obtain ⟨_, _, rfl, rfl, rfl⟩ := hR11
   try simp only [Int.toNat_natCast] at hx10 hx7
   refine V.qloadA T_ok (o0 := o5) (off := 0) hA9 rfl rfl rfl rfl rfl ?_
   refine V.qrun T_ok 2 rfl ?_
   refine V.qelem T_ok F_ys rfl rfl sz65 rfl rfl rfl rfl (by first | omega | (simp only [List.length_take, List.length_drop, List.length_append, List.length_cons, List.length_nil, List.length_replicate, List.length_set, V.length_data, V.S_size]; omega)) (by first | omega | (simp only [List.length_take, List.length_drop, List.length_append, List.length_cons, List.length_nil, List.length_replicate, List.length_set, V.length_data, V.S_size]; omega)) ?_
   rintro b12 o13 cs14 hx15 hb16 hR19 hA17
   obtain ⟨x18, hx18⟩ : ∃ z', ys[((i : Int)).toNat] = z' := ⟨_, rfl⟩
   rw [hx18] at hR19
   obtain ⟨_, _, rfl, rfl, rfl⟩ := hR19
   try simp only [Int.toNat_natCast] at hx18 hx15
   refine V.qloadA T_ok (o0 := o13) (off := 0) hA17 rfl rfl rfl rfl rfl ?_
   refine V.qstep rfl rfl (fun _ _ => V.neA_run rfl rfl rfl eqG65 (eqS65 _)) ?_
   refine V.qnil ?_
   rintro w20 G21
   have z22 := V.Fr.size G21
   try replace F_xs := F_xs.gr G21
   try replace F_ys := F_ys.gr G21
   replace HG := HG.grow G21
   clear G21
   refine V.tN ?_
   refine V.condT rfl (fun h6 => ?_) (fun h6 => ?_)
   ·
    try replace h6 := V.dec h6
    try simp only [V.mk0, V.mk1, V.mk2, V.mk3] at h6
    refine V.seq ?_
    refine V.region ?_
    refine V.run T_ok 1 rfl ?_
    refine V.nil ?_
    refine V.tN ?_
    refine V.ret ?_
    refine V.bR ?_
    refine V.tR ?_
    refine V.tR ?_
    refine V.bR ?_
    refine V.tR ?_
    refine V.done rfl ?_
    exact ⟨congrArg Value.bool (decide_eq_false (fun h => by subst h; subst_vars; simp at h6)).symm, HG⟩
   ·
    try replace h6 := V.dec h6
    try simp only [V.mk0, V.mk1, V.mk2, V.mk3] at h6
    refine V.skip ?_
    refine V.bN ?_
    refine V.tN ?_
    refine V.region ?_
    refine V.addN rfl rfl rfl rfl rfl (by first | omega | (simp only [List.length_take, List.length_drop, List.length_append, List.length_cons, List.length_nil, List.length_replicate, List.length_set, V.length_data, V.S_size]; omega)) (by first | omega | (simp only [List.length_take, List.length_drop, List.length_append, List.length_cons, List.length_nil, List.length_replicate, List.length_set, V.length_data, V.S_size]; omega)) ?_
    refine V.run T_ok 1 rfl ?_
    refine V.nil ?_
    refine V.tN ?_
    exact ⟨_, (by omega), HG, (by omega), F_xs, F_ys, (i + 1), rfl, (by omega), (fun j hj hj2 h => by rcases Nat.lt_or_ge j i with h2 | h2; exact hno j hj hj2 h2; obtain rfl : j = i := (by omega); subst_vars; grind), rfl, rfl, rfl, rfl⟩
  ·
   try replace h4 := V.dec h4
   try simp only [V.mk0, V.mk1, V.mk2, V.mk3] at h4
   refine V.exit ?_
   refine V.tX ?_
   refine V.tX ?_
   refine V.bE ?_
   refine V.tN ?_
   refine V.seq ?_
   refine V.region ?_
   refine V.run T_ok 1 rfl ?_
   refine V.nil ?_
   refine V.tN ?_
   refine V.ret ?_
   refine V.done rfl ?_
   exact ⟨congrArg Value.bool (decide_eq_true (List.ext_getElem (by omega) fun j h1 h2 => hno j h1 h2 (by omega))).symm, HG⟩

set_option maxHeartbeats 900000 in
set_option maxRecDepth 10000 in
theorem calike_spec {w : World} {c : CmdV} {D_p : Nat → Prop} {c_p : Nat} {a_p : Option Addr} (F_p : Sl V.Cod.write w D_p a_p c_p c.ws) (hD_p : ∀ k, D_p k → k < w.heap.size) {d : CmdV} {D_q : Nat → Prop} {c_q : Nat} {a_q : Option Addr} (F_q : Sl V.Cod.write w D_q a_q c_q d.ws) (hD_q : ∀ k, D_q k → k < w.heap.size)   :
    Meets Try.prog 15 [.agg #[.int .i64 c.kd, .int .i64 c.id, .int .i64 c.le, .int .i64 c.nd, .int .i64 c.ti, .int .i64 c.te, .string c.an, .int .i64 c.sw, .int .i64 c.sl, .int .i64 c.sq, .string c.fr, .string c.to, .string c.va, .bool c.go, .int .i64 c.aw, .int .i64 c.al, .int .i64 c.lw, .int .i64 c.ll, .bool c.cm, .bool c.st, .slice a_p c.ws.length c_p, .int .i64 c.pr], .agg #[.int .i64 d.kd, .int .i64 d.id, .int .i64 d.le, .int .i64 d.nd, .int .i64 d.ti, .int .i64 d.te, .string d.an, .int .i64 d.sw, .int .i64 d.sl, .int .i64 d.sq, .string d.fr, .string d.to, .string d.va, .bool d.go, .int .i64 d.aw, .int .i64 d.al, .int .i64 d.lw, .int .i64 d.ll, .bool d.cm, .bool d.st, .slice a_q d.ws.length c_q, .int .i64 d.pr]] w fun r w' => r = .bool (smB c d) ∧ Gr w w' := by
 have HG := V.Fr.refl [] w
 refine V.enter (n := 112) Try.func15 rfl rfl (by decide) rfl ?_
 refine V.seq ?_
 refine V.region ?_
 refine V.box rfl rfl rfl rfl ?_
 rintro k1 w3 s5 s6 G4 Fk2
 have z7 := V.Fr.size G4
 try replace F_p := F_p.gr G4
 try replace F_q := F_q.gr G4
 replace HG := HG.grow G4
 clear G4
 try simp only [V.cellsL, V.spliceL] at Fk2
 refine V.box rfl rfl rfl rfl ?_
 rintro k8 w10 s12 s13 G11 Fk9
 have z14 := V.Fr.size G11
 try replace F_p := F_p.gr G11
 try replace F_q := F_q.gr G11
 try replace Fk2 := Fk2.gr G11
 replace HG := HG.grow G11
 clear G11
 try simp only [V.cellsL, V.spliceL] at Fk9
 refine V.run T_ok 1 rfl ?_
 refine V.nil ?_
 refine V.tN ?_
 refine V.seq ?_
 refine V.region ?_
 refine V.run T_ok 1 rfl ?_
 refine V.loadO T_ok Fk2 rfl rfl rfl rfl rfl ?_
 refine V.run T_ok 1 rfl ?_
 refine V.loadO T_ok Fk9 rfl rfl rfl rfl rfl ?_
 refine V.run T_ok 2 rfl ?_
 refine V.split (j := 5) (t := 12) rfl rfl (fun g1_5 => ?_) (fun g1_5 => ?_)
 ·
  try replace g1_5 := V.dec g1_5
  try simp only [V.mk0, V.mk1, V.mk2, V.mk3] at g1_5
  refine V.run T_ok 1 rfl ?_
  refine V.yes rfl rfl rfl ?_
  refine V.loadO T_ok Fk2 rfl rfl rfl rfl rfl ?_
  refine V.run T_ok 1 rfl ?_
  refine V.yes rfl rfl rfl ?_
  refine V.loadO T_ok Fk9 rfl rfl rfl rfl rfl ?_
  refine V.run T_ok 3 rfl ?_
  refine V.split (j := 12) (t := 19) rfl rfl (fun g1_12 => ?_) (fun g1_12 => ?_)
  ·
   try replace g1_12 := V.dec g1_12
   try simp only [V.mk0, V.mk1, V.mk2, V.mk3] at g1_12
   refine V.run T_ok 1 rfl ?_
   refine V.yes rfl rfl rfl ?_
   refine V.loadO T_ok Fk2 rfl rfl rfl rfl rfl ?_
   refine V.run T_ok 1 rfl ?_
   refine V.yes rfl rfl rfl ?_
   refine V.loadO T_ok Fk9 rfl rfl rfl rfl rfl ?_
   refine V.run T_ok 3 rfl ?_
   refine V.split (j := 19) (t := 26) rfl rfl (fun g1_19 => ?_) (fun g1_19 => ?_)
   ·
    try replace g1_19 := V.dec g1_19
    try simp only [V.mk0, V.mk1, V.mk2, V.mk3] at g1_19
    refine V.run T_ok 1 rfl ?_
    refine V.yes rfl rfl rfl ?_
    refine V.loadO T_ok Fk2 rfl rfl rfl rfl rfl ?_
    refine V.run T_ok 1 rfl ?_
    refine V.yes rfl rfl rfl ?_
    refine V.loadO T_ok Fk9 rfl rfl rfl rfl rfl ?_
    refine V.run T_ok 3 rfl ?_
    refine V.split (j := 26) (t := 33) rfl rfl (fun g1_26 => ?_) (fun g1_26 => ?_)
    ·
     try replace g1_26 := V.dec g1_26
     try simp only [V.mk0, V.mk1, V.mk2, V.mk3] at g1_26
     refine V.run T_ok 1 rfl ?_
     refine V.yes rfl rfl rfl ?_
     refine V.loadO T_ok Fk2 rfl rfl rfl rfl rfl ?_
     refine V.run T_ok 1 rfl ?_
     refine V.yes rfl rfl rfl ?_
     refine V.loadO T_ok Fk9 rfl rfl rfl rfl rfl ?_
     refine V.yes rfl rfl rfl ?_
     refine V.step rfl rfl (V.eqA_run rfl rfl rfl eqG28 (eqS28 _)) ?_
     refine V.run T_ok 2 rfl ?_
     refine V.split (j := 33) (t := 40) rfl rfl (fun g1_33 => ?_) (fun g1_33 => ?_)
     ·
      try replace g1_33 := V.dec g1_33
      try simp only [V.mk0, V.mk1, V.mk2, V.mk3] at g1_33
      refine V.run T_ok 1 rfl ?_
      refine V.yes rfl rfl rfl ?_
      refine V.loadO T_ok Fk2 rfl rfl rfl rfl rfl ?_
      refine V.run T_ok 1 rfl ?_
      refine V.yes rfl rfl rfl ?_
      refine V.loadO T_ok Fk9 rfl rfl rfl rfl rfl ?_
      refine V.run T_ok 3 rfl ?_
      refine V.split (j := 40) (t := 47) rfl rfl (fun g1_40 => ?_) (fun g1_40 => ?_)
      ·
       try replace g1_40 := V.dec g1_40
       try simp only [V.mk0, V.mk1, V.mk2, V.mk3] at g1_40
       refine V.run T_ok 1 rfl ?_
       refine V.yes rfl rfl rfl ?_
       refine V.loadO T_ok Fk2 rfl rfl rfl rfl rfl ?_
       refine V.run T_ok 1 rfl ?_
       refine V.yes rfl rfl rfl ?_
       refine V.loadO T_ok Fk9 rfl rfl rfl rfl rfl ?_
       refine V.yes rfl rfl rfl ?_
       refine V.step rfl rfl (V.eqA_run rfl rfl rfl eqG30 (eqS30 _)) ?_
       refine V.run T_ok 2 rfl ?_
       refine V.nil ?_
       refine V.tN ?_
       refine V.seq ?_
       refine V.region ?_
       refine V.run T_ok 1 rfl ?_
       refine V.loadO T_ok Fk2 rfl rfl rfl rfl rfl ?_
       refine V.run T_ok 1 rfl ?_
       refine V.loadO T_ok Fk9 rfl rfl rfl rfl rfl ?_
       refine V.run T_ok 2 rfl ?_
       refine V.split (j := 5) (t := 59) rfl rfl (fun g2_5 => ?_) (fun g2_5 => ?_)
       ·
        try replace g2_5 := V.dec g2_5
        try simp only [V.mk0, V.mk1, V.mk2, V.mk3] at g2_5
        refine V.run T_ok 1 rfl ?_
        refine V.yes rfl rfl rfl ?_
        refine V.loadO T_ok Fk2 rfl rfl rfl rfl rfl ?_
        refine V.run T_ok 1 rfl ?_
        refine V.yes rfl rfl rfl ?_
        refine V.loadO T_ok Fk9 rfl rfl rfl rfl rfl ?_
        refine V.run T_ok 3 rfl ?_
        refine V.split (j := 12) (t := 66) rfl rfl (fun g2_12 => ?_) (fun g2_12 => ?_)
        ·
         try replace g2_12 := V.dec g2_12
         try simp only [V.mk0, V.mk1, V.mk2, V.mk3] at g2_12
         refine V.run T_ok 1 rfl ?_
         refine V.yes rfl rfl rfl ?_
         refine V.loadO T_ok Fk2 rfl rfl rfl rfl rfl ?_
         refine V.run T_ok 1 rfl ?_
         refine V.yes rfl rfl rfl ?_
         refine V.loadO T_ok Fk9 rfl rfl rfl rfl rfl ?_
         refine V.yes rfl rfl rfl ?_
         refine V.step rfl rfl (V.eqA_run rfl rfl rfl eqG26 (eqS26 _)) ?_
         refine V.run T_ok 2 rfl ?_
         refine V.split (j := 19) (t := 73) rfl rfl (fun g2_19 => ?_) (fun g2_19 => ?_)
         ·
          try replace g2_19 := V.dec g2_19
          try simp only [V.mk0, V.mk1, V.mk2, V.mk3] at g2_19
          refine V.run T_ok 1 rfl ?_
          refine V.yes rfl rfl rfl ?_
          refine V.loadO T_ok Fk2 rfl rfl rfl rfl rfl ?_
          refine V.run T_ok 1 rfl ?_
          refine V.yes rfl rfl rfl ?_
          refine V.loadO T_ok Fk9 rfl rfl rfl rfl rfl ?_
          refine V.yes rfl rfl rfl ?_
          refine V.step rfl rfl (V.eqA_run rfl rfl rfl eqG26 (eqS26 _)) ?_
          refine V.run T_ok 2 rfl ?_
          refine V.split (j := 26) (t := 80) rfl rfl (fun g2_26 => ?_) (fun g2_26 => ?_)
          ·
           try replace g2_26 := V.dec g2_26
           try simp only [V.mk0, V.mk1, V.mk2, V.mk3] at g2_26
           refine V.run T_ok 1 rfl ?_
           refine V.yes rfl rfl rfl ?_
           refine V.loadO T_ok Fk2 rfl rfl rfl rfl rfl ?_
           refine V.run T_ok 1 rfl ?_
           refine V.yes rfl rfl rfl ?_
           refine V.loadO T_ok Fk9 rfl rfl rfl rfl rfl ?_
           refine V.run T_ok 3 rfl ?_
           refine V.split (j := 33) (t := 87) rfl rfl (fun g2_33 => ?_) (fun g2_33 => ?_)
           ·
            try replace g2_33 := V.dec g2_33
            try simp only [V.mk0, V.mk1, V.mk2, V.mk3] at g2_33
            refine V.run T_ok 1 rfl ?_
            refine V.yes rfl rfl rfl ?_
            refine V.loadO T_ok Fk2 rfl rfl rfl rfl rfl ?_
            refine V.run T_ok 1 rfl ?_
            refine V.yes rfl rfl rfl ?_
            refine V.loadO T_ok Fk9 rfl rfl rfl rfl rfl ?_
            refine V.run T_ok 3 rfl ?_
            refine V.split (j := 40) (t := 94) rfl rfl (fun g2_40 => ?_) (fun g2_40 => ?_)
            ·
             try replace g2_40 := V.dec g2_40
             try simp only [V.mk0, V.mk1, V.mk2, V.mk3] at g2_40
             refine V.run T_ok 1 rfl ?_
             refine V.yes rfl rfl rfl ?_
             refine V.loadO T_ok Fk2 rfl rfl rfl rfl rfl ?_
             refine V.run T_ok 1 rfl ?_
             refine V.yes rfl rfl rfl ?_
             refine V.loadO T_ok Fk9 rfl rfl rfl rfl rfl ?_
             refine V.run T_ok 3 rfl ?_
             refine V.nil ?_
             refine V.tN ?_
             refine V.seq ?_
             refine V.region ?_
             refine V.run T_ok 2 rfl ?_
             refine V.andG T_ok 1 1 102 rfl rfl rfl rfl rfl rfl rfl rfl ?_
             refine V.run T_ok 1 rfl ?_
             refine V.split (j := 4) (t := 105) rfl rfl (fun g3_4 => ?_) (fun g3_4 => ?_)
             ·
              try replace g3_4 := V.dec g3_4
              try simp only [V.mk0, V.mk1, V.mk2, V.mk3] at g3_4
              refine V.run T_ok 1 rfl ?_
              refine V.yes rfl rfl rfl ?_
              refine V.loadO T_ok Fk2 rfl rfl rfl rfl rfl ?_
              refine V.run T_ok 1 rfl ?_
              refine V.yes rfl rfl rfl ?_
              refine V.loadO T_ok Fk9 rfl rfl rfl rfl rfl ?_
              refine V.yes rfl rfl rfl ?_
              refine V.call (equalW_spec F_p F_q) rfl rfl rfl ?_
              rintro _ w15 ⟨rfl, G16⟩
              have z17 := V.Fr.size G16
              try replace F_p := F_p.gr G16
              try replace F_q := F_q.gr G16
              try replace Fk2 := Fk2.gr G16
              try replace Fk9 := Fk9.gr G16
              replace HG := HG.grow G16
              clear G16
              refine V.run T_ok 2 rfl ?_
              refine V.nil ?_
              refine V.tN ?_
              refine V.ret ?_
              refine V.done rfl ?_
              exact ⟨(congrArg Value.bool (by first | rfl | (unfold smB; grind))), HG⟩
             ·
              try replace g3_4 := V.dec g3_4
              try simp only [V.mk0, V.mk1, V.mk2, V.mk3] at g3_4
              refine V.run T_ok 7 rfl ?_
              refine V.nil ?_
              refine V.tN ?_
              refine V.ret ?_
              refine V.done rfl ?_
              exact ⟨(congrArg Value.bool (by first | rfl | (unfold smB; grind))), HG⟩
            ·
             try replace g2_40 := V.dec g2_40
             try simp only [V.mk0, V.mk1, V.mk2, V.mk3] at g2_40
             refine V.run T_ok 7 rfl ?_
             refine V.nil ?_
             refine V.tN ?_
             refine V.seq ?_
             refine V.region ?_
             refine V.run T_ok 2 rfl ?_
             refine V.andG T_ok 1 1 102 rfl rfl rfl rfl rfl rfl rfl rfl ?_
             refine V.run T_ok 1 rfl ?_
             refine V.split (j := 4) (t := 105) rfl rfl (fun g3_4 => ?_) (fun g3_4 => ?_)
             ·
              try replace g3_4 := V.dec g3_4
              try simp only [V.mk0, V.mk1, V.mk2, V.mk3] at g3_4
              refine V.run T_ok 1 rfl ?_
              refine V.yes rfl rfl rfl ?_
              refine V.loadO T_ok Fk2 rfl rfl rfl rfl rfl ?_
              refine V.run T_ok 1 rfl ?_
              refine V.yes rfl rfl rfl ?_
              refine V.loadO T_ok Fk9 rfl rfl rfl rfl rfl ?_
              refine V.yes rfl rfl rfl ?_
              refine V.call (equalW_spec F_p F_q) rfl rfl rfl ?_
              rintro _ w18 ⟨rfl, G19⟩
              have z20 := V.Fr.size G19
              try replace F_p := F_p.gr G19
              try replace F_q := F_q.gr G19
              try replace Fk2 := Fk2.gr G19
              try replace Fk9 := Fk9.gr G19
              replace HG := HG.grow G19
              clear G19
              refine V.run T_ok 2 rfl ?_
              refine V.nil ?_
              refine V.tN ?_
              refine V.ret ?_
              refine V.done rfl ?_
              exact ⟨(congrArg Value.bool (by first | rfl | (unfold smB; grind))), HG⟩
             ·
              try replace g3_4 := V.dec g3_4
              try simp only [V.mk0, V.mk1, V.mk2, V.mk3] at g3_4
              refine V.run T_ok 7 rfl ?_
              refine V.nil ?_
              refine V.tN ?_
              refine V.ret ?_
              refine V.done rfl ?_
              exact ⟨(congrArg Value.bool (by first | rfl | (unfold smB; grind))), HG⟩
           ·
            try replace g2_33 := V.dec g2_33
            try simp only [V.mk0, V.mk1, V.mk2, V.mk3] at g2_33
            refine V.run T_ok 14 rfl ?_
            refine V.nil ?_
            refine V.tN ?_
            refine V.seq ?_
            refine V.region ?_
            refine V.run T_ok 2 rfl ?_
            refine V.andG T_ok 1 1 102 rfl rfl rfl rfl rfl rfl rfl rfl ?_
            refine V.run T_ok 1 rfl ?_
            refine V.split (j := 4) (t := 105) rfl rfl (fun g3_4 => ?_) (fun g3_4 => ?_)
            ·
             try replace g3_4 := V.dec g3_4
             try simp only [V.mk0, V.mk1, V.mk2, V.mk3] at g3_4
             refine V.run T_ok 1 rfl ?_
             refine V.yes rfl rfl rfl ?_
             refine V.loadO T_ok Fk2 rfl rfl rfl rfl rfl ?_
             refine V.run T_ok 1 rfl ?_
             refine V.yes rfl rfl rfl ?_
             refine V.loadO T_ok Fk9 rfl rfl rfl rfl rfl ?_
             refine V.yes rfl rfl rfl ?_
             refine V.call (equalW_spec F_p F_q) rfl rfl rfl ?_
             rintro _ w21 ⟨rfl, G22⟩
             have z23 := V.Fr.size G22
             try replace F_p := F_p.gr G22
             try replace F_q := F_q.gr G22
             try replace Fk2 := Fk2.gr G22
             try replace Fk9 := Fk9.gr G22
             replace HG := HG.grow G22
             clear G22
             refine V.run T_ok 2 rfl ?_
             refine V.nil ?_
             refine V.tN ?_
             refine V.ret ?_
             refine V.done rfl ?_
             exact ⟨(congrArg Value.bool (by first | rfl | (unfold smB; grind))), HG⟩
            ·
             try replace g3_4 := V.dec g3_4
             try simp only [V.mk0, V.mk1, V.mk2, V.mk3] at g3_4
             refine V.run T_ok 7 rfl ?_
             refine V.nil ?_
             refine V.tN ?_
             refine V.ret ?_
             refine V.done rfl ?_
             exact ⟨(congrArg Value.bool (by first | rfl | (unfold smB; grind))), HG⟩
          ·
           try replace g2_26 := V.dec g2_26
           try simp only [V.mk0, V.mk1, V.mk2, V.mk3] at g2_26
           refine V.run T_ok 21 rfl ?_
           refine V.nil ?_
           refine V.tN ?_
           refine V.seq ?_
           refine V.region ?_
           refine V.run T_ok 2 rfl ?_
           refine V.andG T_ok 1 1 102 rfl rfl rfl rfl rfl rfl rfl rfl ?_
           refine V.run T_ok 1 rfl ?_
           refine V.split (j := 4) (t := 105) rfl rfl (fun g3_4 => ?_) (fun g3_4 => ?_)
           ·
            try replace g3_4 := V.dec g3_4
            try simp only [V.mk0, V.mk1, V.mk2, V.mk3] at g3_4
            refine V.run T_ok 1 rfl ?_
            refine V.yes rfl rfl rfl ?_
            refine V.loadO T_ok Fk2 rfl rfl rfl rfl rfl ?_
            refine V.run T_ok 1 rfl ?_
            refine V.yes rfl rfl rfl ?_
            refine V.loadO T_ok Fk9 rfl rfl rfl rfl rfl ?_
            refine V.yes rfl rfl rfl ?_
            refine V.call (equalW_spec F_p F_q) rfl rfl rfl ?_
            rintro _ w24 ⟨rfl, G25⟩
            have z26 := V.Fr.size G25
            try replace F_p := F_p.gr G25
            try replace F_q := F_q.gr G25
            try replace Fk2 := Fk2.gr G25
            try replace Fk9 := Fk9.gr G25
            replace HG := HG.grow G25
            clear G25
            refine V.run T_ok 2 rfl ?_
            refine V.nil ?_
            refine V.tN ?_
            refine V.ret ?_
            refine V.done rfl ?_
            exact ⟨(congrArg Value.bool (by first | rfl | (unfold smB; grind))), HG⟩
           ·
            try replace g3_4 := V.dec g3_4
            try simp only [V.mk0, V.mk1, V.mk2, V.mk3] at g3_4
            refine V.run T_ok 7 rfl ?_
            refine V.nil ?_
            refine V.tN ?_
            refine V.ret ?_
            refine V.done rfl ?_
            exact ⟨(congrArg Value.bool (by first | rfl | (unfold smB; grind))), HG⟩
         ·
          try replace g2_19 := V.dec g2_19
          try simp only [V.mk0, V.mk1, V.mk2, V.mk3] at g2_19
          refine V.run T_ok 28 rfl ?_
          refine V.nil ?_
          refine V.tN ?_
          refine V.seq ?_
          refine V.region ?_
          refine V.run T_ok 2 rfl ?_
          refine V.andG T_ok 1 1 102 rfl rfl rfl rfl rfl rfl rfl rfl ?_
          refine V.run T_ok 1 rfl ?_
          refine V.split (j := 4) (t := 105) rfl rfl (fun g3_4 => ?_) (fun g3_4 => ?_)
          ·
           try replace g3_4 := V.dec g3_4
           try simp only [V.mk0, V.mk1, V.mk2, V.mk3] at g3_4
           refine V.run T_ok 1 rfl ?_
           refine V.yes rfl rfl rfl ?_
           refine V.loadO T_ok Fk2 rfl rfl rfl rfl rfl ?_
           refine V.run T_ok 1 rfl ?_
           refine V.yes rfl rfl rfl ?_
           refine V.loadO T_ok Fk9 rfl rfl rfl rfl rfl ?_
           refine V.yes rfl rfl rfl ?_
           refine V.call (equalW_spec F_p F_q) rfl rfl rfl ?_
           rintro _ w27 ⟨rfl, G28⟩
           have z29 := V.Fr.size G28
           try replace F_p := F_p.gr G28
           try replace F_q := F_q.gr G28
           try replace Fk2 := Fk2.gr G28
           try replace Fk9 := Fk9.gr G28
           replace HG := HG.grow G28
           clear G28
           refine V.run T_ok 2 rfl ?_
           refine V.nil ?_
           refine V.tN ?_
           refine V.ret ?_
           refine V.done rfl ?_
           exact ⟨(congrArg Value.bool (by first | rfl | (unfold smB; grind))), HG⟩
          ·
           try replace g3_4 := V.dec g3_4
           try simp only [V.mk0, V.mk1, V.mk2, V.mk3] at g3_4
           refine V.run T_ok 7 rfl ?_
           refine V.nil ?_
           refine V.tN ?_
           refine V.ret ?_
           refine V.done rfl ?_
           exact ⟨(congrArg Value.bool (by first | rfl | (unfold smB; grind))), HG⟩
        ·
         try replace g2_12 := V.dec g2_12
         try simp only [V.mk0, V.mk1, V.mk2, V.mk3] at g2_12
         refine V.run T_ok 35 rfl ?_
         refine V.nil ?_
         refine V.tN ?_
         refine V.seq ?_
         refine V.region ?_
         refine V.run T_ok 2 rfl ?_
         refine V.andG T_ok 1 1 102 rfl rfl rfl rfl rfl rfl rfl rfl ?_
         refine V.run T_ok 1 rfl ?_
         refine V.split (j := 4) (t := 105) rfl rfl (fun g3_4 => ?_) (fun g3_4 => ?_)
         ·
          try replace g3_4 := V.dec g3_4
          try simp only [V.mk0, V.mk1, V.mk2, V.mk3] at g3_4
          refine V.run T_ok 1 rfl ?_
          refine V.yes rfl rfl rfl ?_
          refine V.loadO T_ok Fk2 rfl rfl rfl rfl rfl ?_
          refine V.run T_ok 1 rfl ?_
          refine V.yes rfl rfl rfl ?_
          refine V.loadO T_ok Fk9 rfl rfl rfl rfl rfl ?_
          refine V.yes rfl rfl rfl ?_
          refine V.call (equalW_spec F_p F_q) rfl rfl rfl ?_
          rintro _ w30 ⟨rfl, G31⟩
          have z32 := V.Fr.size G31
          try replace F_p := F_p.gr G31
          try replace F_q := F_q.gr G31
          try replace Fk2 := Fk2.gr G31
          try replace Fk9 := Fk9.gr G31
          replace HG := HG.grow G31
          clear G31
          refine V.run T_ok 2 rfl ?_
          refine V.nil ?_
          refine V.tN ?_
          refine V.ret ?_
          refine V.done rfl ?_
          exact ⟨(congrArg Value.bool (by first | rfl | (unfold smB; grind))), HG⟩
         ·
          try replace g3_4 := V.dec g3_4
          try simp only [V.mk0, V.mk1, V.mk2, V.mk3] at g3_4
          refine V.run T_ok 7 rfl ?_
          refine V.nil ?_
          refine V.tN ?_
          refine V.ret ?_
          refine V.done rfl ?_
          exact ⟨(congrArg Value.bool (by first | rfl | (unfold smB; grind))), HG⟩
       ·
        try replace g2_5 := V.dec g2_5
        try simp only [V.mk0, V.mk1, V.mk2, V.mk3] at g2_5
        refine V.run T_ok 42 rfl ?_
        refine V.nil ?_
        refine V.tN ?_
        refine V.seq ?_
        refine V.region ?_
        refine V.run T_ok 2 rfl ?_
        refine V.andG T_ok 1 1 102 rfl rfl rfl rfl rfl rfl rfl rfl ?_
        refine V.run T_ok 1 rfl ?_
        refine V.split (j := 4) (t := 105) rfl rfl (fun g3_4 => ?_) (fun g3_4 => ?_)
        ·
         try replace g3_4 := V.dec g3_4
         try simp only [V.mk0, V.mk1, V.mk2, V.mk3] at g3_4
         refine V.run T_ok 1 rfl ?_
         refine V.yes rfl rfl rfl ?_
         refine V.loadO T_ok Fk2 rfl rfl rfl rfl rfl ?_
         refine V.run T_ok 1 rfl ?_
         refine V.yes rfl rfl rfl ?_
         refine V.loadO T_ok Fk9 rfl rfl rfl rfl rfl ?_
         refine V.yes rfl rfl rfl ?_
         refine V.call (equalW_spec F_p F_q) rfl rfl rfl ?_
         rintro _ w33 ⟨rfl, G34⟩
         have z35 := V.Fr.size G34
         try replace F_p := F_p.gr G34
         try replace F_q := F_q.gr G34
         try replace Fk2 := Fk2.gr G34
         try replace Fk9 := Fk9.gr G34
         replace HG := HG.grow G34
         clear G34
         refine V.run T_ok 2 rfl ?_
         refine V.nil ?_
         refine V.tN ?_
         refine V.ret ?_
         refine V.done rfl ?_
         exact ⟨(congrArg Value.bool (by first | rfl | (unfold smB; grind))), HG⟩
        ·
         try replace g3_4 := V.dec g3_4
         try simp only [V.mk0, V.mk1, V.mk2, V.mk3] at g3_4
         refine V.run T_ok 7 rfl ?_
         refine V.nil ?_
         refine V.tN ?_
         refine V.ret ?_
         refine V.done rfl ?_
         exact ⟨(congrArg Value.bool (by first | rfl | (unfold smB; grind))), HG⟩
      ·
       try replace g1_40 := V.dec g1_40
       try simp only [V.mk0, V.mk1, V.mk2, V.mk3] at g1_40
       refine V.run T_ok 7 rfl ?_
       refine V.nil ?_
       refine V.tN ?_
       refine V.seq ?_
       refine V.region ?_
       refine V.run T_ok 1 rfl ?_
       refine V.loadO T_ok Fk2 rfl rfl rfl rfl rfl ?_
       refine V.run T_ok 1 rfl ?_
       refine V.loadO T_ok Fk9 rfl rfl rfl rfl rfl ?_
       refine V.run T_ok 2 rfl ?_
       refine V.split (j := 5) (t := 59) rfl rfl (fun g2_5 => ?_) (fun g2_5 => ?_)
       ·
        try replace g2_5 := V.dec g2_5
        try simp only [V.mk0, V.mk1, V.mk2, V.mk3] at g2_5
        refine V.run T_ok 1 rfl ?_
        refine V.yes rfl rfl rfl ?_
        refine V.loadO T_ok Fk2 rfl rfl rfl rfl rfl ?_
        refine V.run T_ok 1 rfl ?_
        refine V.yes rfl rfl rfl ?_
        refine V.loadO T_ok Fk9 rfl rfl rfl rfl rfl ?_
        refine V.run T_ok 3 rfl ?_
        refine V.split (j := 12) (t := 66) rfl rfl (fun g2_12 => ?_) (fun g2_12 => ?_)
        ·
         try replace g2_12 := V.dec g2_12
         try simp only [V.mk0, V.mk1, V.mk2, V.mk3] at g2_12
         refine V.run T_ok 1 rfl ?_
         refine V.yes rfl rfl rfl ?_
         refine V.loadO T_ok Fk2 rfl rfl rfl rfl rfl ?_
         refine V.run T_ok 1 rfl ?_
         refine V.yes rfl rfl rfl ?_
         refine V.loadO T_ok Fk9 rfl rfl rfl rfl rfl ?_
         refine V.yes rfl rfl rfl ?_
         refine V.step rfl rfl (V.eqA_run rfl rfl rfl eqG26 (eqS26 _)) ?_
         refine V.run T_ok 2 rfl ?_
         refine V.split (j := 19) (t := 73) rfl rfl (fun g2_19 => ?_) (fun g2_19 => ?_)
         ·
          try replace g2_19 := V.dec g2_19
          try simp only [V.mk0, V.mk1, V.mk2, V.mk3] at g2_19
          refine V.run T_ok 1 rfl ?_
          refine V.yes rfl rfl rfl ?_
          refine V.loadO T_ok Fk2 rfl rfl rfl rfl rfl ?_
          refine V.run T_ok 1 rfl ?_
          refine V.yes rfl rfl rfl ?_
          refine V.loadO T_ok Fk9 rfl rfl rfl rfl rfl ?_
          refine V.yes rfl rfl rfl ?_
          refine V.step rfl rfl (V.eqA_run rfl rfl rfl eqG26 (eqS26 _)) ?_
          refine V.run T_ok 2 rfl ?_
          refine V.split (j := 26) (t := 80) rfl rfl (fun g2_26 => ?_) (fun g2_26 => ?_)
          ·
           try replace g2_26 := V.dec g2_26
           try simp only [V.mk0, V.mk1, V.mk2, V.mk3] at g2_26
           refine V.run T_ok 1 rfl ?_
           refine V.yes rfl rfl rfl ?_
           refine V.loadO T_ok Fk2 rfl rfl rfl rfl rfl ?_
           refine V.run T_ok 1 rfl ?_
           refine V.yes rfl rfl rfl ?_
           refine V.loadO T_ok Fk9 rfl rfl rfl rfl rfl ?_
           refine V.run T_ok 3 rfl ?_
           refine V.split (j := 33) (t := 87) rfl rfl (fun g2_33 => ?_) (fun g2_33 => ?_)
           ·
            try replace g2_33 := V.dec g2_33
            try simp only [V.mk0, V.mk1, V.mk2, V.mk3] at g2_33
            refine V.run T_ok 1 rfl ?_
            refine V.yes rfl rfl rfl ?_
            refine V.loadO T_ok Fk2 rfl rfl rfl rfl rfl ?_
            refine V.run T_ok 1 rfl ?_
            refine V.yes rfl rfl rfl ?_
            refine V.loadO T_ok Fk9 rfl rfl rfl rfl rfl ?_
            refine V.run T_ok 3 rfl ?_
            refine V.split (j := 40) (t := 94) rfl rfl (fun g2_40 => ?_) (fun g2_40 => ?_)
            ·
             try replace g2_40 := V.dec g2_40
             try simp only [V.mk0, V.mk1, V.mk2, V.mk3] at g2_40
             refine V.run T_ok 1 rfl ?_
             refine V.yes rfl rfl rfl ?_
             refine V.loadO T_ok Fk2 rfl rfl rfl rfl rfl ?_
             refine V.run T_ok 1 rfl ?_
             refine V.yes rfl rfl rfl ?_
             refine V.loadO T_ok Fk9 rfl rfl rfl rfl rfl ?_
             refine V.run T_ok 3 rfl ?_
             refine V.nil ?_
             refine V.tN ?_
             refine V.seq ?_
             refine V.region ?_
             refine V.run T_ok 12 rfl ?_
             refine V.nil ?_
             refine V.tN ?_
             refine V.ret ?_
             refine V.done rfl ?_
             exact ⟨(congrArg Value.bool (by first | rfl | (unfold smB; grind))), HG⟩
            ·
             try replace g2_40 := V.dec g2_40
             try simp only [V.mk0, V.mk1, V.mk2, V.mk3] at g2_40
             refine V.run T_ok 7 rfl ?_
             refine V.nil ?_
             refine V.tN ?_
             refine V.seq ?_
             refine V.region ?_
             refine V.run T_ok 12 rfl ?_
             refine V.nil ?_
             refine V.tN ?_
             refine V.ret ?_
             refine V.done rfl ?_
             exact ⟨(congrArg Value.bool (by first | rfl | (unfold smB; grind))), HG⟩
           ·
            try replace g2_33 := V.dec g2_33
            try simp only [V.mk0, V.mk1, V.mk2, V.mk3] at g2_33
            refine V.run T_ok 14 rfl ?_
            refine V.nil ?_
            refine V.tN ?_
            refine V.seq ?_
            refine V.region ?_
            refine V.run T_ok 12 rfl ?_
            refine V.nil ?_
            refine V.tN ?_
            refine V.ret ?_
            refine V.done rfl ?_
            exact ⟨(congrArg Value.bool (by first | rfl | (unfold smB; grind))), HG⟩
          ·
           try replace g2_26 := V.dec g2_26
           try simp only [V.mk0, V.mk1, V.mk2, V.mk3] at g2_26
           refine V.run T_ok 21 rfl ?_
           refine V.nil ?_
           refine V.tN ?_
           refine V.seq ?_
           refine V.region ?_
           refine V.run T_ok 12 rfl ?_
           refine V.nil ?_
           refine V.tN ?_
           refine V.ret ?_
           refine V.done rfl ?_
           exact ⟨(congrArg Value.bool (by first | rfl | (unfold smB; grind))), HG⟩
         ·
          try replace g2_19 := V.dec g2_19
          try simp only [V.mk0, V.mk1, V.mk2, V.mk3] at g2_19
          refine V.run T_ok 28 rfl ?_
          refine V.nil ?_
          refine V.tN ?_
          refine V.seq ?_
          refine V.region ?_
          refine V.run T_ok 12 rfl ?_
          refine V.nil ?_
          refine V.tN ?_
          refine V.ret ?_
          refine V.done rfl ?_
          exact ⟨(congrArg Value.bool (by first | rfl | (unfold smB; grind))), HG⟩
        ·
         try replace g2_12 := V.dec g2_12
         try simp only [V.mk0, V.mk1, V.mk2, V.mk3] at g2_12
         refine V.run T_ok 35 rfl ?_
         refine V.nil ?_
         refine V.tN ?_
         refine V.seq ?_
         refine V.region ?_
         refine V.run T_ok 12 rfl ?_
         refine V.nil ?_
         refine V.tN ?_
         refine V.ret ?_
         refine V.done rfl ?_
         exact ⟨(congrArg Value.bool (by first | rfl | (unfold smB; grind))), HG⟩
       ·
        try replace g2_5 := V.dec g2_5
        try simp only [V.mk0, V.mk1, V.mk2, V.mk3] at g2_5
        refine V.run T_ok 42 rfl ?_
        refine V.nil ?_
        refine V.tN ?_
        refine V.seq ?_
        refine V.region ?_
        refine V.run T_ok 12 rfl ?_
        refine V.nil ?_
        refine V.tN ?_
        refine V.ret ?_
        refine V.done rfl ?_
        exact ⟨(congrArg Value.bool (by first | rfl | (unfold smB; grind))), HG⟩
     ·
      try replace g1_33 := V.dec g1_33
      try simp only [V.mk0, V.mk1, V.mk2, V.mk3] at g1_33
      refine V.run T_ok 14 rfl ?_
      refine V.nil ?_
      refine V.tN ?_
      refine V.seq ?_
      refine V.region ?_
      refine V.run T_ok 1 rfl ?_
      refine V.loadO T_ok Fk2 rfl rfl rfl rfl rfl ?_
      refine V.run T_ok 1 rfl ?_
      refine V.loadO T_ok Fk9 rfl rfl rfl rfl rfl ?_
      refine V.run T_ok 2 rfl ?_
      refine V.split (j := 5) (t := 59) rfl rfl (fun g2_5 => ?_) (fun g2_5 => ?_)
      ·
       try replace g2_5 := V.dec g2_5
       try simp only [V.mk0, V.mk1, V.mk2, V.mk3] at g2_5
       refine V.run T_ok 1 rfl ?_
       refine V.yes rfl rfl rfl ?_
       refine V.loadO T_ok Fk2 rfl rfl rfl rfl rfl ?_
       refine V.run T_ok 1 rfl ?_
       refine V.yes rfl rfl rfl ?_
       refine V.loadO T_ok Fk9 rfl rfl rfl rfl rfl ?_
       refine V.run T_ok 3 rfl ?_
       refine V.split (j := 12) (t := 66) rfl rfl (fun g2_12 => ?_) (fun g2_12 => ?_)
       ·
        try replace g2_12 := V.dec g2_12
        try simp only [V.mk0, V.mk1, V.mk2, V.mk3] at g2_12
        refine V.run T_ok 1 rfl ?_
        refine V.yes rfl rfl rfl ?_
        refine V.loadO T_ok Fk2 rfl rfl rfl rfl rfl ?_
        refine V.run T_ok 1 rfl ?_
        refine V.yes rfl rfl rfl ?_
        refine V.loadO T_ok Fk9 rfl rfl rfl rfl rfl ?_
        refine V.yes rfl rfl rfl ?_
        refine V.step rfl rfl (V.eqA_run rfl rfl rfl eqG26 (eqS26 _)) ?_
        refine V.run T_ok 2 rfl ?_
        refine V.split (j := 19) (t := 73) rfl rfl (fun g2_19 => ?_) (fun g2_19 => ?_)
        ·
         try replace g2_19 := V.dec g2_19
         try simp only [V.mk0, V.mk1, V.mk2, V.mk3] at g2_19
         refine V.run T_ok 1 rfl ?_
         refine V.yes rfl rfl rfl ?_
         refine V.loadO T_ok Fk2 rfl rfl rfl rfl rfl ?_
         refine V.run T_ok 1 rfl ?_
         refine V.yes rfl rfl rfl ?_
         refine V.loadO T_ok Fk9 rfl rfl rfl rfl rfl ?_
         refine V.yes rfl rfl rfl ?_
         refine V.step rfl rfl (V.eqA_run rfl rfl rfl eqG26 (eqS26 _)) ?_
         refine V.run T_ok 2 rfl ?_
         refine V.split (j := 26) (t := 80) rfl rfl (fun g2_26 => ?_) (fun g2_26 => ?_)
         ·
          try replace g2_26 := V.dec g2_26
          try simp only [V.mk0, V.mk1, V.mk2, V.mk3] at g2_26
          refine V.run T_ok 1 rfl ?_
          refine V.yes rfl rfl rfl ?_
          refine V.loadO T_ok Fk2 rfl rfl rfl rfl rfl ?_
          refine V.run T_ok 1 rfl ?_
          refine V.yes rfl rfl rfl ?_
          refine V.loadO T_ok Fk9 rfl rfl rfl rfl rfl ?_
          refine V.run T_ok 3 rfl ?_
          refine V.split (j := 33) (t := 87) rfl rfl (fun g2_33 => ?_) (fun g2_33 => ?_)
          ·
           try replace g2_33 := V.dec g2_33
           try simp only [V.mk0, V.mk1, V.mk2, V.mk3] at g2_33
           refine V.run T_ok 1 rfl ?_
           refine V.yes rfl rfl rfl ?_
           refine V.loadO T_ok Fk2 rfl rfl rfl rfl rfl ?_
           refine V.run T_ok 1 rfl ?_
           refine V.yes rfl rfl rfl ?_
           refine V.loadO T_ok Fk9 rfl rfl rfl rfl rfl ?_
           refine V.run T_ok 3 rfl ?_
           refine V.split (j := 40) (t := 94) rfl rfl (fun g2_40 => ?_) (fun g2_40 => ?_)
           ·
            try replace g2_40 := V.dec g2_40
            try simp only [V.mk0, V.mk1, V.mk2, V.mk3] at g2_40
            refine V.run T_ok 1 rfl ?_
            refine V.yes rfl rfl rfl ?_
            refine V.loadO T_ok Fk2 rfl rfl rfl rfl rfl ?_
            refine V.run T_ok 1 rfl ?_
            refine V.yes rfl rfl rfl ?_
            refine V.loadO T_ok Fk9 rfl rfl rfl rfl rfl ?_
            refine V.run T_ok 3 rfl ?_
            refine V.nil ?_
            refine V.tN ?_
            refine V.seq ?_
            refine V.region ?_
            refine V.run T_ok 12 rfl ?_
            refine V.nil ?_
            refine V.tN ?_
            refine V.ret ?_
            refine V.done rfl ?_
            exact ⟨(congrArg Value.bool (by first | rfl | (unfold smB; grind))), HG⟩
           ·
            try replace g2_40 := V.dec g2_40
            try simp only [V.mk0, V.mk1, V.mk2, V.mk3] at g2_40
            refine V.run T_ok 7 rfl ?_
            refine V.nil ?_
            refine V.tN ?_
            refine V.seq ?_
            refine V.region ?_
            refine V.run T_ok 12 rfl ?_
            refine V.nil ?_
            refine V.tN ?_
            refine V.ret ?_
            refine V.done rfl ?_
            exact ⟨(congrArg Value.bool (by first | rfl | (unfold smB; grind))), HG⟩
          ·
           try replace g2_33 := V.dec g2_33
           try simp only [V.mk0, V.mk1, V.mk2, V.mk3] at g2_33
           refine V.run T_ok 14 rfl ?_
           refine V.nil ?_
           refine V.tN ?_
           refine V.seq ?_
           refine V.region ?_
           refine V.run T_ok 12 rfl ?_
           refine V.nil ?_
           refine V.tN ?_
           refine V.ret ?_
           refine V.done rfl ?_
           exact ⟨(congrArg Value.bool (by first | rfl | (unfold smB; grind))), HG⟩
         ·
          try replace g2_26 := V.dec g2_26
          try simp only [V.mk0, V.mk1, V.mk2, V.mk3] at g2_26
          refine V.run T_ok 21 rfl ?_
          refine V.nil ?_
          refine V.tN ?_
          refine V.seq ?_
          refine V.region ?_
          refine V.run T_ok 12 rfl ?_
          refine V.nil ?_
          refine V.tN ?_
          refine V.ret ?_
          refine V.done rfl ?_
          exact ⟨(congrArg Value.bool (by first | rfl | (unfold smB; grind))), HG⟩
        ·
         try replace g2_19 := V.dec g2_19
         try simp only [V.mk0, V.mk1, V.mk2, V.mk3] at g2_19
         refine V.run T_ok 28 rfl ?_
         refine V.nil ?_
         refine V.tN ?_
         refine V.seq ?_
         refine V.region ?_
         refine V.run T_ok 12 rfl ?_
         refine V.nil ?_
         refine V.tN ?_
         refine V.ret ?_
         refine V.done rfl ?_
         exact ⟨(congrArg Value.bool (by first | rfl | (unfold smB; grind))), HG⟩
       ·
        try replace g2_12 := V.dec g2_12
        try simp only [V.mk0, V.mk1, V.mk2, V.mk3] at g2_12
        refine V.run T_ok 35 rfl ?_
        refine V.nil ?_
        refine V.tN ?_
        refine V.seq ?_
        refine V.region ?_
        refine V.run T_ok 12 rfl ?_
        refine V.nil ?_
        refine V.tN ?_
        refine V.ret ?_
        refine V.done rfl ?_
        exact ⟨(congrArg Value.bool (by first | rfl | (unfold smB; grind))), HG⟩
      ·
       try replace g2_5 := V.dec g2_5
       try simp only [V.mk0, V.mk1, V.mk2, V.mk3] at g2_5
       refine V.run T_ok 42 rfl ?_
       refine V.nil ?_
       refine V.tN ?_
       refine V.seq ?_
       refine V.region ?_
       refine V.run T_ok 12 rfl ?_
       refine V.nil ?_
       refine V.tN ?_
       refine V.ret ?_
       refine V.done rfl ?_
       exact ⟨(congrArg Value.bool (by first | rfl | (unfold smB; grind))), HG⟩
    ·
     try replace g1_26 := V.dec g1_26
     try simp only [V.mk0, V.mk1, V.mk2, V.mk3] at g1_26
     refine V.run T_ok 21 rfl ?_
     refine V.nil ?_
     refine V.tN ?_
     refine V.seq ?_
     refine V.region ?_
     refine V.run T_ok 1 rfl ?_
     refine V.loadO T_ok Fk2 rfl rfl rfl rfl rfl ?_
     refine V.run T_ok 1 rfl ?_
     refine V.loadO T_ok Fk9 rfl rfl rfl rfl rfl ?_
     refine V.run T_ok 2 rfl ?_
     refine V.split (j := 5) (t := 59) rfl rfl (fun g2_5 => ?_) (fun g2_5 => ?_)
     ·
      try replace g2_5 := V.dec g2_5
      try simp only [V.mk0, V.mk1, V.mk2, V.mk3] at g2_5
      refine V.run T_ok 1 rfl ?_
      refine V.yes rfl rfl rfl ?_
      refine V.loadO T_ok Fk2 rfl rfl rfl rfl rfl ?_
      refine V.run T_ok 1 rfl ?_
      refine V.yes rfl rfl rfl ?_
      refine V.loadO T_ok Fk9 rfl rfl rfl rfl rfl ?_
      refine V.run T_ok 3 rfl ?_
      refine V.split (j := 12) (t := 66) rfl rfl (fun g2_12 => ?_) (fun g2_12 => ?_)
      ·
       try replace g2_12 := V.dec g2_12
       try simp only [V.mk0, V.mk1, V.mk2, V.mk3] at g2_12
       refine V.run T_ok 1 rfl ?_
       refine V.yes rfl rfl rfl ?_
       refine V.loadO T_ok Fk2 rfl rfl rfl rfl rfl ?_
       refine V.run T_ok 1 rfl ?_
       refine V.yes rfl rfl rfl ?_
       refine V.loadO T_ok Fk9 rfl rfl rfl rfl rfl ?_
       refine V.yes rfl rfl rfl ?_
       refine V.step rfl rfl (V.eqA_run rfl rfl rfl eqG26 (eqS26 _)) ?_
       refine V.run T_ok 2 rfl ?_
       refine V.split (j := 19) (t := 73) rfl rfl (fun g2_19 => ?_) (fun g2_19 => ?_)
       ·
        try replace g2_19 := V.dec g2_19
        try simp only [V.mk0, V.mk1, V.mk2, V.mk3] at g2_19
        refine V.run T_ok 1 rfl ?_
        refine V.yes rfl rfl rfl ?_
        refine V.loadO T_ok Fk2 rfl rfl rfl rfl rfl ?_
        refine V.run T_ok 1 rfl ?_
        refine V.yes rfl rfl rfl ?_
        refine V.loadO T_ok Fk9 rfl rfl rfl rfl rfl ?_
        refine V.yes rfl rfl rfl ?_
        refine V.step rfl rfl (V.eqA_run rfl rfl rfl eqG26 (eqS26 _)) ?_
        refine V.run T_ok 2 rfl ?_
        refine V.split (j := 26) (t := 80) rfl rfl (fun g2_26 => ?_) (fun g2_26 => ?_)
        ·
         try replace g2_26 := V.dec g2_26
         try simp only [V.mk0, V.mk1, V.mk2, V.mk3] at g2_26
         refine V.run T_ok 1 rfl ?_
         refine V.yes rfl rfl rfl ?_
         refine V.loadO T_ok Fk2 rfl rfl rfl rfl rfl ?_
         refine V.run T_ok 1 rfl ?_
         refine V.yes rfl rfl rfl ?_
         refine V.loadO T_ok Fk9 rfl rfl rfl rfl rfl ?_
         refine V.run T_ok 3 rfl ?_
         refine V.split (j := 33) (t := 87) rfl rfl (fun g2_33 => ?_) (fun g2_33 => ?_)
         ·
          try replace g2_33 := V.dec g2_33
          try simp only [V.mk0, V.mk1, V.mk2, V.mk3] at g2_33
          refine V.run T_ok 1 rfl ?_
          refine V.yes rfl rfl rfl ?_
          refine V.loadO T_ok Fk2 rfl rfl rfl rfl rfl ?_
          refine V.run T_ok 1 rfl ?_
          refine V.yes rfl rfl rfl ?_
          refine V.loadO T_ok Fk9 rfl rfl rfl rfl rfl ?_
          refine V.run T_ok 3 rfl ?_
          refine V.split (j := 40) (t := 94) rfl rfl (fun g2_40 => ?_) (fun g2_40 => ?_)
          ·
           try replace g2_40 := V.dec g2_40
           try simp only [V.mk0, V.mk1, V.mk2, V.mk3] at g2_40
           refine V.run T_ok 1 rfl ?_
           refine V.yes rfl rfl rfl ?_
           refine V.loadO T_ok Fk2 rfl rfl rfl rfl rfl ?_
           refine V.run T_ok 1 rfl ?_
           refine V.yes rfl rfl rfl ?_
           refine V.loadO T_ok Fk9 rfl rfl rfl rfl rfl ?_
           refine V.run T_ok 3 rfl ?_
           refine V.nil ?_
           refine V.tN ?_
           refine V.seq ?_
           refine V.region ?_
           refine V.run T_ok 12 rfl ?_
           refine V.nil ?_
           refine V.tN ?_
           refine V.ret ?_
           refine V.done rfl ?_
           exact ⟨(congrArg Value.bool (by first | rfl | (unfold smB; grind))), HG⟩
          ·
           try replace g2_40 := V.dec g2_40
           try simp only [V.mk0, V.mk1, V.mk2, V.mk3] at g2_40
           refine V.run T_ok 7 rfl ?_
           refine V.nil ?_
           refine V.tN ?_
           refine V.seq ?_
           refine V.region ?_
           refine V.run T_ok 12 rfl ?_
           refine V.nil ?_
           refine V.tN ?_
           refine V.ret ?_
           refine V.done rfl ?_
           exact ⟨(congrArg Value.bool (by first | rfl | (unfold smB; grind))), HG⟩
         ·
          try replace g2_33 := V.dec g2_33
          try simp only [V.mk0, V.mk1, V.mk2, V.mk3] at g2_33
          refine V.run T_ok 14 rfl ?_
          refine V.nil ?_
          refine V.tN ?_
          refine V.seq ?_
          refine V.region ?_
          refine V.run T_ok 12 rfl ?_
          refine V.nil ?_
          refine V.tN ?_
          refine V.ret ?_
          refine V.done rfl ?_
          exact ⟨(congrArg Value.bool (by first | rfl | (unfold smB; grind))), HG⟩
        ·
         try replace g2_26 := V.dec g2_26
         try simp only [V.mk0, V.mk1, V.mk2, V.mk3] at g2_26
         refine V.run T_ok 21 rfl ?_
         refine V.nil ?_
         refine V.tN ?_
         refine V.seq ?_
         refine V.region ?_
         refine V.run T_ok 12 rfl ?_
         refine V.nil ?_
         refine V.tN ?_
         refine V.ret ?_
         refine V.done rfl ?_
         exact ⟨(congrArg Value.bool (by first | rfl | (unfold smB; grind))), HG⟩
       ·
        try replace g2_19 := V.dec g2_19
        try simp only [V.mk0, V.mk1, V.mk2, V.mk3] at g2_19
        refine V.run T_ok 28 rfl ?_
        refine V.nil ?_
        refine V.tN ?_
        refine V.seq ?_
        refine V.region ?_
        refine V.run T_ok 12 rfl ?_
        refine V.nil ?_
        refine V.tN ?_
        refine V.ret ?_
        refine V.done rfl ?_
        exact ⟨(congrArg Value.bool (by first | rfl | (unfold smB; grind))), HG⟩
      ·
       try replace g2_12 := V.dec g2_12
       try simp only [V.mk0, V.mk1, V.mk2, V.mk3] at g2_12
       refine V.run T_ok 35 rfl ?_
       refine V.nil ?_
       refine V.tN ?_
       refine V.seq ?_
       refine V.region ?_
       refine V.run T_ok 12 rfl ?_
       refine V.nil ?_
       refine V.tN ?_
       refine V.ret ?_
       refine V.done rfl ?_
       exact ⟨(congrArg Value.bool (by first | rfl | (unfold smB; grind))), HG⟩
     ·
      try replace g2_5 := V.dec g2_5
      try simp only [V.mk0, V.mk1, V.mk2, V.mk3] at g2_5
      refine V.run T_ok 42 rfl ?_
      refine V.nil ?_
      refine V.tN ?_
      refine V.seq ?_
      refine V.region ?_
      refine V.run T_ok 12 rfl ?_
      refine V.nil ?_
      refine V.tN ?_
      refine V.ret ?_
      refine V.done rfl ?_
      exact ⟨(congrArg Value.bool (by first | rfl | (unfold smB; grind))), HG⟩
   ·
    try replace g1_19 := V.dec g1_19
    try simp only [V.mk0, V.mk1, V.mk2, V.mk3] at g1_19
    refine V.run T_ok 28 rfl ?_
    refine V.nil ?_
    refine V.tN ?_
    refine V.seq ?_
    refine V.region ?_
    refine V.run T_ok 1 rfl ?_
    refine V.loadO T_ok Fk2 rfl rfl rfl rfl rfl ?_
    refine V.run T_ok 1 rfl ?_
    refine V.loadO T_ok Fk9 rfl rfl rfl rfl rfl ?_
    refine V.run T_ok 2 rfl ?_
    refine V.split (j := 5) (t := 59) rfl rfl (fun g2_5 => ?_) (fun g2_5 => ?_)
    ·
     try replace g2_5 := V.dec g2_5
     try simp only [V.mk0, V.mk1, V.mk2, V.mk3] at g2_5
     refine V.run T_ok 1 rfl ?_
     refine V.yes rfl rfl rfl ?_
     refine V.loadO T_ok Fk2 rfl rfl rfl rfl rfl ?_
     refine V.run T_ok 1 rfl ?_
     refine V.yes rfl rfl rfl ?_
     refine V.loadO T_ok Fk9 rfl rfl rfl rfl rfl ?_
     refine V.run T_ok 3 rfl ?_
     refine V.split (j := 12) (t := 66) rfl rfl (fun g2_12 => ?_) (fun g2_12 => ?_)
     ·
      try replace g2_12 := V.dec g2_12
      try simp only [V.mk0, V.mk1, V.mk2, V.mk3] at g2_12
      refine V.run T_ok 1 rfl ?_
      refine V.yes rfl rfl rfl ?_
      refine V.loadO T_ok Fk2 rfl rfl rfl rfl rfl ?_
      refine V.run T_ok 1 rfl ?_
      refine V.yes rfl rfl rfl ?_
      refine V.loadO T_ok Fk9 rfl rfl rfl rfl rfl ?_
      refine V.yes rfl rfl rfl ?_
      refine V.step rfl rfl (V.eqA_run rfl rfl rfl eqG26 (eqS26 _)) ?_
      refine V.run T_ok 2 rfl ?_
      refine V.split (j := 19) (t := 73) rfl rfl (fun g2_19 => ?_) (fun g2_19 => ?_)
      ·
       try replace g2_19 := V.dec g2_19
       try simp only [V.mk0, V.mk1, V.mk2, V.mk3] at g2_19
       refine V.run T_ok 1 rfl ?_
       refine V.yes rfl rfl rfl ?_
       refine V.loadO T_ok Fk2 rfl rfl rfl rfl rfl ?_
       refine V.run T_ok 1 rfl ?_
       refine V.yes rfl rfl rfl ?_
       refine V.loadO T_ok Fk9 rfl rfl rfl rfl rfl ?_
       refine V.yes rfl rfl rfl ?_
       refine V.step rfl rfl (V.eqA_run rfl rfl rfl eqG26 (eqS26 _)) ?_
       refine V.run T_ok 2 rfl ?_
       refine V.split (j := 26) (t := 80) rfl rfl (fun g2_26 => ?_) (fun g2_26 => ?_)
       ·
        try replace g2_26 := V.dec g2_26
        try simp only [V.mk0, V.mk1, V.mk2, V.mk3] at g2_26
        refine V.run T_ok 1 rfl ?_
        refine V.yes rfl rfl rfl ?_
        refine V.loadO T_ok Fk2 rfl rfl rfl rfl rfl ?_
        refine V.run T_ok 1 rfl ?_
        refine V.yes rfl rfl rfl ?_
        refine V.loadO T_ok Fk9 rfl rfl rfl rfl rfl ?_
        refine V.run T_ok 3 rfl ?_
        refine V.split (j := 33) (t := 87) rfl rfl (fun g2_33 => ?_) (fun g2_33 => ?_)
        ·
         try replace g2_33 := V.dec g2_33
         try simp only [V.mk0, V.mk1, V.mk2, V.mk3] at g2_33
         refine V.run T_ok 1 rfl ?_
         refine V.yes rfl rfl rfl ?_
         refine V.loadO T_ok Fk2 rfl rfl rfl rfl rfl ?_
         refine V.run T_ok 1 rfl ?_
         refine V.yes rfl rfl rfl ?_
         refine V.loadO T_ok Fk9 rfl rfl rfl rfl rfl ?_
         refine V.run T_ok 3 rfl ?_
         refine V.split (j := 40) (t := 94) rfl rfl (fun g2_40 => ?_) (fun g2_40 => ?_)
         ·
          try replace g2_40 := V.dec g2_40
          try simp only [V.mk0, V.mk1, V.mk2, V.mk3] at g2_40
          refine V.run T_ok 1 rfl ?_
          refine V.yes rfl rfl rfl ?_
          refine V.loadO T_ok Fk2 rfl rfl rfl rfl rfl ?_
          refine V.run T_ok 1 rfl ?_
          refine V.yes rfl rfl rfl ?_
          refine V.loadO T_ok Fk9 rfl rfl rfl rfl rfl ?_
          refine V.run T_ok 3 rfl ?_
          refine V.nil ?_
          refine V.tN ?_
          refine V.seq ?_
          refine V.region ?_
          refine V.run T_ok 12 rfl ?_
          refine V.nil ?_
          refine V.tN ?_
          refine V.ret ?_
          refine V.done rfl ?_
          exact ⟨(congrArg Value.bool (by first | rfl | (unfold smB; grind))), HG⟩
         ·
          try replace g2_40 := V.dec g2_40
          try simp only [V.mk0, V.mk1, V.mk2, V.mk3] at g2_40
          refine V.run T_ok 7 rfl ?_
          refine V.nil ?_
          refine V.tN ?_
          refine V.seq ?_
          refine V.region ?_
          refine V.run T_ok 12 rfl ?_
          refine V.nil ?_
          refine V.tN ?_
          refine V.ret ?_
          refine V.done rfl ?_
          exact ⟨(congrArg Value.bool (by first | rfl | (unfold smB; grind))), HG⟩
        ·
         try replace g2_33 := V.dec g2_33
         try simp only [V.mk0, V.mk1, V.mk2, V.mk3] at g2_33
         refine V.run T_ok 14 rfl ?_
         refine V.nil ?_
         refine V.tN ?_
         refine V.seq ?_
         refine V.region ?_
         refine V.run T_ok 12 rfl ?_
         refine V.nil ?_
         refine V.tN ?_
         refine V.ret ?_
         refine V.done rfl ?_
         exact ⟨(congrArg Value.bool (by first | rfl | (unfold smB; grind))), HG⟩
       ·
        try replace g2_26 := V.dec g2_26
        try simp only [V.mk0, V.mk1, V.mk2, V.mk3] at g2_26
        refine V.run T_ok 21 rfl ?_
        refine V.nil ?_
        refine V.tN ?_
        refine V.seq ?_
        refine V.region ?_
        refine V.run T_ok 12 rfl ?_
        refine V.nil ?_
        refine V.tN ?_
        refine V.ret ?_
        refine V.done rfl ?_
        exact ⟨(congrArg Value.bool (by first | rfl | (unfold smB; grind))), HG⟩
      ·
       try replace g2_19 := V.dec g2_19
       try simp only [V.mk0, V.mk1, V.mk2, V.mk3] at g2_19
       refine V.run T_ok 28 rfl ?_
       refine V.nil ?_
       refine V.tN ?_
       refine V.seq ?_
       refine V.region ?_
       refine V.run T_ok 12 rfl ?_
       refine V.nil ?_
       refine V.tN ?_
       refine V.ret ?_
       refine V.done rfl ?_
       exact ⟨(congrArg Value.bool (by first | rfl | (unfold smB; grind))), HG⟩
     ·
      try replace g2_12 := V.dec g2_12
      try simp only [V.mk0, V.mk1, V.mk2, V.mk3] at g2_12
      refine V.run T_ok 35 rfl ?_
      refine V.nil ?_
      refine V.tN ?_
      refine V.seq ?_
      refine V.region ?_
      refine V.run T_ok 12 rfl ?_
      refine V.nil ?_
      refine V.tN ?_
      refine V.ret ?_
      refine V.done rfl ?_
      exact ⟨(congrArg Value.bool (by first | rfl | (unfold smB; grind))), HG⟩
    ·
     try replace g2_5 := V.dec g2_5
     try simp only [V.mk0, V.mk1, V.mk2, V.mk3] at g2_5
     refine V.run T_ok 42 rfl ?_
     refine V.nil ?_
     refine V.tN ?_
     refine V.seq ?_
     refine V.region ?_
     refine V.run T_ok 12 rfl ?_
     refine V.nil ?_
     refine V.tN ?_
     refine V.ret ?_
     refine V.done rfl ?_
     exact ⟨(congrArg Value.bool (by first | rfl | (unfold smB; grind))), HG⟩
  ·
   try replace g1_12 := V.dec g1_12
   try simp only [V.mk0, V.mk1, V.mk2, V.mk3] at g1_12
   refine V.run T_ok 35 rfl ?_
   refine V.nil ?_
   refine V.tN ?_
   refine V.seq ?_
   refine V.region ?_
   refine V.run T_ok 1 rfl ?_
   refine V.loadO T_ok Fk2 rfl rfl rfl rfl rfl ?_
   refine V.run T_ok 1 rfl ?_
   refine V.loadO T_ok Fk9 rfl rfl rfl rfl rfl ?_
   refine V.run T_ok 2 rfl ?_
   refine V.split (j := 5) (t := 59) rfl rfl (fun g2_5 => ?_) (fun g2_5 => ?_)
   ·
    try replace g2_5 := V.dec g2_5
    try simp only [V.mk0, V.mk1, V.mk2, V.mk3] at g2_5
    refine V.run T_ok 1 rfl ?_
    refine V.yes rfl rfl rfl ?_
    refine V.loadO T_ok Fk2 rfl rfl rfl rfl rfl ?_
    refine V.run T_ok 1 rfl ?_
    refine V.yes rfl rfl rfl ?_
    refine V.loadO T_ok Fk9 rfl rfl rfl rfl rfl ?_
    refine V.run T_ok 3 rfl ?_
    refine V.split (j := 12) (t := 66) rfl rfl (fun g2_12 => ?_) (fun g2_12 => ?_)
    ·
     try replace g2_12 := V.dec g2_12
     try simp only [V.mk0, V.mk1, V.mk2, V.mk3] at g2_12
     refine V.run T_ok 1 rfl ?_
     refine V.yes rfl rfl rfl ?_
     refine V.loadO T_ok Fk2 rfl rfl rfl rfl rfl ?_
     refine V.run T_ok 1 rfl ?_
     refine V.yes rfl rfl rfl ?_
     refine V.loadO T_ok Fk9 rfl rfl rfl rfl rfl ?_
     refine V.yes rfl rfl rfl ?_
     refine V.step rfl rfl (V.eqA_run rfl rfl rfl eqG26 (eqS26 _)) ?_
     refine V.run T_ok 2 rfl ?_
     refine V.split (j := 19) (t := 73) rfl rfl (fun g2_19 => ?_) (fun g2_19 => ?_)
     ·
      try replace g2_19 := V.dec g2_19
      try simp only [V.mk0, V.mk1, V.mk2, V.mk3] at g2_19
      refine V.run T_ok 1 rfl ?_
      refine V.yes rfl rfl rfl ?_
      refine V.loadO T_ok Fk2 rfl rfl rfl rfl rfl ?_
      refine V.run T_ok 1 rfl ?_
      refine V.yes rfl rfl rfl ?_
      refine V.loadO T_ok Fk9 rfl rfl rfl rfl rfl ?_
      refine V.yes rfl rfl rfl ?_
      refine V.step rfl rfl (V.eqA_run rfl rfl rfl eqG26 (eqS26 _)) ?_
      refine V.run T_ok 2 rfl ?_
      refine V.split (j := 26) (t := 80) rfl rfl (fun g2_26 => ?_) (fun g2_26 => ?_)
      ·
       try replace g2_26 := V.dec g2_26
       try simp only [V.mk0, V.mk1, V.mk2, V.mk3] at g2_26
       refine V.run T_ok 1 rfl ?_
       refine V.yes rfl rfl rfl ?_
       refine V.loadO T_ok Fk2 rfl rfl rfl rfl rfl ?_
       refine V.run T_ok 1 rfl ?_
       refine V.yes rfl rfl rfl ?_
       refine V.loadO T_ok Fk9 rfl rfl rfl rfl rfl ?_
       refine V.run T_ok 3 rfl ?_
       refine V.split (j := 33) (t := 87) rfl rfl (fun g2_33 => ?_) (fun g2_33 => ?_)
       ·
        try replace g2_33 := V.dec g2_33
        try simp only [V.mk0, V.mk1, V.mk2, V.mk3] at g2_33
        refine V.run T_ok 1 rfl ?_
        refine V.yes rfl rfl rfl ?_
        refine V.loadO T_ok Fk2 rfl rfl rfl rfl rfl ?_
        refine V.run T_ok 1 rfl ?_
        refine V.yes rfl rfl rfl ?_
        refine V.loadO T_ok Fk9 rfl rfl rfl rfl rfl ?_
        refine V.run T_ok 3 rfl ?_
        refine V.split (j := 40) (t := 94) rfl rfl (fun g2_40 => ?_) (fun g2_40 => ?_)
        ·
         try replace g2_40 := V.dec g2_40
         try simp only [V.mk0, V.mk1, V.mk2, V.mk3] at g2_40
         refine V.run T_ok 1 rfl ?_
         refine V.yes rfl rfl rfl ?_
         refine V.loadO T_ok Fk2 rfl rfl rfl rfl rfl ?_
         refine V.run T_ok 1 rfl ?_
         refine V.yes rfl rfl rfl ?_
         refine V.loadO T_ok Fk9 rfl rfl rfl rfl rfl ?_
         refine V.run T_ok 3 rfl ?_
         refine V.nil ?_
         refine V.tN ?_
         refine V.seq ?_
         refine V.region ?_
         refine V.run T_ok 12 rfl ?_
         refine V.nil ?_
         refine V.tN ?_
         refine V.ret ?_
         refine V.done rfl ?_
         exact ⟨(congrArg Value.bool (by first | rfl | (unfold smB; grind))), HG⟩
        ·
         try replace g2_40 := V.dec g2_40
         try simp only [V.mk0, V.mk1, V.mk2, V.mk3] at g2_40
         refine V.run T_ok 7 rfl ?_
         refine V.nil ?_
         refine V.tN ?_
         refine V.seq ?_
         refine V.region ?_
         refine V.run T_ok 12 rfl ?_
         refine V.nil ?_
         refine V.tN ?_
         refine V.ret ?_
         refine V.done rfl ?_
         exact ⟨(congrArg Value.bool (by first | rfl | (unfold smB; grind))), HG⟩
       ·
        try replace g2_33 := V.dec g2_33
        try simp only [V.mk0, V.mk1, V.mk2, V.mk3] at g2_33
        refine V.run T_ok 14 rfl ?_
        refine V.nil ?_
        refine V.tN ?_
        refine V.seq ?_
        refine V.region ?_
        refine V.run T_ok 12 rfl ?_
        refine V.nil ?_
        refine V.tN ?_
        refine V.ret ?_
        refine V.done rfl ?_
        exact ⟨(congrArg Value.bool (by first | rfl | (unfold smB; grind))), HG⟩
      ·
       try replace g2_26 := V.dec g2_26
       try simp only [V.mk0, V.mk1, V.mk2, V.mk3] at g2_26
       refine V.run T_ok 21 rfl ?_
       refine V.nil ?_
       refine V.tN ?_
       refine V.seq ?_
       refine V.region ?_
       refine V.run T_ok 12 rfl ?_
       refine V.nil ?_
       refine V.tN ?_
       refine V.ret ?_
       refine V.done rfl ?_
       exact ⟨(congrArg Value.bool (by first | rfl | (unfold smB; grind))), HG⟩
     ·
      try replace g2_19 := V.dec g2_19
      try simp only [V.mk0, V.mk1, V.mk2, V.mk3] at g2_19
      refine V.run T_ok 28 rfl ?_
      refine V.nil ?_
      refine V.tN ?_
      refine V.seq ?_
      refine V.region ?_
      refine V.run T_ok 12 rfl ?_
      refine V.nil ?_
      refine V.tN ?_
      refine V.ret ?_
      refine V.done rfl ?_
      exact ⟨(congrArg Value.bool (by first | rfl | (unfold smB; grind))), HG⟩
    ·
     try replace g2_12 := V.dec g2_12
     try simp only [V.mk0, V.mk1, V.mk2, V.mk3] at g2_12
     refine V.run T_ok 35 rfl ?_
     refine V.nil ?_
     refine V.tN ?_
     refine V.seq ?_
     refine V.region ?_
     refine V.run T_ok 12 rfl ?_
     refine V.nil ?_
     refine V.tN ?_
     refine V.ret ?_
     refine V.done rfl ?_
     exact ⟨(congrArg Value.bool (by first | rfl | (unfold smB; grind))), HG⟩
   ·
    try replace g2_5 := V.dec g2_5
    try simp only [V.mk0, V.mk1, V.mk2, V.mk3] at g2_5
    refine V.run T_ok 42 rfl ?_
    refine V.nil ?_
    refine V.tN ?_
    refine V.seq ?_
    refine V.region ?_
    refine V.run T_ok 12 rfl ?_
    refine V.nil ?_
    refine V.tN ?_
    refine V.ret ?_
    refine V.done rfl ?_
    exact ⟨(congrArg Value.bool (by first | rfl | (unfold smB; grind))), HG⟩
 ·
  try replace g1_5 := V.dec g1_5
  try simp only [V.mk0, V.mk1, V.mk2, V.mk3] at g1_5
  refine V.run T_ok 42 rfl ?_
  refine V.nil ?_
  refine V.tN ?_
  refine V.seq ?_
  refine V.region ?_
  refine V.run T_ok 1 rfl ?_
  refine V.loadO T_ok Fk2 rfl rfl rfl rfl rfl ?_
  refine V.run T_ok 1 rfl ?_
  refine V.loadO T_ok Fk9 rfl rfl rfl rfl rfl ?_
  refine V.run T_ok 2 rfl ?_
  refine V.split (j := 5) (t := 59) rfl rfl (fun g2_5 => ?_) (fun g2_5 => ?_)
  ·
   try replace g2_5 := V.dec g2_5
   try simp only [V.mk0, V.mk1, V.mk2, V.mk3] at g2_5
   refine V.run T_ok 1 rfl ?_
   refine V.yes rfl rfl rfl ?_
   refine V.loadO T_ok Fk2 rfl rfl rfl rfl rfl ?_
   refine V.run T_ok 1 rfl ?_
   refine V.yes rfl rfl rfl ?_
   refine V.loadO T_ok Fk9 rfl rfl rfl rfl rfl ?_
   refine V.run T_ok 3 rfl ?_
   refine V.split (j := 12) (t := 66) rfl rfl (fun g2_12 => ?_) (fun g2_12 => ?_)
   ·
    try replace g2_12 := V.dec g2_12
    try simp only [V.mk0, V.mk1, V.mk2, V.mk3] at g2_12
    refine V.run T_ok 1 rfl ?_
    refine V.yes rfl rfl rfl ?_
    refine V.loadO T_ok Fk2 rfl rfl rfl rfl rfl ?_
    refine V.run T_ok 1 rfl ?_
    refine V.yes rfl rfl rfl ?_
    refine V.loadO T_ok Fk9 rfl rfl rfl rfl rfl ?_
    refine V.yes rfl rfl rfl ?_
    refine V.step rfl rfl (V.eqA_run rfl rfl rfl eqG26 (eqS26 _)) ?_
    refine V.run T_ok 2 rfl ?_
    refine V.split (j := 19) (t := 73) rfl rfl (fun g2_19 => ?_) (fun g2_19 => ?_)
    ·
     try replace g2_19 := V.dec g2_19
     try simp only [V.mk0, V.mk1, V.mk2, V.mk3] at g2_19
     refine V.run T_ok 1 rfl ?_
     refine V.yes rfl rfl rfl ?_
     refine V.loadO T_ok Fk2 rfl rfl rfl rfl rfl ?_
     refine V.run T_ok 1 rfl ?_
     refine V.yes rfl rfl rfl ?_
     refine V.loadO T_ok Fk9 rfl rfl rfl rfl rfl ?_
     refine V.yes rfl rfl rfl ?_
     refine V.step rfl rfl (V.eqA_run rfl rfl rfl eqG26 (eqS26 _)) ?_
     refine V.run T_ok 2 rfl ?_
     refine V.split (j := 26) (t := 80) rfl rfl (fun g2_26 => ?_) (fun g2_26 => ?_)
     ·
      try replace g2_26 := V.dec g2_26
      try simp only [V.mk0, V.mk1, V.mk2, V.mk3] at g2_26
      refine V.run T_ok 1 rfl ?_
      refine V.yes rfl rfl rfl ?_
      refine V.loadO T_ok Fk2 rfl rfl rfl rfl rfl ?_
      refine V.run T_ok 1 rfl ?_
      refine V.yes rfl rfl rfl ?_
      refine V.loadO T_ok Fk9 rfl rfl rfl rfl rfl ?_
      refine V.run T_ok 3 rfl ?_
      refine V.split (j := 33) (t := 87) rfl rfl (fun g2_33 => ?_) (fun g2_33 => ?_)
      ·
       try replace g2_33 := V.dec g2_33
       try simp only [V.mk0, V.mk1, V.mk2, V.mk3] at g2_33
       refine V.run T_ok 1 rfl ?_
       refine V.yes rfl rfl rfl ?_
       refine V.loadO T_ok Fk2 rfl rfl rfl rfl rfl ?_
       refine V.run T_ok 1 rfl ?_
       refine V.yes rfl rfl rfl ?_
       refine V.loadO T_ok Fk9 rfl rfl rfl rfl rfl ?_
       refine V.run T_ok 3 rfl ?_
       refine V.split (j := 40) (t := 94) rfl rfl (fun g2_40 => ?_) (fun g2_40 => ?_)
       ·
        try replace g2_40 := V.dec g2_40
        try simp only [V.mk0, V.mk1, V.mk2, V.mk3] at g2_40
        refine V.run T_ok 1 rfl ?_
        refine V.yes rfl rfl rfl ?_
        refine V.loadO T_ok Fk2 rfl rfl rfl rfl rfl ?_
        refine V.run T_ok 1 rfl ?_
        refine V.yes rfl rfl rfl ?_
        refine V.loadO T_ok Fk9 rfl rfl rfl rfl rfl ?_
        refine V.run T_ok 3 rfl ?_
        refine V.nil ?_
        refine V.tN ?_
        refine V.seq ?_
        refine V.region ?_
        refine V.run T_ok 12 rfl ?_
        refine V.nil ?_
        refine V.tN ?_
        refine V.ret ?_
        refine V.done rfl ?_
        exact ⟨(congrArg Value.bool (by first | rfl | (unfold smB; grind))), HG⟩
       ·
        try replace g2_40 := V.dec g2_40
        try simp only [V.mk0, V.mk1, V.mk2, V.mk3] at g2_40
        refine V.run T_ok 7 rfl ?_
        refine V.nil ?_
        refine V.tN ?_
        refine V.seq ?_
        refine V.region ?_
        refine V.run T_ok 12 rfl ?_
        refine V.nil ?_
        refine V.tN ?_
        refine V.ret ?_
        refine V.done rfl ?_
        exact ⟨(congrArg Value.bool (by first | rfl | (unfold smB; grind))), HG⟩
      ·
       try replace g2_33 := V.dec g2_33
       try simp only [V.mk0, V.mk1, V.mk2, V.mk3] at g2_33
       refine V.run T_ok 14 rfl ?_
       refine V.nil ?_
       refine V.tN ?_
       refine V.seq ?_
       refine V.region ?_
       refine V.run T_ok 12 rfl ?_
       refine V.nil ?_
       refine V.tN ?_
       refine V.ret ?_
       refine V.done rfl ?_
       exact ⟨(congrArg Value.bool (by first | rfl | (unfold smB; grind))), HG⟩
     ·
      try replace g2_26 := V.dec g2_26
      try simp only [V.mk0, V.mk1, V.mk2, V.mk3] at g2_26
      refine V.run T_ok 21 rfl ?_
      refine V.nil ?_
      refine V.tN ?_
      refine V.seq ?_
      refine V.region ?_
      refine V.run T_ok 12 rfl ?_
      refine V.nil ?_
      refine V.tN ?_
      refine V.ret ?_
      refine V.done rfl ?_
      exact ⟨(congrArg Value.bool (by first | rfl | (unfold smB; grind))), HG⟩
    ·
     try replace g2_19 := V.dec g2_19
     try simp only [V.mk0, V.mk1, V.mk2, V.mk3] at g2_19
     refine V.run T_ok 28 rfl ?_
     refine V.nil ?_
     refine V.tN ?_
     refine V.seq ?_
     refine V.region ?_
     refine V.run T_ok 12 rfl ?_
     refine V.nil ?_
     refine V.tN ?_
     refine V.ret ?_
     refine V.done rfl ?_
     exact ⟨(congrArg Value.bool (by first | rfl | (unfold smB; grind))), HG⟩
   ·
    try replace g2_12 := V.dec g2_12
    try simp only [V.mk0, V.mk1, V.mk2, V.mk3] at g2_12
    refine V.run T_ok 35 rfl ?_
    refine V.nil ?_
    refine V.tN ?_
    refine V.seq ?_
    refine V.region ?_
    refine V.run T_ok 12 rfl ?_
    refine V.nil ?_
    refine V.tN ?_
    refine V.ret ?_
    refine V.done rfl ?_
    exact ⟨(congrArg Value.bool (by first | rfl | (unfold smB; grind))), HG⟩
  ·
   try replace g2_5 := V.dec g2_5
   try simp only [V.mk0, V.mk1, V.mk2, V.mk3] at g2_5
   refine V.run T_ok 42 rfl ?_
   refine V.nil ?_
   refine V.tN ?_
   refine V.seq ?_
   refine V.region ?_
   refine V.run T_ok 12 rfl ?_
   refine V.nil ?_
   refine V.tN ?_
   refine V.ret ?_
   refine V.done rfl ?_
   exact ⟨(congrArg Value.bool (by first | rfl | (unfold smB; grind))), HG⟩

end Go.Proofs.Ytkklebdlbmoogaa
