/- Proved here: walks: what functions of this seat's program return and what they leave of memory, each as a contract. Conditions: stated at each theorem. -/
import Derived.Test.YtmmgmkklakkooaaGreatMmsg
namespace Go.Proofs.YtmmgmkklakkooaaGreat
set_option linter.unusedVariables false
set_option linter.unusedSimpArgs false
open Go
open V (Bytes Meets Env Sl Own Gr Fr Cells S)
set_option maxHeartbeats 900000 in
set_option maxRecDepth 10000 in
theorem sament_spec {w : World}  {t : Int} {D_x : Nat → Prop} {c_x : Nat} {a_x : Option Addr} {x : List UInt8} (F_x : Sl V.Cod.byte w D_x a_x c_x x) {u : Int} {D_y : Nat → Prop} {c_y : Nat} {a_y : Option Addr} {y : List UInt8} (F_y : Sl V.Cod.byte w D_y a_y c_y y)  :
    Meets Tryz.prog 42 [.agg #[.int .i64 t, .slice a_x x.length c_x], .agg #[.int .i64 u, .slice a_y y.length c_y]] w fun r w' => r = .bool (decide ((t, x) = (u, y))) ∧ Gr w w' := by
 replace F_x := F_x.flb
 replace F_y := F_y.flb
 have HG := V.Fr.refl [] w
 refine V.enter (n := 17) Tryz.func42 rfl rfl (by decide) rfl ?_
 refine V.sr ?_
 refine V.box rfl rfl rfl rfl ?_
 rintro k1 w3 s5 s6 G4 Fk2
 have z7 := V.Fr.size G4
 try simp only [V.cellsL, V.spliceL] at Fk2
 refine V.box rfl rfl rfl rfl ?_
 rintro k8 w10 s12 s13 G11 Fk9
 have z14 := V.Fr.size G11
 try simp only [V.cellsL, V.spliceL] at Fk9
 refine V.ru 1 ?_
 refine V.nt ?_
 refine V.sr ?_
 refine V.ru 1 ?_
 replace Fk2 := Fk2.gr G11
 refine V.loadO T_ok Fk2 rfl rfl rfl rfl rfl ?_
 refine V.ru 1 ?_
 refine V.loadO T_ok Fk9 rfl rfl rfl rfl rfl ?_
 refine V.ru 2 ?_
 refine V.split (j := 5) (t := 10) rfl rfl (fun g1_5 => ?_) (fun g1_5 => ?_)
 ·
  try replace g1_5 := V.dec g1_5
  try simp only [V.mk] at g1_5
  refine V.ru 1 ?_
  refine V.yes rfl rfl rfl ?_
  refine V.loadO T_ok Fk2 rfl rfl rfl rfl rfl ?_
  refine V.ru 1 ?_
  refine V.yes rfl rfl rfl ?_
  refine V.loadO T_ok Fk9 rfl rfl rfl rfl rfl ?_
  refine V.yes rfl rfl rfl ?_
  replace F_x := F_x.gr (G4.trans G11)
  replace F_y := F_y.gr (G4.trans G11)
  refine V.call (equal_spec F_x F_y) rfl rfl rfl ?_
  rintro _ w10_ ⟨rfl, rfl⟩
  refine V.ru 2 ?_
  refine V.nt ?_
  refine V.ret ?_
  refine V.done rfl ?_
  replace HG := HG.grow (G4.trans G11)
  exact ⟨(congrArg Value.bool (by first | rfl | (grind))), HG⟩
 ·
  try replace g1_5 := V.dec g1_5
  try simp only [V.mk] at g1_5
  refine V.ru 7 ?_
  refine V.nt ?_
  refine V.ret ?_
  refine V.done rfl ?_
  replace HG := HG.grow (G4.trans G11)
  exact ⟨(congrArg Value.bool (by first | rfl | (grind))), HG⟩

set_option maxHeartbeats 900000 in
set_option maxRecDepth 10000 in
theorem eqfun_spec {w : World}  {D_xs : Nat → Prop} {c_xs : Nat} {a_xs : Option Addr} {xs : List (Int × List UInt8)} (F_xs : Sl V.Cod.ent w D_xs a_xs c_xs xs) (hD_xs : ∀ k, D_xs k → k < w.heap.size) {D_ys : Nat → Prop} {c_ys : Nat} {a_ys : Option Addr} {ys : List (Int × List UInt8)} (F_ys : Sl V.Cod.ent w D_ys a_ys c_ys ys) (hD_ys : ∀ k, D_ys k → k < w.heap.size)  :
    Meets Tryz.prog 41 [.slice a_xs xs.length c_xs, .slice a_ys ys.length c_ys, .func (.func 42) #[] #[]] w fun r w' => r = .bool (decide (xs = ys)) ∧ Gr w w' := by
 have HG := V.Fr.refl [] w
 refine V.enter (n := 32) Tryz.func41 rfl rfl (by decide) rfl ?_
 refine V.sr ?_
 refine V.ru 1 ?_
 refine V.nt ?_
 refine V.seq ?_
 refine V.sr ?_
 refine V.ru 5 ?_
 refine V.nt ?_
 refine V.condT rfl (fun h1 => ?_) (fun h1 => ?_)
 ·
  try replace h1 := V.dec h1
  try simp only [V.mk] at h1
  refine V.sr ?_
  refine V.ru 1 ?_
  refine V.nt ?_
  refine V.ret ?_
  refine V.tR ?_
  refine V.done rfl ?_
  exact ⟨congrArg Value.bool (decide_eq_false (fun h => h1 (by rw [h]))).symm, HG⟩
 ·
  try replace h1 := V.dec h1
  try simp only [V.mk] at h1
  refine V.skip ?_
  refine V.tN ?_
  refine V.seq ?_
  refine V.sr ?_
  refine V.ru 3 ?_
  refine V.nt ?_
  refine V.block ?_
  have hl63 := F_xs.len63
  refine V.loopM (fun m e v2 => Fr [] w v2 ∧ w.heap.size ≤ v2.heap.size ∧ Sl V.Cod.ent v2 D_xs a_xs c_xs xs ∧ Sl V.Cod.ent v2 D_ys a_ys c_ys ys ∧ ∃ (i : Nat) , m = xs.length - i ∧ i ≤ xs.length ∧ (∀ j (hj : j < xs.length) (hj2 : j < ys.length), j < i → xs[j] = ys[j]) ∧ e 1 = .slice a_ys ys.length c_ys ∧ e 2 = .func (.func 42) #[] #[] ∧ e 15 = .slice a_xs xs.length c_xs ∧ e 16 = .int .i64 (xs.length : Int) ∧ e 17 = .int .i64 (i : Int)) ?_ ?_
  ·
   exact ⟨_, HG, (by omega), F_xs, F_ys, (0), rfl, (by omega), (fun j hj hj2 h => absurd h (Nat.not_lt_zero _)), rfl, rfl, rfl, rfl, rfl⟩
  clear HG F_xs F_ys
  rintro _ e v2 ⟨HG, z3, F_xs, F_ys, i, rfl, hi, hno, he0_1, he0_2, he0_15, he0_16, he0_17⟩
  refine V.knownC (t := 1) he0_1 ?_
  refine V.knownC (t := 2) he0_2 ?_
  refine V.knownC (t := 15) he0_15 ?_
  refine V.knownC (t := 16) he0_16 ?_
  refine V.knownC (t := 17) he0_17 ?_
  refine V.sr ?_
  refine V.ru 1 ?_
  refine V.nt ?_
  refine V.seq ?_
  refine V.condT rfl (fun h4 => ?_) (fun h4 => ?_)
  ·
   try replace h4 := V.dec h4
   try simp only [V.mk] at h4
   refine V.skip ?_
   refine V.tN ?_
   refine V.seq ?_
   refine V.block ?_
   refine V.sr ?_
   refine V.ru 1 ?_
   refine V.elem T_ok F_xs rfl rfl sz74 rfl rfl rfl rfl V.lenA V.lenA ?_
   rintro b4 o5 cs6 hx7 hb8 hR14 hA9
   obtain ⟨x10, hx10⟩ : ∃ z', xs[((i : Int)).toNat] = z' := ⟨_, rfl⟩
   rw [hx10] at hR14
   obtain ⟨_, _, rfl, rfl, ⟨a11, c12, rfl, F13⟩⟩ := hR14
   try simp only [Int.toNat_natCast] at hx10 hx7
   refine V.loadA T_ok (o0 := o5) (off := 0) hA9 rfl rfl rfl rfl rfl ?_
   refine V.alloc zero74 rfl rfl rfl ?_
   rintro k15 w17 s19 s20 G18 Fk16
   have z21 := V.Fr.size G18
   try simp only [V.cellsL, V.spliceL] at Fk16
   refine V.ru 1 ?_
   refine V.storeO Fk16 rfl rfl rfl rfl sz74 rfl rfl rfl rfl ?_
   rintro w22 G23 z25 Fs24
   clear Fk16
   have z26 := V.Fr.size G23
   have Fk16 := Fs24; clear Fs24
   simp only [V.spliceL, V.cellsL] at Fk16
   refine V.nt ?_
   refine V.sr ?_
   refine V.ru 2 ?_
   replace F_ys := F_ys.gr G18
   replace F_ys := F_ys.mb G23 hD_ys
   refine V.elem T_ok F_ys rfl rfl sz74 rfl rfl rfl rfl V.lenA V.lenA ?_
   rintro b27 o28 cs29 hx30 hb31 hR37 hA32
   obtain ⟨x33, hx33⟩ : ∃ z', ys[((i : Int)).toNat] = z' := ⟨_, rfl⟩
   rw [hx33] at hR37
   obtain ⟨_, _, rfl, rfl, ⟨a34, c35, rfl, F36⟩⟩ := hR37
   try simp only [Int.toNat_natCast] at hx33 hx30
   refine V.loadA T_ok (o0 := o28) (off := 0) hA32 rfl rfl rfl rfl rfl ?_
   refine V.alloc zero74 rfl rfl rfl ?_
   rintro k38 w40 s42 s43 G41 Fk39
   have z44 := V.Fr.size G41
   try simp only [V.cellsL, V.spliceL] at Fk39
   refine V.storeO Fk39 rfl rfl rfl rfl sz74 rfl rfl rfl rfl ?_
   rintro w45 G46 z48 Fs47
   clear Fk39
   have z49 := V.Fr.size G46
   have Fk39 := Fs47; clear Fs47
   simp only [V.spliceL, V.cellsL] at Fk39
   refine V.nt ?_
   refine V.sr ?_
   refine V.ru 1 ?_
   replace Fk16 := Fk16.gr G41
   replace Fk16 := Fk16.ma G46
   refine V.loadO T_ok Fk16 rfl rfl rfl rfl rfl ?_
   refine V.loadO T_ok Fk39 rfl rfl rfl rfl rfl ?_
   replace F13 := F13.gr G18
   replace F13 := F13.mb G23 hD_xs
   replace F13 := F13.gr G41
   replace F13 := F13.mb G46 hD_xs
   replace F36 := F36.gr G41
   replace F36 := F36.mb G46 hD_ys
   refine V.call (sament_spec (t := x10.1) (u := x33.1) F13 F36) rfl rfl rfl ?_
   rintro _ w45_ ⟨rfl, G51⟩
   have z52 := V.Fr.size G51
   refine V.ru 1 ?_
   refine V.nt ?_
   refine V.condT rfl (fun h7 => ?_) (fun h7 => ?_)
   ·
    try replace h7 := V.dec h7
    try simp only [V.mk] at h7
    refine V.sr ?_
    refine V.ru 1 ?_
    refine V.nt ?_
    refine V.ret ?_
    refine V.bR ?_
    refine V.tR ?_
    refine V.tR ?_
    refine V.bR ?_
    refine V.tR ?_
    refine V.done rfl ?_
    replace HG := HG.grow G18
    replace HG := HG.n1 G23
    replace HG := HG.grow G41
    replace HG := HG.n1 G46
    replace HG := HG.grow G51
    exact ⟨congrArg Value.bool (decide_eq_false (fun h => by subst h; subst_vars; simp at h7)).symm, HG⟩
   ·
    try replace h7 := V.dec h7
    try simp only [V.mk] at h7
    refine V.skip ?_
    refine V.bN ?_
    refine V.tN ?_
    refine V.region ?_
    refine V.addN rfl rfl rfl rfl rfl V.lenA V.lenA ?_
    refine V.ru 1 ?_
    refine V.nt ?_
    replace F_xs := F_xs.gr G18
    replace F_xs := F_xs.mb G23 hD_xs
    replace F_xs := F_xs.gr G41
    replace F_xs := F_xs.mb G46 hD_xs
    replace F_xs := F_xs.gr G51
    replace F_ys := F_ys.gr G41
    replace F_ys := F_ys.mb G46 hD_ys
    replace F_ys := F_ys.gr G51
    replace HG := HG.grow G18
    replace HG := HG.n1 G23
    replace HG := HG.grow G41
    replace HG := HG.n1 G46
    replace HG := HG.grow G51
    exact ⟨_, (by omega), HG, (by omega), F_xs, F_ys, (i + 1), rfl, (by omega), (fun j hj hj2 h => by rcases Nat.lt_or_ge j i with h2 | h2; exact hno j hj hj2 h2; obtain rfl : j = i := (by omega); subst_vars; grind), rfl, rfl, rfl, rfl, rfl⟩
  ·
   try replace h4 := V.dec h4
   try simp only [V.mk] at h4
   refine V.exit ?_
   refine V.tX ?_
   refine V.tX ?_
   refine V.bE ?_
   refine V.tN ?_
   refine V.sr ?_
   refine V.ru 1 ?_
   refine V.nt ?_
   refine V.ret ?_
   refine V.done rfl ?_
   exact ⟨congrArg Value.bool (decide_eq_true (List.ext_getElem (by omega) fun j h1 h2 => hno j h1 h2 (by omega))).symm, HG⟩

set_option maxHeartbeats 900000 in
set_option maxRecDepth 10000 in
theorem asked_spec {w : World} {mm : MsgV} {D_oe : Nat → Prop} {c_oe : Nat} {a_oe : Option Addr} (F_oe : Sl V.Cod.ent w D_oe a_oe c_oe mm.es) (hD_oe : ∀ k, D_oe k → k < w.heap.size) {D_od : Nat → Prop} {c_od : Nat} {a_od : Option Addr} (F_od : Sl V.Cod.byte w D_od a_od c_od mm.da) (hD_od : ∀ k, D_od k → k < w.heap.size) {D_oc : Nat → Prop} {c_oc : Nat} {a_oc : Option Addr} (F_oc : Sl V.Cod.write w D_oc a_oc c_oc mm.c.ws) (hD_oc : ∀ k, D_oc k → k < w.heap.size) {D_op : Nat → Prop} {c_op : Nat} {a_op : Option Addr} (F_op : Sl (V.Cod.pair V.Cod.str V.Cod.str) w D_op a_op c_op mm.r.ps) (hD_op : ∀ k, D_op k → k < w.heap.size) {D_or : Nat → Prop} {c_or : Nat} {a_or : Option Addr} (F_or : Sl V.Cod.write w D_or a_or c_or mm.r.rc.ws) (hD_or : ∀ k, D_or k → k < w.heap.size)  (hz : SzM mm) :
    Meets Tryz.prog 39 [.agg #[.int .i64 mm.kd, .int .i64 mm.fr, .int .i64 mm.to, .int .i64 mm.rg, .int .i64 mm.te, .int .i64 mm.ix, .int .i64 mm.lt, .int .i64 mm.co, .bool mm.ok, .slice a_oe mm.es.length c_oe, .slice a_od mm.da.length c_od, .int .i64 mm.nw, .int .i64 mm.nl, .int .i64 mm.c.kd, .int .i64 mm.c.id, .int .i64 mm.c.le, .int .i64 mm.c.nd, .int .i64 mm.c.ti, .int .i64 mm.c.te, .string mm.c.an, .int .i64 mm.c.sw, .int .i64 mm.c.sl, .int .i64 mm.c.sq, .string mm.c.fr, .string mm.c.to, .string mm.c.va, .bool mm.c.go, .int .i64 mm.c.aw, .int .i64 mm.c.al, .int .i64 mm.c.lw, .int .i64 mm.c.ll, .bool mm.c.cm, .bool mm.c.st, .slice a_oc mm.c.ws.length c_oc, .int .i64 mm.c.pr, .int .i64 mm.r.er, .int .i64 mm.r.aw, .int .i64 mm.r.al, .slice a_op mm.r.ps.length c_op, .bool mm.r.fo, .int .i64 mm.r.ti, .int .i64 mm.r.te, .string mm.r.an, .int .i64 mm.r.sw, .int .i64 mm.r.sl, .int .i64 mm.r.rc.id, .int .i64 mm.r.rc.ep, .int .i64 mm.r.rc.st, .int .i64 mm.r.rc.aw, .int .i64 mm.r.rc.al, .int .i64 mm.r.rc.bw, .int .i64 mm.r.rc.bl, .slice a_or mm.r.rc.ws.length c_or]] w fun r w' => r = .bool (askB mm) ∧ Gr w w' := by
 have hzc := hz.c
 have hzr := hz.r
 have HG := V.Fr.refl [] w
 refine V.enter (n := 29) Tryz.func39 rfl rfl (by decide) rfl ?_
 refine V.sr ?_
 refine V.box rfl rfl rfl rfl ?_
 rintro k1 w3 s5 s6 G4 Fk2
 have z7 := V.Fr.size G4
 try simp only [V.cellsL, V.spliceL] at Fk2
 refine V.ru 1 ?_
 refine V.nt ?_
 refine V.seq ?_
 refine V.drawQ mixed (by kernel_rfl) ?_
 refine V.qrun T_ok 1 rfl ?_
 refine V.qloadO T_ok Fk2 rfl rfl rfl rfl rfl ?_
 refine V.qmkStruct T_ok zero41 rfl rfl rfl rfl rfl ?_
 replace F_oc := F_oc.gr G4
 refine V.qcall V.clo (fun w1 g => (calike_spec (c := mm.c) (d := (⟨0, 0, 0, 0, 0, 0, ByteArray.empty, 0, 0, 0, ByteArray.empty, ByteArray.empty, ByteArray.empty, false, 0, 0, 0, 0, false, false, [], 0⟩ : CmdV)) (F_oc.gr g) (fun k hk => by have := Fr.size g; have := hD_oc k hk; omega) (Sl.nil _ _ V.None' _ _ (Nat.zero_le _)) (fun _ h => h.elim))) rfl rfl rfl ?_
 refine V.qrun T_ok 1 rfl ?_
 refine V.qloadO T_ok Fk2 rfl rfl rfl rfl rfl ?_
 refine V.qmkStruct T_ok zero48 rfl rfl rfl rfl rfl ?_
 replace F_op := F_op.gr G4
 replace F_or := F_or.gr G4
 refine V.qcall V.clo (fun w1 g => (sameres_spec (a := mm.r) (b := (⟨0, 0, 0, [], false, 0, 0, ByteArray.empty, 0, 0, (⟨0, 0, 0, 0, 0, 0, 0, []⟩ : RecV)⟩ : ResV)) (F_op.gr g) (fun k hk => by have := Fr.size g; have := hD_op k hk; omega) (F_or.gr g) (fun k hk => by have := Fr.size g; have := hD_or k hk; omega) (Sl.nil _ _ V.None' _ _ (Nat.zero_le _)) (fun _ h => h.elim) (Sl.nil _ _ V.None' _ _ (Nat.zero_le _)) (fun _ h => h.elim))) rfl rfl rfl ?_
 refine V.qrun T_ok 2 rfl ?_
 refine V.qnil ?_
 rintro w8 G9
 have z10 := V.Fr.size G9
 refine V.tN ?_
 refine V.seq ?_
 refine V.sr ?_
 refine V.ru 1 ?_
 replace Fk2 := Fk2.gr G9
 refine V.loadO T_ok Fk2 rfl rfl rfl rfl rfl ?_
 refine V.nt ?_
 refine V.block ?_
 refine V.sr ?_
 refine V.ru 2 ?_
 refine V.nt ?_
 refine V.condT rfl (fun h3 => ?_) (fun h3 => ?_)
 ·
  try replace h3 := V.dec h3
  try simp only [V.mk] at h3
  refine V.region ?_
  refine V.ru 1 ?_
  refine V.loadO T_ok Fk2 rfl rfl rfl rfl rfl ?_
  replace F_oc := F_oc.gr G9
  refine V.call (cright_spec (d := mm.c) F_oc (fun k hk => by have := hD_oc k hk; omega) (by first | (with_reducible assumption) | exact hz | (constructor <;> first | exact hz.an | exact hz.fr | exact hz.to | exact hz.va | exact hz.ws | exact (by decide : (S []).size ≤ 9223372036854775807) | exact (fun x hx => nomatch (show x ∈ ([] : List (ByteArray × Int)) from hx))))) rfl rfl rfl ?_
  rintro _ w11 ⟨rfl, G12⟩
  have z13 := V.Fr.size G12
  refine V.ru 1 ?_
  refine V.nil ?_
  refine V.bN ?_
  refine V.tN ?_
  refine V.sr ?_
  refine V.ru 2 ?_
  refine V.andG T_ok 1 1 26 rfl rfl rfl rfl rfl rfl rfl rfl ?_
  refine V.ru 1 ?_
  refine V.nt ?_
  refine V.ret ?_
  refine V.done rfl ?_
  replace HG := HG.grow (G4.trans (G9.trans G12))
  exact ⟨(congrArg Value.bool (by first | rfl | (unfold askB cmdZ resZ recZ0; (have e1 : ByteArray.empty = S [] := rfl); (have e2 : (⟨#[]⟩ : ByteArray) = S [] := rfl); (try simp only [e1] at *); (try simp only [e2] at *); grind))), HG⟩
 ·
  try replace h3 := V.dec h3
  try simp only [V.mk] at h3
  refine V.sr ?_
  refine V.ru 2 ?_
  refine V.nt ?_
  refine V.condT rfl (fun h5 => ?_) (fun h5 => ?_)
  ·
   try replace h5 := V.dec h5
   try simp only [V.mk] at h5
   refine V.region ?_
   refine V.ru 1 ?_
   refine V.loadO T_ok Fk2 rfl rfl rfl rfl rfl ?_
   replace F_op := F_op.gr G9
   replace F_or := F_or.gr G9
   refine V.call (resulted_spec (x := mm.r) F_op (fun k hk => by have := hD_op k hk; omega) F_or (fun k hk => by have := hD_or k hk; omega) (by first | (with_reducible assumption) | exact hz | exact hz.r | exact hz.c)) rfl rfl rfl ?_
   rintro _ w14 ⟨rfl, G15⟩
   have z16 := V.Fr.size G15
   refine V.ru 1 ?_
   refine V.nil ?_
   refine V.bN ?_
   refine V.tN ?_
   refine V.sr ?_
   refine V.ru 2 ?_
   refine V.andG T_ok 1 1 26 rfl rfl rfl rfl rfl rfl rfl rfl ?_
   refine V.ru 1 ?_
   refine V.nt ?_
   refine V.ret ?_
   refine V.done rfl ?_
   replace HG := HG.grow (G4.trans (G9.trans G15))
   exact ⟨(congrArg Value.bool (by first | rfl | (unfold askB cmdZ resZ recZ0; (have e1 : ByteArray.empty = S [] := rfl); (have e2 : (⟨#[]⟩ : ByteArray) = S [] := rfl); (try simp only [e1] at *); (try simp only [e2] at *); grind))), HG⟩
  ·
   try replace h5 := V.dec h5
   try simp only [V.mk] at h5
   refine V.skip ?_
   refine V.bN ?_
   refine V.tN ?_
   refine V.sr ?_
   refine V.ru 2 ?_
   refine V.andG T_ok 1 1 26 rfl rfl rfl rfl rfl rfl rfl rfl ?_
   refine V.ru 1 ?_
   refine V.nt ?_
   refine V.ret ?_
   refine V.done rfl ?_
   replace HG := HG.grow (G4.trans G9)
   exact ⟨(congrArg Value.bool (by first | rfl | (unfold askB cmdZ resZ recZ0; (have e1 : ByteArray.empty = S [] := rfl); (have e2 : (⟨#[]⟩ : ByteArray) = S [] := rfl); (try simp only [e1] at *); (try simp only [e2] at *); grind))), HG⟩

set_option maxHeartbeats 900000 in
set_option maxRecDepth 10000 in
theorem mright_spec {w : World} {mm : MsgV} {D_oe : Nat → Prop} {c_oe : Nat} {a_oe : Option Addr} (F_oe : Sl V.Cod.ent w D_oe a_oe c_oe mm.es) (hD_oe : ∀ k, D_oe k → k < w.heap.size) {D_od : Nat → Prop} {c_od : Nat} {a_od : Option Addr} (F_od : Sl V.Cod.byte w D_od a_od c_od mm.da) (hD_od : ∀ k, D_od k → k < w.heap.size) {D_oc : Nat → Prop} {c_oc : Nat} {a_oc : Option Addr} (F_oc : Sl V.Cod.write w D_oc a_oc c_oc mm.c.ws) (hD_oc : ∀ k, D_oc k → k < w.heap.size) {D_op : Nat → Prop} {c_op : Nat} {a_op : Option Addr} (F_op : Sl (V.Cod.pair V.Cod.str V.Cod.str) w D_op a_op c_op mm.r.ps) (hD_op : ∀ k, D_op k → k < w.heap.size) {D_or : Nat → Prop} {c_or : Nat} {a_or : Option Addr} (F_or : Sl V.Cod.write w D_or a_or c_or mm.r.rc.ws) (hD_or : ∀ k, D_or k → k < w.heap.size)  (hz : SzM mm) :
    Meets Tryz.prog 25 [.agg #[.int .i64 mm.kd, .int .i64 mm.fr, .int .i64 mm.to, .int .i64 mm.rg, .int .i64 mm.te, .int .i64 mm.ix, .int .i64 mm.lt, .int .i64 mm.co, .bool mm.ok, .slice a_oe mm.es.length c_oe, .slice a_od mm.da.length c_od, .int .i64 mm.nw, .int .i64 mm.nl, .int .i64 mm.c.kd, .int .i64 mm.c.id, .int .i64 mm.c.le, .int .i64 mm.c.nd, .int .i64 mm.c.ti, .int .i64 mm.c.te, .string mm.c.an, .int .i64 mm.c.sw, .int .i64 mm.c.sl, .int .i64 mm.c.sq, .string mm.c.fr, .string mm.c.to, .string mm.c.va, .bool mm.c.go, .int .i64 mm.c.aw, .int .i64 mm.c.al, .int .i64 mm.c.lw, .int .i64 mm.c.ll, .bool mm.c.cm, .bool mm.c.st, .slice a_oc mm.c.ws.length c_oc, .int .i64 mm.c.pr, .int .i64 mm.r.er, .int .i64 mm.r.aw, .int .i64 mm.r.al, .slice a_op mm.r.ps.length c_op, .bool mm.r.fo, .int .i64 mm.r.ti, .int .i64 mm.r.te, .string mm.r.an, .int .i64 mm.r.sw, .int .i64 mm.r.sl, .int .i64 mm.r.rc.id, .int .i64 mm.r.rc.ep, .int .i64 mm.r.rc.st, .int .i64 mm.r.rc.aw, .int .i64 mm.r.rc.al, .int .i64 mm.r.rc.bw, .int .i64 mm.r.rc.bl, .slice a_or mm.r.rc.ws.length c_or]] w fun r w' => r = .bool (msgB mm) ∧ Gr w w' := by
 have HG := V.Fr.refl [] w
 refine V.enter (n := 102) Tryz.func25 rfl rfl (by decide) rfl ?_
 refine V.sr ?_
 refine V.box rfl rfl rfl rfl ?_
 rintro k1 w3 s5 s6 G4 Fk2
 have z7 := V.Fr.size G4
 try simp only [V.cellsL, V.spliceL] at Fk2
 refine V.ru 1 ?_
 refine V.nt ?_
 refine V.seq ?_
 refine V.sr ?_
 refine V.ru 1 ?_
 refine V.loadO T_ok Fk2 rfl rfl rfl rfl rfl ?_
 refine V.ru 1 ?_
 refine V.loadO T_ok Fk2 rfl rfl rfl rfl rfl ?_
 refine V.ru 1 ?_
 refine V.loadO T_ok Fk2 rfl rfl rfl rfl rfl ?_
 refine V.ru 1 ?_
 refine V.loadO T_ok Fk2 rfl rfl rfl rfl rfl ?_
 refine V.mkSlice T_ok zero3 rfl rfl sz3 rfl rfl rfl rfl rfl rfl ?_
 rintro k8 w11 s13 s14 G12 Fk9
 have z15 := V.Fr.size G12
 have F10 := V.rowOfI (q := .i64) (xs := ([mm.te, mm.ix, mm.lt, mm.co] : List Int)) Fk9 rfl rfl
 clear Fk9
 refine V.ru 2 ?_
 refine V.nt ?_
 refine V.block ?_
 have hm1 : (([mm.te, mm.ix, mm.lt, mm.co] : List Int)).length = 4 := rfl
 have hr16 : ([mm.te, mm.ix, mm.lt, mm.co] : List Int) = numM mm := rfl
 rw [hr16] at F10
 clear hr16
 have hl1 : (numM mm).length = 4 := rfl
 replace F_oe := F_oe.gr (G4.trans G12)
 replace F_od := F_od.gr (G4.trans G12)
 replace F_oc := F_oc.gr (G4.trans G12)
 replace F_op := F_op.gr (G4.trans G12)
 replace F_or := F_or.gr (G4.trans G12)
 replace Fk2 := Fk2.gr G12
 replace HG := HG.grow (G4.trans G12)
 refine V.loopM (fun m e v18 => Fr [] w v18 ∧ w11.heap.size ≤ v18.heap.size ∧ Sl V.Cod.ent v18 D_oe a_oe c_oe mm.es ∧ Sl V.Cod.byte v18 D_od a_od c_od mm.da ∧ Sl V.Cod.write v18 D_oc a_oc c_oc mm.c.ws ∧ Sl (V.Cod.pair V.Cod.str V.Cod.str) v18 D_op a_op c_op mm.r.ps ∧ Sl V.Cod.write v18 D_or a_or c_or mm.r.rc.ws ∧ Cells v18 k1 [.int .i64 mm.kd, .int .i64 mm.fr, .int .i64 mm.to, .int .i64 mm.rg, .int .i64 mm.te, .int .i64 mm.ix, .int .i64 mm.lt, .int .i64 mm.co, .bool mm.ok, .slice a_oe mm.es.length c_oe, .slice a_od mm.da.length c_od, .int .i64 mm.nw, .int .i64 mm.nl, .int .i64 mm.c.kd, .int .i64 mm.c.id, .int .i64 mm.c.le, .int .i64 mm.c.nd, .int .i64 mm.c.ti, .int .i64 mm.c.te, .string mm.c.an, .int .i64 mm.c.sw, .int .i64 mm.c.sl, .int .i64 mm.c.sq, .string mm.c.fr, .string mm.c.to, .string mm.c.va, .bool mm.c.go, .int .i64 mm.c.aw, .int .i64 mm.c.al, .int .i64 mm.c.lw, .int .i64 mm.c.ll, .bool mm.c.cm, .bool mm.c.st, .slice a_oc mm.c.ws.length c_oc, .int .i64 mm.c.pr, .int .i64 mm.r.er, .int .i64 mm.r.aw, .int .i64 mm.r.al, .slice a_op mm.r.ps.length c_op, .bool mm.r.fo, .int .i64 mm.r.ti, .int .i64 mm.r.te, .string mm.r.an, .int .i64 mm.r.sw, .int .i64 mm.r.sl, .int .i64 mm.r.rc.id, .int .i64 mm.r.rc.ep, .int .i64 mm.r.rc.st, .int .i64 mm.r.rc.aw, .int .i64 mm.r.rc.al, .int .i64 mm.r.rc.bw, .int .i64 mm.r.rc.bl, .slice a_or mm.r.rc.ws.length c_or] 50 ∧ V.Row (V.Cod.int .i64) 3 v18 V.None' k8 (k8 + 1) (some ⟨k8, 0, none⟩) (([mm.te, mm.ix, mm.lt, mm.co] : List Int).length) (numM mm) ∧ ∃ (i : Nat) , m = (numM mm).length - i ∧ i ≤ (numM mm).length ∧ ((numM mm).take i).all nmB = true ∧ e 1 = .pointer (some ⟨k1, 0, none⟩) ∧ e 17 = .slice (some ⟨k8, 0, none⟩) 4 4 ∧ e 18 = .int .i64 (([mm.te, mm.ix, mm.lt, mm.co] : List Int).length : Int) ∧ e 19 = .int .i64 (i : Int)) ?_ ?_
 ·
  exact ⟨_, HG, (by omega), F_oe, F_od, F_oc, F_op, F_or, Fk2, F10, (0), rfl, (Nat.zero_le _), ((by simp)), rfl, rfl, rfl, rfl⟩
 clear HG F_oe F_od F_oc F_op F_or Fk2 F10
 rintro _ e v18 ⟨HG, z19, F_oe, F_od, F_oc, F_op, F_or, Fk2, F10, i, rfl, hia, haa, he0_1, he0_17, he0_18, he0_19⟩
 refine V.knownC (t := 1) he0_1 ?_
 refine V.knownC (t := 17) he0_17 ?_
 refine V.knownC (t := 18) he0_18 ?_
 refine V.knownC (t := 19) he0_19 ?_
 refine V.sr ?_
 refine V.ru 1 ?_
 refine V.nt ?_
 refine V.seq ?_
 refine V.condT rfl (fun h2 => ?_) (fun h2 => ?_)
 ·
  try replace h2 := V.dec h2
  try simp only [V.mk] at h2
  refine V.skip ?_
  refine V.tN ?_
  refine V.seq ?_
  refine V.block ?_
  refine V.sr ?_
  refine V.elem T_ok F10.sl rfl rfl sz3 rfl rfl rfl rfl V.lenA V.lenA ?_
  rintro b20 o21 cs22 hx23 hb24 hR27 hA25
  obtain ⟨x26, hx26⟩ : ∃ z', (numM mm)[((i : Int)).toNat] = z' := ⟨_, rfl⟩
  rw [hx26] at hR27
  obtain rfl := hR27
  try simp only [Int.toNat_natCast] at hx26 hx23
  refine V.loadA T_ok (o0 := o21) (off := 0) hA25 rfl rfl rfl rfl rfl ?_
  refine V.ru 1 ?_
  refine V.nt ?_
  refine V.sr ?_
  refine V.ru 1 ?_
  refine V.call (mnumber_spec (n := x26)) rfl rfl rfl ?_
  rintro _ v18_ ⟨rfl, rfl⟩
  refine V.ru 1 ?_
  refine V.nt ?_
  refine V.condT rfl (fun h4 => ?_) (fun h4 => ?_)
  ·
   try replace h4 := V.dec h4
   try simp only [V.mk] at h4
   refine V.sr ?_
   refine V.ru 1 ?_
   refine V.nt ?_
   refine V.ret ?_
   refine V.bR ?_
   refine V.tR ?_
   refine V.tR ?_
   refine V.bR ?_
   refine V.tR ?_
   refine V.done rfl ?_
   rw [show msgB mm = false by unfold msgB; rw [show (numM mm).all nmB = false from all_bad (i := i) (by omega) hx26 (by first | assumption | (unfold entB; grind) | (unfold nmB at *; grind))]; simp]
   exact ⟨(congrArg Value.bool (by first | rfl | (unfold msgB; rw [all_full haa (by omega), all_full hab (by omega)]; unfold stB2; clear haa hab; grind))), HG⟩
  ·
   try replace h4 := V.dec h4
   try simp only [V.mk] at h4
   refine V.skip ?_
   refine V.bN ?_
   refine V.tN ?_
   refine V.region ?_
   refine V.addN rfl rfl rfl rfl rfl V.lenA V.lenA ?_
   refine V.ru 1 ?_
   refine V.nt ?_
   exact ⟨_, (by omega), HG, (by omega), F_oe, F_od, F_oc, F_op, F_or, Fk2, F10, (i + 1), rfl, (by omega), ((all_succ haa (by omega) hx26 (by first | assumption | (unfold entB; grind) | (unfold nmB; grind)))), rfl, rfl, rfl, rfl⟩
 ·
  try replace h2 := V.dec h2
  try simp only [V.mk] at h2
  refine V.exit ?_
  refine V.tX ?_
  refine V.tX ?_
  refine V.bE ?_
  refine V.tN ?_
  refine V.seq ?_
  refine V.sr ?_
  refine V.ru 1 ?_
  refine V.loadO T_ok Fk2 rfl rfl rfl rfl rfl ?_
  refine V.ru 2 ?_
  refine V.nt ?_
  refine V.block ?_
  have hl63 := F_oe.len63
  refine V.loopM (fun m e v30 => Fr [] w v30 ∧ v18.heap.size ≤ v30.heap.size ∧ Sl V.Cod.ent v30 D_oe a_oe c_oe mm.es ∧ Sl V.Cod.byte v30 D_od a_od c_od mm.da ∧ Sl V.Cod.write v30 D_oc a_oc c_oc mm.c.ws ∧ Sl (V.Cod.pair V.Cod.str V.Cod.str) v30 D_op a_op c_op mm.r.ps ∧ Sl V.Cod.write v30 D_or a_or c_or mm.r.rc.ws ∧ Cells v30 k1 [.int .i64 mm.kd, .int .i64 mm.fr, .int .i64 mm.to, .int .i64 mm.rg, .int .i64 mm.te, .int .i64 mm.ix, .int .i64 mm.lt, .int .i64 mm.co, .bool mm.ok, .slice a_oe mm.es.length c_oe, .slice a_od mm.da.length c_od, .int .i64 mm.nw, .int .i64 mm.nl, .int .i64 mm.c.kd, .int .i64 mm.c.id, .int .i64 mm.c.le, .int .i64 mm.c.nd, .int .i64 mm.c.ti, .int .i64 mm.c.te, .string mm.c.an, .int .i64 mm.c.sw, .int .i64 mm.c.sl, .int .i64 mm.c.sq, .string mm.c.fr, .string mm.c.to, .string mm.c.va, .bool mm.c.go, .int .i64 mm.c.aw, .int .i64 mm.c.al, .int .i64 mm.c.lw, .int .i64 mm.c.ll, .bool mm.c.cm, .bool mm.c.st, .slice a_oc mm.c.ws.length c_oc, .int .i64 mm.c.pr, .int .i64 mm.r.er, .int .i64 mm.r.aw, .int .i64 mm.r.al, .slice a_op mm.r.ps.length c_op, .bool mm.r.fo, .int .i64 mm.r.ti, .int .i64 mm.r.te, .string mm.r.an, .int .i64 mm.r.sw, .int .i64 mm.r.sl, .int .i64 mm.r.rc.id, .int .i64 mm.r.rc.ep, .int .i64 mm.r.rc.st, .int .i64 mm.r.rc.aw, .int .i64 mm.r.rc.al, .int .i64 mm.r.rc.bw, .int .i64 mm.r.rc.bl, .slice a_or mm.r.rc.ws.length c_or] 50 ∧ V.Row (V.Cod.int .i64) 3 v30 V.None' k8 (k8 + 1) (some ⟨k8, 0, none⟩) (([mm.te, mm.ix, mm.lt, mm.co] : List Int).length) (numM mm) ∧ ∃ (i : Nat) , m = (mm.es).length - i ∧ i ≤ (mm.es).length ∧ ((mm.es).take i).all entB = true ∧ e 1 = .pointer (some ⟨k1, 0, none⟩) ∧ e 28 = .slice a_oe mm.es.length c_oe ∧ e 29 = .int .i64 (mm.es.length : Int) ∧ e 30 = .int .i64 (i : Int)) ?_ ?_
  ·
   exact ⟨_, HG, (by omega), F_oe, F_od, F_oc, F_op, F_or, Fk2, F10, (0), rfl, (Nat.zero_le _), ((by simp)), rfl, rfl, rfl, rfl⟩
  clear HG F_oe F_od F_oc F_op F_or Fk2 F10
  rintro _ e v30 ⟨HG, z31, F_oe, F_od, F_oc, F_op, F_or, Fk2, F10, i, rfl, hib, hab, he1_1, he1_28, he1_29, he1_30⟩
  refine V.knownC (t := 1) he1_1 ?_
  refine V.knownC (t := 28) he1_28 ?_
  refine V.knownC (t := 29) he1_29 ?_
  refine V.knownC (t := 30) he1_30 ?_
  refine V.sr ?_
  refine V.ru 1 ?_
  refine V.nt ?_
  refine V.seq ?_
  refine V.condT rfl (fun h8 => ?_) (fun h8 => ?_)
  ·
   try replace h8 := V.dec h8
   try simp only [V.mk] at h8
   refine V.skip ?_
   refine V.tN ?_
   refine V.seq ?_
   refine V.block ?_
   refine V.sr ?_
   refine V.elem T_ok F_oe rfl rfl sz74 rfl rfl rfl rfl V.lenA V.lenA ?_
   rintro b32 o33 cs34 hx35 hb36 hR42 hA37
   obtain ⟨x38, hx38⟩ : ∃ z', mm.es[((i : Int)).toNat] = z' := ⟨_, rfl⟩
   rw [hx38] at hR42
   obtain ⟨_, _, rfl, rfl, ⟨a39, c40, rfl, F41⟩⟩ := hR42
   try simp only [Int.toNat_natCast] at hx38 hx35
   refine V.loadA T_ok (o0 := o33) (off := 0) hA37 rfl rfl rfl rfl rfl ?_
   refine V.alloc zero74 rfl rfl rfl ?_
   rintro k43 w45 s47 s48 G46 Fk44
   have z49 := V.Fr.size G46
   try simp only [V.cellsL, V.spliceL] at Fk44
   refine V.storeO Fk44 rfl rfl rfl rfl sz74 rfl rfl rfl rfl ?_
   rintro w50 G51 z53 Fs52
   clear Fk44
   have z54 := V.Fr.size G51
   have Fk44 := Fs52; clear Fs52
   simp only [V.spliceL, V.cellsL] at Fk44
   refine V.nt ?_
   refine V.sr ?_
   refine V.ru 1 ?_
   refine V.loadO T_ok Fk44 rfl rfl rfl rfl rfl ?_
   refine V.call (mnumber_spec (n := x38.1)) rfl rfl rfl ?_
   rintro _ w50_ ⟨rfl, rfl⟩
   refine V.ru 2 ?_
   refine V.split (j := 4) (t := 38) rfl rfl (fun g10_4 => ?_) (fun g10_4 => ?_)
   ·
    try replace g10_4 := V.dec g10_4
    try simp only [V.mk] at g10_4
    refine V.ru 5 ?_
    refine V.nt ?_
    refine V.condY rfl rfl ?_
    refine V.sr ?_
    refine V.ru 1 ?_
    refine V.nt ?_
    refine V.ret ?_
    refine V.bR ?_
    refine V.tR ?_
    refine V.tR ?_
    refine V.bR ?_
    refine V.tR ?_
    refine V.done rfl ?_
    rw [show msgB mm = false by unfold msgB; rw [show (mm.es).all entB = false from all_bad (i := i) (by omega) hx38 (by first | assumption | (unfold entB; grind) | (unfold nmB at *; grind))]; simp]
    replace HG := HG.grow G46
    replace HG := HG.n1 G51
    exact ⟨(congrArg Value.bool (by first | rfl | (unfold msgB; rw [all_full haa (by omega), all_full hab (by omega)]; unfold stB2; clear haa hab; grind))), HG⟩
   ·
    try replace g10_4 := V.dec g10_4
    try simp only [V.mk] at g10_4
    refine V.ru 1 ?_
    refine V.yes rfl rfl rfl ?_
    refine V.loadO T_ok Fk44 rfl rfl rfl rfl rfl ?_
    refine V.ru 3 ?_
    refine V.nt ?_
    refine V.condT rfl (fun h10 => ?_) (fun h10 => ?_)
    ·
     try replace h10 := V.dec h10
     try simp only [V.mk] at h10
     refine V.sr ?_
     refine V.ru 1 ?_
     refine V.nt ?_
     refine V.ret ?_
     refine V.bR ?_
     refine V.tR ?_
     refine V.tR ?_
     refine V.bR ?_
     refine V.tR ?_
     refine V.done rfl ?_
     rw [show msgB mm = false by unfold msgB; rw [show (mm.es).all entB = false from all_bad (i := i) (by omega) hx38 (by first | assumption | (unfold entB; grind) | (unfold nmB at *; grind))]; simp]
     replace HG := HG.grow G46
     replace HG := HG.n1 G51
     exact ⟨(congrArg Value.bool (by first | rfl | (unfold msgB; rw [all_full haa (by omega), all_full hab (by omega)]; unfold stB2; clear haa hab; grind))), HG⟩
    ·
     try replace h10 := V.dec h10
     try simp only [V.mk] at h10
     refine V.skip ?_
     refine V.bN ?_
     refine V.tN ?_
     refine V.region ?_
     refine V.addN rfl rfl rfl rfl rfl V.lenA V.lenA ?_
     refine V.ru 1 ?_
     refine V.nt ?_
     replace F_oe := F_oe.gr G46
     replace F_oe := F_oe.mb G51 hD_oe
     replace F_od := F_od.gr G46
     replace F_od := F_od.mb G51 hD_od
     replace F_oc := F_oc.gr G46
     replace F_oc := F_oc.mb G51 hD_oc
     replace F_op := F_op.gr G46
     replace F_op := F_op.mb G51 hD_op
     replace F_or := F_or.gr G46
     replace F_or := F_or.mb G51 hD_or
     replace Fk2 := Fk2.gr G46
     replace Fk2 := Fk2.ma G51
     replace F10 := F10.gr G46
     replace F10 := F10.ma G51
     replace HG := HG.grow G46
     replace HG := HG.n1 G51
     exact ⟨_, (by omega), HG, (by omega), F_oe, F_od, F_oc, F_op, F_or, Fk2, F10, (i + 1), rfl, (by omega), ((all_succ hab (by omega) hx38 (by first | assumption | (unfold entB; grind) | (unfold nmB; grind)))), rfl, rfl, rfl, rfl⟩
  ·
   try replace h8 := V.dec h8
   try simp only [V.mk] at h8
   refine V.exit ?_
   refine V.tX ?_
   refine V.tX ?_
   refine V.bE ?_
   refine V.tN ?_
   refine V.seqJ (fun e v57 => Fr [] w v57 ∧ v30.heap.size ≤ v57.heap.size ∧ Sl V.Cod.ent v57 D_oe a_oe c_oe mm.es ∧ Sl V.Cod.byte v57 D_od a_od c_od mm.da ∧ Sl V.Cod.write v57 D_oc a_oc c_oc mm.c.ws ∧ Sl (V.Cod.pair V.Cod.str V.Cod.str) v57 D_op a_op c_op mm.r.ps ∧ Sl V.Cod.write v57 D_or a_or c_or mm.r.rc.ws ∧ Cells v57 k1 [.int .i64 mm.kd, .int .i64 mm.fr, .int .i64 mm.to, .int .i64 mm.rg, .int .i64 mm.te, .int .i64 mm.ix, .int .i64 mm.lt, .int .i64 mm.co, .bool mm.ok, .slice a_oe mm.es.length c_oe, .slice a_od mm.da.length c_od, .int .i64 mm.nw, .int .i64 mm.nl, .int .i64 mm.c.kd, .int .i64 mm.c.id, .int .i64 mm.c.le, .int .i64 mm.c.nd, .int .i64 mm.c.ti, .int .i64 mm.c.te, .string mm.c.an, .int .i64 mm.c.sw, .int .i64 mm.c.sl, .int .i64 mm.c.sq, .string mm.c.fr, .string mm.c.to, .string mm.c.va, .bool mm.c.go, .int .i64 mm.c.aw, .int .i64 mm.c.al, .int .i64 mm.c.lw, .int .i64 mm.c.ll, .bool mm.c.cm, .bool mm.c.st, .slice a_oc mm.c.ws.length c_oc, .int .i64 mm.c.pr, .int .i64 mm.r.er, .int .i64 mm.r.aw, .int .i64 mm.r.al, .slice a_op mm.r.ps.length c_op, .bool mm.r.fo, .int .i64 mm.r.ti, .int .i64 mm.r.te, .string mm.r.an, .int .i64 mm.r.sw, .int .i64 mm.r.sl, .int .i64 mm.r.rc.id, .int .i64 mm.r.rc.ep, .int .i64 mm.r.rc.st, .int .i64 mm.r.rc.aw, .int .i64 mm.r.rc.al, .int .i64 mm.r.rc.bw, .int .i64 mm.r.rc.bl, .slice a_or mm.r.rc.ws.length c_or] 50 ∧ V.Row (V.Cod.int .i64) 3 v57 V.None' k8 (k8 + 1) (some ⟨k8, 0, none⟩) (([mm.te, mm.ix, mm.lt, mm.co] : List Int).length) (numM mm) ∧ e 1 = .pointer (some ⟨k1, 0, none⟩) ∧ e 7 = .bool (decide (0 ≤ min mm.fr mm.to) && decide (max mm.fr mm.to < 3) && decide (0 ≤ mm.rg) && decide (mm.rg < 4)) ∧ True) ?_ ?_
   ·
    refine V.region ?_
    refine V.ru 1 ?_
    refine V.loadO T_ok Fk2 rfl rfl rfl rfl rfl ?_
    refine V.ru 1 ?_
    refine V.loadO T_ok Fk2 rfl rfl rfl rfl rfl ?_
    refine V.ru 3 ?_
    refine V.split (j := 6) (t := 51) rfl rfl (fun g13_6 => ?_) (fun g13_6 => ?_)
    ·
     try replace g13_6 := V.dec g13_6
     try simp only [V.mk] at g13_6
     refine V.ru 1 ?_
     refine V.yes rfl rfl rfl ?_
     refine V.loadO T_ok Fk2 rfl rfl rfl rfl rfl ?_
     refine V.ru 1 ?_
     refine V.yes rfl rfl rfl ?_
     refine V.loadO T_ok Fk2 rfl rfl rfl rfl rfl ?_
     refine V.ru 4 ?_
     refine V.split (j := 14) (t := 59) rfl rfl (fun g13_14 => ?_) (fun g13_14 => ?_)
     ·
      try replace g13_14 := V.dec g13_14
      try simp only [V.mk] at g13_14
      refine V.ru 1 ?_
      refine V.yes rfl rfl rfl ?_
      refine V.loadO T_ok Fk2 rfl rfl rfl rfl rfl ?_
      refine V.ru 3 ?_
      refine V.split (j := 19) (t := 64) rfl rfl (fun g13_19 => ?_) (fun g13_19 => ?_)
      ·
       try replace g13_19 := V.dec g13_19
       try simp only [V.mk] at g13_19
       refine V.ru 1 ?_
       refine V.yes rfl rfl rfl ?_
       refine V.loadO T_ok Fk2 rfl rfl rfl rfl rfl ?_
       refine V.ru 3 ?_
       refine V.nt ?_
       exact ⟨HG, (by omega), F_oe, F_od, F_oc, F_op, F_or, Fk2, F10, rfl, (congrArg Value.bool (by first | rfl | grind)), trivial⟩
      ·
       try replace g13_19 := V.dec g13_19
       try simp only [V.mk] at g13_19
       refine V.ru 5 ?_
       refine V.nt ?_
       exact ⟨HG, (by omega), F_oe, F_od, F_oc, F_op, F_or, Fk2, F10, rfl, (congrArg Value.bool (by first | rfl | grind)), trivial⟩
     ·
      try replace g13_14 := V.dec g13_14
      try simp only [V.mk] at g13_14
      refine V.ru 10 ?_
      refine V.nt ?_
      exact ⟨HG, (by omega), F_oe, F_od, F_oc, F_op, F_or, Fk2, F10, rfl, (congrArg Value.bool (by first | rfl | grind)), trivial⟩
    ·
     try replace g13_6 := V.dec g13_6
     try simp only [V.mk] at g13_6
     refine V.ru 18 ?_
     refine V.nt ?_
     exact ⟨HG, (by omega), F_oe, F_od, F_oc, F_op, F_or, Fk2, F10, rfl, (congrArg Value.bool (by first | rfl | grind)), trivial⟩
   clear HG F_oe F_od F_oc F_op F_or Fk2 F10
   rintro e v57 ⟨HG, z58, F_oe, F_od, F_oc, F_op, F_or, Fk2, F10, hjn56_1, hjn56_7, -⟩
   refine V.knownC (t := 1) hjn56_1 ?_
   refine V.knownC (t := 7) hjn56_7 ?_
   refine V.seqJ (fun e v60 => Fr [] w v60 ∧ v57.heap.size ≤ v60.heap.size ∧ Sl V.Cod.ent v60 D_oe a_oe c_oe mm.es ∧ Sl V.Cod.byte v60 D_od a_od c_od mm.da ∧ Sl V.Cod.write v60 D_oc a_oc c_oc mm.c.ws ∧ Sl (V.Cod.pair V.Cod.str V.Cod.str) v60 D_op a_op c_op mm.r.ps ∧ Sl V.Cod.write v60 D_or a_or c_or mm.r.rc.ws ∧ Cells v60 k1 [.int .i64 mm.kd, .int .i64 mm.fr, .int .i64 mm.to, .int .i64 mm.rg, .int .i64 mm.te, .int .i64 mm.ix, .int .i64 mm.lt, .int .i64 mm.co, .bool mm.ok, .slice a_oe mm.es.length c_oe, .slice a_od mm.da.length c_od, .int .i64 mm.nw, .int .i64 mm.nl, .int .i64 mm.c.kd, .int .i64 mm.c.id, .int .i64 mm.c.le, .int .i64 mm.c.nd, .int .i64 mm.c.ti, .int .i64 mm.c.te, .string mm.c.an, .int .i64 mm.c.sw, .int .i64 mm.c.sl, .int .i64 mm.c.sq, .string mm.c.fr, .string mm.c.to, .string mm.c.va, .bool mm.c.go, .int .i64 mm.c.aw, .int .i64 mm.c.al, .int .i64 mm.c.lw, .int .i64 mm.c.ll, .bool mm.c.cm, .bool mm.c.st, .slice a_oc mm.c.ws.length c_oc, .int .i64 mm.c.pr, .int .i64 mm.r.er, .int .i64 mm.r.aw, .int .i64 mm.r.al, .slice a_op mm.r.ps.length c_op, .bool mm.r.fo, .int .i64 mm.r.ti, .int .i64 mm.r.te, .string mm.r.an, .int .i64 mm.r.sw, .int .i64 mm.r.sl, .int .i64 mm.r.rc.id, .int .i64 mm.r.rc.ep, .int .i64 mm.r.rc.st, .int .i64 mm.r.rc.aw, .int .i64 mm.r.rc.al, .int .i64 mm.r.rc.bw, .int .i64 mm.r.rc.bl, .slice a_or mm.r.rc.ws.length c_or] 50 ∧ V.Row (V.Cod.int .i64) 3 v60 V.None' k8 (k8 + 1) (some ⟨k8, 0, none⟩) (([mm.te, mm.ix, mm.lt, mm.co] : List Int).length) (numM mm) ∧ e 1 = .pointer (some ⟨k1, 0, none⟩) ∧ e 7 = .bool (decide (0 ≤ min mm.fr mm.to) && decide (max mm.fr mm.to < 3) && decide (0 ≤ mm.rg) && decide (mm.rg < 4)) ∧ e 8 = .bool (decide (mm.es.length ≤ 8) && decide (mm.da.length ≤ 32768)) ∧ True) ?_ ?_
   ·
    refine V.region ?_
    refine V.ru 1 ?_
    refine V.loadO T_ok Fk2 rfl rfl rfl rfl rfl ?_
    refine V.ru 3 ?_
    refine V.split (j := 4) (t := 73) rfl rfl (fun g14_4 => ?_) (fun g14_4 => ?_)
    ·
     try replace g14_4 := V.dec g14_4
     try simp only [V.mk] at g14_4
     refine V.ru 1 ?_
     refine V.yes rfl rfl rfl ?_
     refine V.loadO T_ok Fk2 rfl rfl rfl rfl rfl ?_
     refine V.ru 4 ?_
     refine V.nt ?_
     exact ⟨HG, (by omega), F_oe, F_od, F_oc, F_op, F_or, Fk2, F10, rfl, rfl, (congrArg Value.bool (by first | rfl | grind)), trivial⟩
    ·
     try replace g14_4 := V.dec g14_4
     try simp only [V.mk] at g14_4
     refine V.ru 6 ?_
     refine V.nt ?_
     exact ⟨HG, (by omega), F_oe, F_od, F_oc, F_op, F_or, Fk2, F10, rfl, rfl, (congrArg Value.bool (by first | rfl | grind)), trivial⟩
   clear HG F_oe F_od F_oc F_op F_or Fk2 F10
   rintro e v60 ⟨HG, z61, F_oe, F_od, F_oc, F_op, F_or, Fk2, F10, hjn59_1, hjn59_7, hjn59_8, -⟩
   refine V.knownC (t := 1) hjn59_1 ?_
   refine V.knownC (t := 7) hjn59_7 ?_
   refine V.knownC (t := 8) hjn59_8 ?_
   refine V.sr ?_
   refine V.ru 2 ?_
   refine V.andG T_ok 1 1 80 rfl rfl rfl rfl rfl rfl rfl rfl ?_
   refine V.ru 1 ?_
   refine V.split (j := 4) (t := 83) rfl rfl (fun g15_4 => ?_) (fun g15_4 => ?_)
   ·
    try replace g15_4 := V.dec g15_4
    try simp only [V.mk] at g15_4
    refine V.ru 1 ?_
    refine V.yes rfl rfl rfl ?_
    refine V.loadO T_ok Fk2 rfl rfl rfl rfl rfl ?_
    refine V.ru 3 ?_
    refine V.split (j := 9) (t := 88) rfl rfl (fun g15_9 => ?_) (fun g15_9 => ?_)
    ·
     try replace g15_9 := V.dec g15_9
     try simp only [V.mk] at g15_9
     refine V.ru 1 ?_
     refine V.yes rfl rfl rfl ?_
     refine V.loadO T_ok Fk2 rfl rfl rfl rfl rfl ?_
     refine V.ru 3 ?_
     refine V.split (j := 14) (t := 93) rfl rfl (fun g15_14 => ?_) (fun g15_14 => ?_)
     ·
      try replace g15_14 := V.dec g15_14
      try simp only [V.mk] at g15_14
      refine V.ru 1 ?_
      refine V.yes rfl rfl rfl ?_
      refine V.loadO T_ok Fk2 rfl rfl rfl rfl rfl ?_
      refine V.yes rfl rfl rfl ?_
      refine V.call (right_spec (a := mm.nw) (b := mm.nl)) rfl rfl rfl ?_
      rintro _ w62 ⟨rfl, G63⟩
      have z64 := V.Fr.size G63
      refine V.ru 2 ?_
      refine V.split (j := 19) (t := 98) rfl rfl (fun g15_19 => ?_) (fun g15_19 => ?_)
      ·
       try replace g15_19 := V.dec g15_19
       try simp only [V.mk] at g15_19
       refine V.yes rfl rfl rfl ?_
       replace Fk2 := Fk2.gr G63
       refine V.loadO T_ok Fk2 rfl rfl rfl rfl rfl ?_
       refine V.yes rfl rfl rfl ?_
       replace F_oe := F_oe.gr G63
       replace F_od := F_od.gr G63
       replace F_oc := F_oc.gr G63
       replace F_op := F_op.gr G63
       replace F_or := F_or.gr G63
       refine V.call (asked_spec (mm := mm) F_oe (fun k hk => by have := hD_oe k hk; omega) F_od (fun k hk => by have := hD_od k hk; omega) F_oc (fun k hk => by have := hD_oc k hk; omega) F_op (fun k hk => by have := hD_op k hk; omega) F_or (fun k hk => by have := hD_or k hk; omega) (by first | (with_reducible assumption) | exact hz | exact hz.r | exact hz.c)) rfl rfl rfl ?_
       rintro _ w65 ⟨rfl, G66⟩
       have z67 := V.Fr.size G66
       refine V.ru 2 ?_
       refine V.nt ?_
       refine V.ret ?_
       refine V.done rfl ?_
       replace HG := HG.grow (G63.trans G66)
       exact ⟨(congrArg Value.bool (by first | rfl | (unfold msgB; rw [all_full haa (by omega), all_full hab (by omega)]; unfold stB2; clear haa hab; grind))), HG⟩
      ·
       try replace g15_19 := V.dec g15_19
       try simp only [V.mk] at g15_19
       refine V.ru 4 ?_
       refine V.nt ?_
       refine V.ret ?_
       refine V.done rfl ?_
       replace HG := HG.grow G63
       exact ⟨(congrArg Value.bool (by first | rfl | (unfold msgB; rw [all_full haa (by omega), all_full hab (by omega)]; unfold stB2; clear haa hab; grind))), HG⟩
     ·
      try replace g15_14 := V.dec g15_14
      try simp only [V.mk] at g15_14
      refine V.ru 9 ?_
      refine V.nt ?_
      refine V.ret ?_
      refine V.done rfl ?_
      exact ⟨(congrArg Value.bool (by first | rfl | (unfold msgB; rw [all_full haa (by omega), all_full hab (by omega)]; unfold stB2; clear haa hab; grind))), HG⟩
    ·
     try replace g15_9 := V.dec g15_9
     try simp only [V.mk] at g15_9
     refine V.ru 14 ?_
     refine V.nt ?_
     refine V.ret ?_
     refine V.done rfl ?_
     exact ⟨(congrArg Value.bool (by first | rfl | (unfold msgB; rw [all_full haa (by omega), all_full hab (by omega)]; unfold stB2; clear haa hab; grind))), HG⟩
   ·
    try replace g15_4 := V.dec g15_4
    try simp only [V.mk] at g15_4
    refine V.ru 19 ?_
    refine V.nt ?_
    refine V.ret ?_
    refine V.done rfl ?_
    exact ⟨(congrArg Value.bool (by first | rfl | (unfold msgB; rw [all_full haa (by omega), all_full hab (by omega)]; unfold stB2; clear haa hab; grind))), HG⟩

end Go.Proofs.YtmmgmkklakkooaaGreat
