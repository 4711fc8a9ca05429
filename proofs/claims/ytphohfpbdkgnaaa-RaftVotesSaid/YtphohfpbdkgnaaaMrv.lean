/- Proved here: walks: what functions of this seat's program return and what they leave of memory, each as a contract. Conditions: stated at each theorem. -/
import Derived.Test.YtphohfpbdkgnaaaMlraft
namespace Go.Proofs.Ytphohfpbdkgnaaa
set_option linter.unusedVariables false
set_option linter.unusedSimpArgs false
open Go
open V (Bytes Meets Env Sl Own Gr Fr Cells S)
/-! ### An act of a script; a log of which only the terms are read -/
structure ActV where
  kd : Int
  n : Int
  i : Int
  m : RMsg
  b : List UInt8
/-- one element, its data not looked at -/
def V.Cod.entw : V.Cod (Int × List UInt8) where
  sz := 2
  R := fun _ _ x cs => ∃ (a : Option Addr) (n c : Nat), cs = [.int .i64 x.1, .slice a n c]
  len := by rintro w D x cs ⟨a, n, c, rfl⟩; rfl
  one := by
    rintro w D x cs ⟨a, n, c, rfl⟩
    exact List.all_eq_true.1 (by rfl)
  mv := by rintro S w w' D x cs ⟨a, n, c, rfl⟩ f hs; exact ⟨a, n, c, rfl⟩
  mono := by rintro w D D' x cs ⟨a, n, c, rfl⟩ hm; exact ⟨a, n, c, rfl⟩
theorem entw_of {w : World} {D D' : Nat → Prop} {x : Int × List UInt8} {cs : List Value} (h : V.Cod.ent.R w D x cs) : V.Cod.entw.R w D' x cs := by
  obtain ⟨_, _, rfl, rfl, a, c, rfl, F⟩ := h
  exact ⟨a, _, c, rfl⟩
theorem rowE_weak {t : Nat} {w : World} {B E : Nat → Prop} {a : Option Addr} {c : Nat} {l : List (Int × List UInt8)} (h : V.RowE V.Cod.ent t w B E a c l) : Sl V.Cod.entw w E a c l := by
  rcases h.ex with ⟨rfl, rfl, rfl⟩ | ⟨g, D, h1, h3, h4, h5⟩
  · exact Sl.nil _ _ _ _ _ (Nat.zero_le _)
  · have hs := h5.sl (D' := fun j => D j ∨ j = g) (fun k h => .inl h) (.inr rfl)
    refine ⟨hs.cap, hs.max, fun hn => ?_⟩
    obtain ⟨b, o, e1, e2, e3⟩ := hs.els hn
    have hb : b = g := by
      rcases h5.row with ⟨e, -⟩ | ⟨e, -⟩
      · rw [e1] at e; cases e
      · rw [e1] at e; injection e with e; injection e
    subst hb
    refine ⟨b, o, e1, h1, fun i hi => ?_⟩
    obtain ⟨cs, h6, h7⟩ := e3 i hi
    exact ⟨cs, entw_of h6, h7⟩
structure Lgw (w : World) (k g : Nat) (d : LogV) : Prop where
  ok : (0 ≤ d.base ∧ d.base + d.l.length ≤ 2199023255552) ∧ d.l.length ≤ 1000000
  gl : g < w.heap.size
  ex : ∃ a c, Cells w k [.int .i64 d.base, .int .i64 d.term, .slice a d.l.length c] 93 ∧ Sl V.Cod.entw w (fun j => j = g ∧ j ≠ k) a c d.l
section
variable {w w' : World} {k g : Nat} {B X : Nat → Prop} {d : LogV}
theorem Lg.weak (h : Lg w k g B d) : Lgw w k g d := let ⟨a, c, h1, h2⟩ := h.ex; ⟨h.ok, h.gl, a, c, h1, rowE_weak h2⟩
theorem Lgw.gr (h : Lgw w k g d) (f : Gr w w') : Lgw w' k g d := let ⟨a, c, h1, h2⟩ := h.ex; ⟨h.ok, Nat.lt_of_lt_of_le h.gl f.size, a, c, h1.gr f, h2.gr f⟩
theorem Lgw.mvE (h : Lgw w k g d) (f : V.FrE X w w') (hn : ∀ j, X j → ¬ (j = k ∨ j = g)) : Lgw w' k g d :=
  let ⟨a, c, h1, h2⟩ := h.ex; ⟨h.ok, Nat.lt_of_lt_of_le h.gl f.size, a, c, h1.mvE f (fun hX => hn k hX (.inl rfl)), h2.mvE f (fun j hj e => hn j hj (.inr e.1))⟩
theorem Lgw.mv1 {i : Nat} (h : Lgw w k g d) (f : Fr [i] w w') (hn : ¬ (i = k ∨ i = g)) : Lgw w' k g d := h.mvE (X := fun j => j = i) (V.FrE.of1 f rfl) (fun j hj => hj ▸ hn)
theorem Lgw.lt (h : Lgw w k g d) : k < w.heap.size := let ⟨a, c, h1, h2⟩ := h.ex; h1.lt
end
def fitsV (x : ActV) : Bool := decide ((x.m.es.length ≤ 12 ∧ ∀ j (h : j < x.m.es.length), (x.m.es[j]).2.length ≤ 60) ∧ x.m.da.length ≤ 60 ∧ x.b.length ≤ 60)


set_option maxHeartbeats 4000000 in
set_option maxRecDepth 10000 in
theorem lastw_spec {w : World} {k g : Nat} {d : LogV} (FX : Lgw w k g d)   :
    Meets Try.prog 33 [.pointer (some ⟨k, 0, none⟩)] w fun r w' => r = .tuple #[.int .i64 (lastI d), .int .i64 (lastT d)] ∧ Gr w w' := by
 obtain ⟨ao, co, Fk, Fo⟩ := FX.ex
 have hok := FX.ok
 have hkl := Fk.lt
 have hlm := Fo.len63
 have HG := V.Fr.refl [] w
 refine V.enter (n := 45) Try.func33 rfl rfl (by decide) rfl ?_
 refine V.sr ?_
 refine V.ru 2 ?_
 refine V.nt ?_
 refine V.seq ?_
 refine V.block ?_
 refine V.sr ?_
 refine V.ru 3 ?_
 refine V.nt ?_
 refine V.condN rfl rfl ?_
 refine V.sr ?_
 refine V.ru 3 ?_
 refine V.loadO T_ok Fk rfl rfl rfl rfl rfl ?_
 refine V.ru 3 ?_
 refine V.nt ?_
 refine V.condT rfl (fun h3 => ?_) (fun h3 => ?_)
 ·
  try replace h3 := V.dec h3
  try simp only [V.mk] at h3
  refine V.seq ?_
  refine V.drawQ mixed (by kernel_rfl) ?_
  refine V.qrun T_ok 3 rfl ?_
  refine V.qloadO T_ok Fk rfl rfl rfl rfl rfl ?_
  refine V.qrun T_ok 3 rfl ?_
  refine V.qloadO T_ok Fk rfl rfl rfl rfl rfl ?_
  refine V.qrun T_ok 2 rfl ?_
  refine V.qnil ?_
  rintro w1 G2
  have z3 := V.Fr.size G2
  refine V.tN ?_
  refine V.ret ?_
  refine V.bR ?_
  refine V.tR ?_
  refine V.done rfl ?_
  rw [show lastT d = d.term from lastT_nil (by omega), show lastI d = d.base by unfold lastI; omega]
  replace HG := HG.grow G2
  exact ⟨(by first | rfl | simp only [List.length_set]), HG⟩
 ·
  try replace h3 := V.dec h3
  try simp only [V.mk] at h3
  refine V.skip ?_
  refine V.bN ?_
  refine V.tN ?_
  refine V.seq ?_
  refine V.drawQ mixed (by kernel_rfl) ?_
  refine V.qrun T_ok 3 rfl ?_
  refine V.qloadO T_ok Fk rfl rfl rfl rfl rfl ?_
  refine V.qrun T_ok 3 rfl ?_
  refine V.qloadO T_ok Fk rfl rfl rfl rfl rfl ?_
  refine V.qrun T_ok 1 rfl ?_
  refine V.qaddN rfl rfl rfl rfl rfl V.lenA V.lenA ?_
  refine V.qrun T_ok 3 rfl ?_
  refine V.qloadO T_ok Fk rfl rfl rfl rfl rfl ?_
  refine V.qrun T_ok 3 rfl ?_
  refine V.qloadO T_ok Fk rfl rfl rfl rfl rfl ?_
  refine V.qrun T_ok 1 rfl ?_
  refine V.qsubN rfl rfl rfl rfl rfl V.lenA V.lenA ?_
  refine V.qelem T_ok Fo rfl rfl sz30 rfl rfl rfl rfl V.lenA V.lenA ?_
  rintro b4 o5 cs6 hx7 hb8 hR14 hA9
  obtain ⟨x10, hx10⟩ : ∃ z', d.l[((d.l.length : Int) - 1).toNat] = z' := ⟨_, rfl⟩
  rw [hx10] at hR14
  obtain ⟨a11, n12, c13, rfl⟩ := hR14
  try simp only [Int.toNat_natCast] at hx10 hx7
  refine V.qrun T_ok 1 rfl ?_
  refine V.qloadA T_ok (o0 := o5) (off := 0) hA9 rfl rfl rfl rfl rfl ?_
  refine V.qrun T_ok 2 rfl ?_
  refine V.qnil ?_
  rintro w15 G16
  have z17 := V.Fr.size G16
  refine V.tN ?_
  refine V.ret ?_
  refine V.done rfl ?_
  rw [show lastT d = x10.1 from lastT_at (n := ((d.l.length : Int) - 1).toNat) (by omega) (by omega) hx10]
  replace HG := HG.grow G16
  exact ⟨(by first | rfl | simp only [List.length_set]), HG⟩

set_option maxHeartbeats 4000000 in
set_option maxRecDepth 10000 in
theorem behindw_spec {w : World} {k g : Nat} {d : LogV} (FX : Lgw w k g d) {i : Int} {t : Int}  :
    Meets Try.prog 18 [.pointer (some ⟨k, 0, none⟩), .int .i64 i, .int .i64 t] w fun r w' => r = .bool (behV d i t) ∧ Gr w w' := by
 obtain ⟨ao, co, Fk, Fo⟩ := FX.ex
 have hok := FX.ok
 have hkl := Fk.lt
 have hlm := Fo.len63
 have HG := V.Fr.refl [] w
 refine V.enter (n := 31) Try.func18 rfl rfl (by decide) rfl ?_
 refine V.sr ?_
 refine V.ru 1 ?_
 refine V.nt ?_
 refine V.sr ?_
 refine V.ru 1 ?_
 refine V.call (lastw_spec FX) rfl rfl rfl ?_
 rintro _ w1 ⟨rfl, G2⟩
 have z3 := V.Fr.size G2
 refine V.ru 5 ?_
 refine V.nt ?_
 refine V.sr ?_
 refine V.ru 7 ?_
 refine V.split (j := 6) (t := 20) rfl rfl (fun g2_6 => ?_) (fun g2_6 => ?_)
 ·
  try replace g2_6 := V.dec g2_6
  try simp only [V.mk] at g2_6
  refine V.ru 11 ?_
  refine V.nt ?_
  refine V.ret ?_
  refine V.done rfl ?_
  replace HG := HG.grow G2
  exact ⟨(congrArg Value.bool (by first | rfl | (unfold behV; grind))), HG⟩
 ·
  try replace g2_6 := V.dec g2_6
  try simp only [V.mk] at g2_6
  refine V.ru 4 ?_
  refine V.split (j := 10) (t := 24) rfl rfl (fun g2_10 => ?_) (fun g2_10 => ?_)
  ·
   try replace g2_10 := V.dec g2_10
   try simp only [V.mk] at g2_10
   refine V.ru 7 ?_
   refine V.nt ?_
   refine V.ret ?_
   refine V.done rfl ?_
   replace HG := HG.grow G2
   exact ⟨(congrArg Value.bool (by first | rfl | (unfold behV; grind))), HG⟩
  ·
   try replace g2_10 := V.dec g2_10
   try simp only [V.mk] at g2_10
   refine V.ru 7 ?_
   refine V.nt ?_
   refine V.ret ?_
   refine V.done rfl ?_
   replace HG := HG.grow G2
   exact ⟨(congrArg Value.bool (by first | rfl | (unfold behV; grind))), HG⟩


def V.Cod.act : V.Cod ActV where
  sz := 57
  R := fun w D x cs => ∃ (a1 : Option Addr) (c1 : Nat) (a2 : Option Addr) (c2 : Nat) (a3 : Option Addr) (c3 : Nat) (q0 : Int) (q1 : Int) (q2 : Int) (q3 : Int) (q4 : Int) (q5 : Int) (q6 : Int) (q7 : Int) (q8 : ByteArray) (q9 : Int) (q10 : Int) (q11 : Int) (q12 : ByteArray) (q13 : ByteArray) (q14 : ByteArray) (q15 : Bool) (q16 : Int) (q17 : Int) (q18 : Int) (q19 : Int) (q20 : Bool) (q21 : Bool) (q22a : Option Addr) (q22n q22c : Nat) (q23 : Int) (q24 : Int) (q25 : Int) (q26 : Int) (q27a : Option Addr) (q27n q27c : Nat) (q28 : Bool) (q29 : Int) (q30 : Int) (q31 : ByteArray) (q32 : Int) (q33 : Int) (q34 : Int) (q35 : Int) (q36 : Int) (q37 : Int) (q38 : Int) (q39 : Int) (q40 : Int) (q41a : Option Addr) (q41n q41c : Nat), cs = [.int .i64 x.kd, .int .i64 x.n, .int .i64 x.i, .int .i64 x.m.kd, .int .i64 x.m.fr, .int .i64 x.m.to, .int .i64 x.m.rg, .int .i64 x.m.te, .int .i64 x.m.ix, .int .i64 x.m.lt, .int .i64 x.m.co, .bool x.m.ok, .slice a1 x.m.es.length c1, .slice a2 x.m.da.length c2, .int .i64 q0, .int .i64 q1, .int .i64 q2, .int .i64 q3, .int .i64 q4, .int .i64 q5, .int .i64 q6, .int .i64 q7, .string q8, .int .i64 q9, .int .i64 q10, .int .i64 q11, .string q12, .string q13, .string q14, .bool q15, .int .i64 q16, .int .i64 q17, .int .i64 q18, .int .i64 q19, .bool q20, .bool q21, .slice q22a q22n q22c, .int .i64 q23, .int .i64 q24, .int .i64 q25, .int .i64 q26, .slice q27a q27n q27c, .bool q28, .int .i64 q29, .int .i64 q30, .string q31, .int .i64 q32, .int .i64 q33, .int .i64 q34, .int .i64 q35, .int .i64 q36, .int .i64 q37, .int .i64 q38, .int .i64 q39, .int .i64 q40, .slice q41a q41n q41c, .slice a3 x.b.length c3] ∧ Sl V.Cod.ent w D a1 c1 x.m.es ∧ Sl V.Cod.byte w D a2 c2 x.m.da ∧ Sl V.Cod.byte w D a3 c3 x.b
  len := by rintro w D m cs ⟨a1, c1, a2, c2, a3, c3, q0, q1, q2, q3, q4, q5, q6, q7, q8, q9, q10, q11, q12, q13, q14, q15, q16, q17, q18, q19, q20, q21, q22a, q22n, q22c, q23, q24, q25, q26, q27a, q27n, q27c, q28, q29, q30, q31, q32, q33, q34, q35, q36, q37, q38, q39, q40, q41a, q41n, q41c, rfl, -⟩; rfl
  one := by
    rintro w D m cs ⟨a1, c1, a2, c2, a3, c3, q0, q1, q2, q3, q4, q5, q6, q7, q8, q9, q10, q11, q12, q13, q14, q15, q16, q17, q18, q19, q20, q21, q22a, q22n, q22c, q23, q24, q25, q26, q27a, q27n, q27c, q28, q29, q30, q31, q32, q33, q34, q35, q36, q37, q38, q39, q40, q41a, q41n, q41c, rfl, -⟩
    exact List.all_eq_true.1 (by rfl)
  mv := by rintro S w w' D m cs ⟨a1, c1, a2, c2, a3, c3, q0, q1, q2, q3, q4, q5, q6, q7, q8, q9, q10, q11, q12, q13, q14, q15, q16, q17, q18, q19, q20, q21, q22a, q22n, q22c, q23, q24, q25, q26, q27a, q27n, q27c, q28, q29, q30, q31, q32, q33, q34, q35, q36, q37, q38, q39, q40, q41a, q41n, q41c, rfl, h1, h2, h3⟩ f hs; exact ⟨a1, c1, a2, c2, a3, c3, q0, q1, q2, q3, q4, q5, q6, q7, q8, q9, q10, q11, q12, q13, q14, q15, q16, q17, q18, q19, q20, q21, q22a, q22n, q22c, q23, q24, q25, q26, q27a, q27n, q27c, q28, q29, q30, q31, q32, q33, q34, q35, q36, q37, q38, q39, q40, q41a, q41n, q41c, rfl, h1.mv f hs, h2.mv f hs, h3.mv f hs⟩
  mono := by rintro w D D' m cs ⟨a1, c1, a2, c2, a3, c3, q0, q1, q2, q3, q4, q5, q6, q7, q8, q9, q10, q11, q12, q13, q14, q15, q16, q17, q18, q19, q20, q21, q22a, q22n, q22c, q23, q24, q25, q26, q27a, q27n, q27c, q28, q29, q30, q31, q32, q33, q34, q35, q36, q37, q38, q39, q40, q41a, q41n, q41c, rfl, h1, h2, h3⟩ hm; exact ⟨a1, c1, a2, c2, a3, c3, q0, q1, q2, q3, q4, q5, q6, q7, q8, q9, q10, q11, q12, q13, q14, q15, q16, q17, q18, q19, q20, q21, q22a, q22n, q22c, q23, q24, q25, q26, q27a, q27n, q27c, q28, q29, q30, q31, q32, q33, q34, q35, q36, q37, q38, q39, q40, q41a, q41n, q41c, rfl, h1.mono hm, h2.mono hm, h3.mono hm⟩

set_option maxHeartbeats 4000000 in
set_option maxRecDepth 10000 in
theorem fits_spec {w : World}  {x : ActV} {q0 : Int} {q1 : Int} {q2 : Int} {q3 : Int} {q4 : Int} {q5 : Int} {q6 : Int} {q7 : Int} {q8 : ByteArray} {q9 : Int} {q10 : Int} {q11 : Int} {q12 : ByteArray} {q13 : ByteArray} {q14 : ByteArray} {q15 : Bool} {q16 : Int} {q17 : Int} {q18 : Int} {q19 : Int} {q20 : Bool} {q21 : Bool} {q22a : Option Addr} {q22n q22c : Nat} {q23 : Int} {q24 : Int} {q25 : Int} {q26 : Int} {q27a : Option Addr} {q27n q27c : Nat} {q28 : Bool} {q29 : Int} {q30 : Int} {q31 : ByteArray} {q32 : Int} {q33 : Int} {q34 : Int} {q35 : Int} {q36 : Int} {q37 : Int} {q38 : Int} {q39 : Int} {q40 : Int} {q41a : Option Addr} {q41n q41c : Nat} {D_me : Nat → Prop} {c_me : Nat} {a_me : Option Addr} (F_me : Sl V.Cod.ent w D_me a_me c_me x.m.es) {D_md : Nat → Prop} {c_md : Nat} {a_md : Option Addr} (F_md : Sl V.Cod.byte w D_md a_md c_md x.m.da) {D_ab : Nat → Prop} {c_ab : Nat} {a_ab : Option Addr} (F_ab : Sl V.Cod.byte w D_ab a_ab c_ab x.b)   :
    Meets Try.prog 10 [.agg #[.int .i64 x.kd, .int .i64 x.n, .int .i64 x.i, .int .i64 x.m.kd, .int .i64 x.m.fr, .int .i64 x.m.to, .int .i64 x.m.rg, .int .i64 x.m.te, .int .i64 x.m.ix, .int .i64 x.m.lt, .int .i64 x.m.co, .bool x.m.ok, .slice a_me x.m.es.length c_me, .slice a_md x.m.da.length c_md, .int .i64 q0, .int .i64 q1, .int .i64 q2, .int .i64 q3, .int .i64 q4, .int .i64 q5, .int .i64 q6, .int .i64 q7, .string q8, .int .i64 q9, .int .i64 q10, .int .i64 q11, .string q12, .string q13, .string q14, .bool q15, .int .i64 q16, .int .i64 q17, .int .i64 q18, .int .i64 q19, .bool q20, .bool q21, .slice q22a q22n q22c, .int .i64 q23, .int .i64 q24, .int .i64 q25, .int .i64 q26, .slice q27a q27n q27c, .bool q28, .int .i64 q29, .int .i64 q30, .string q31, .int .i64 q32, .int .i64 q33, .int .i64 q34, .int .i64 q35, .int .i64 q36, .int .i64 q37, .int .i64 q38, .int .i64 q39, .int .i64 q40, .slice q41a q41n q41c, .slice a_ab x.b.length c_ab]] w fun r w' => r = .bool (fitsV x) ∧ Gr w w' := by
 have HG := V.Fr.refl [] w
 refine V.enter (n := 36) Try.func10 rfl rfl (by decide) rfl ?_
 refine V.sr ?_
 refine V.box rfl rfl rfl rfl ?_
 rintro k1 w3 s5 s6 G4 Fk2
 have z7 := V.Fr.size G4
 try simp only [V.cellsL, V.spliceL] at Fk2
 refine V.ru 1 ?_
 refine V.nt ?_
 refine V.seq ?_
 refine V.sr ?_
 refine V.ru 1 ?_
 refine V.nt ?_
 refine V.block ?_
 replace F_me := F_me.gr G4
 replace F_md := F_md.gr G4
 replace F_ab := F_ab.gr G4
 replace HG := HG.grow G4
 refine V.loopM (fun m e v9 => Fr [] w v9 ∧ w3.heap.size ≤ v9.heap.size ∧ Sl V.Cod.ent v9 D_me a_me c_me x.m.es ∧ Sl V.Cod.byte v9 D_md a_md c_md x.m.da ∧ Sl V.Cod.byte v9 D_ab a_ab c_ab x.b ∧ Cells v9 k1 [.int .i64 x.kd, .int .i64 x.n, .int .i64 x.i, .int .i64 x.m.kd, .int .i64 x.m.fr, .int .i64 x.m.to, .int .i64 x.m.rg, .int .i64 x.m.te, .int .i64 x.m.ix, .int .i64 x.m.lt, .int .i64 x.m.co, .bool x.m.ok, .slice a_me x.m.es.length c_me, .slice a_md x.m.da.length c_md, .int .i64 q0, .int .i64 q1, .int .i64 q2, .int .i64 q3, .int .i64 q4, .int .i64 q5, .int .i64 q6, .int .i64 q7, .string q8, .int .i64 q9, .int .i64 q10, .int .i64 q11, .string q12, .string q13, .string q14, .bool q15, .int .i64 q16, .int .i64 q17, .int .i64 q18, .int .i64 q19, .bool q20, .bool q21, .slice q22a q22n q22c, .int .i64 q23, .int .i64 q24, .int .i64 q25, .int .i64 q26, .slice q27a q27n q27c, .bool q28, .int .i64 q29, .int .i64 q30, .string q31, .int .i64 q32, .int .i64 q33, .int .i64 q34, .int .i64 q35, .int .i64 q36, .int .i64 q37, .int .i64 q38, .int .i64 q39, .int .i64 q40, .slice q41a q41n q41c, .slice a_ab x.b.length c_ab] 59 ∧ ∃ (i : Nat) , m = x.m.es.length - i ∧ i ≤ x.m.es.length ∧ i ≤ 12 ∧ (∀ j (h : j < x.m.es.length), j < i → (x.m.es[j]).2.length ≤ 60) ∧ e 1 = .pointer (some ⟨k1, 0, none⟩) ∧ e 3 = .int .i64 (i : Int)) ?_ ?_
 ·
  exact ⟨_, HG, (by omega), F_me, F_md, F_ab, Fk2, (0), rfl, (Nat.zero_le _), (Nat.zero_le _), (fun j h h2 => by omega), rfl, rfl⟩
 clear HG F_me F_md F_ab Fk2
 rintro _ e v9 ⟨HG, z10, F_me, F_md, F_ab, Fk2, i, rfl, hi, hi2, hall, he0_1, he0_3⟩
 refine V.knownC (t := 1) he0_1 ?_
 refine V.knownC (t := 3) he0_3 ?_
 refine V.seq ?_
 refine V.seq ?_
 have hl63 := F_me.len63
 refine V.region ?_
 refine V.ru 3 ?_
 refine V.loadO T_ok Fk2 rfl rfl rfl rfl rfl ?_
 refine V.ru 2 ?_
 refine V.nt ?_
 refine V.condT rfl (fun h2 => ?_) (fun h2 => ?_)
 ·
  try replace h2 := V.dec h2
  try simp only [V.mk] at h2
  refine V.skip ?_
  refine V.tN ?_
  refine V.seq ?_
  refine V.block ?_
  refine V.sr ?_
  refine V.ru 3 ?_
  refine V.split (j := 2) (t := 14) rfl rfl (fun g4_2 => ?_) (fun g4_2 => ?_)
  ·
   try replace g4_2 := V.dec g4_2
   try simp only [V.mk] at g4_2
   refine V.ru 10 ?_
   refine V.nt ?_
   refine V.condY rfl rfl ?_
   refine V.sr ?_
   refine V.ru 1 ?_
   refine V.nt ?_
   refine V.ret ?_
   refine V.bR ?_
   refine V.tR ?_
   refine V.tR ?_
   refine V.bR ?_
   refine V.tR ?_
   refine V.done rfl ?_
   rw [show fitsV x = false by unfold fitsV; grind]
   exact ⟨(congrArg Value.bool (by first | rfl | (unfold fitsV; grind))), HG⟩
  ·
   try replace g4_2 := V.dec g4_2
   try simp only [V.mk] at g4_2
   refine V.ru 2 ?_
   refine V.yes rfl rfl rfl ?_
   refine V.loadO T_ok Fk2 rfl rfl rfl rfl rfl ?_
   refine V.ru 1 ?_
   refine V.yes rfl rfl rfl ?_
   refine V.elem T_ok F_me rfl rfl sz30 rfl rfl rfl rfl V.lenA V.lenA ?_
   rintro b11 o12 cs13 hx14 hb15 hR21 hA16
   obtain ⟨x17, hx17⟩ : ∃ z', x.m.es[((i : Int)).toNat] = z' := ⟨_, rfl⟩
   rw [hx17] at hR21
   obtain ⟨_, _, rfl, rfl, ⟨a18, c19, rfl, F20⟩⟩ := hR21
   try simp only [Int.toNat_natCast] at hx17 hx14
   refine V.ru 1 ?_
   refine V.yes rfl rfl rfl ?_
   refine V.loadA T_ok (o0 := o12) (off := 1) hA16 rfl rfl rfl rfl rfl ?_
   refine V.ru 3 ?_
   refine V.nt ?_
   refine V.condT rfl (fun h4 => ?_) (fun h4 => ?_)
   ·
    try replace h4 := V.dec h4
    try simp only [V.mk] at h4
    refine V.sr ?_
    refine V.ru 1 ?_
    refine V.nt ?_
    refine V.ret ?_
    refine V.bR ?_
    refine V.tR ?_
    refine V.tR ?_
    refine V.bR ?_
    refine V.tR ?_
    refine V.done rfl ?_
    rw [show fitsV x = false by unfold fitsV; grind]
    exact ⟨(congrArg Value.bool (by first | rfl | (unfold fitsV; grind))), HG⟩
   ·
    try replace h4 := V.dec h4
    try simp only [V.mk] at h4
    refine V.skip ?_
    refine V.bN ?_
    refine V.tN ?_
    refine V.region ?_
    refine V.ru 1 ?_
    refine V.addN rfl rfl rfl rfl rfl V.lenA V.lenA ?_
    refine V.ru 1 ?_
    refine V.nt ?_
    exact ⟨_, (by omega), HG, (by omega), F_me, F_md, F_ab, Fk2, (i + 1), rfl, (by omega), (by omega), ((by intro j hj h2; rcases Nat.lt_or_ge j i with e | e; exact hall j hj e; have e2 : j = i := (by omega); subst e2; grind)), rfl, rfl⟩
 ·
  try replace h2 := V.dec h2
  try simp only [V.mk] at h2
  refine V.exit ?_
  refine V.tX ?_
  refine V.tX ?_
  refine V.bE ?_
  refine V.tN ?_
  refine V.seq ?_
  have hA : ∀ j (h : j < x.m.es.length), (x.m.es[j]).2.length ≤ 60 := fun j h => hall j h (by omega)
  refine V.region ?_
  refine V.ru 2 ?_
  refine V.loadO T_ok Fk2 rfl rfl rfl rfl rfl ?_
  refine V.ru 3 ?_
  refine V.split (j := 5) (t := 30) rfl rfl (fun g6_5 => ?_) (fun g6_5 => ?_)
  ·
   try replace g6_5 := V.dec g6_5
   try simp only [V.mk] at g6_5
   refine V.ru 1 ?_
   refine V.yes rfl rfl rfl ?_
   refine V.loadO T_ok Fk2 rfl rfl rfl rfl rfl ?_
   refine V.ru 4 ?_
   refine V.nt ?_
   refine V.ret ?_
   refine V.done rfl ?_
   exact ⟨(congrArg Value.bool (by first | rfl | (unfold fitsV; grind))), HG⟩
  ·
   try replace g6_5 := V.dec g6_5
   try simp only [V.mk] at g6_5
   refine V.ru 6 ?_
   refine V.nt ?_
   refine V.ret ?_
   refine V.done rfl ?_
   exact ⟨(congrArg Value.bool (by first | rfl | (unfold fitsV; grind))), HG⟩

/-! ### What a node tells of votes -/
def hear1 (b : Bool) (s : Int × Int) (m : RMsg) : Option (Int × Int) :=
  if ¬ m.kd = 1 ∧ (¬ m.kd = 2 ∨ m.ok = false) then some s
  else if (m.te = s.1 ∧ ¬ s.2 = (if m.kd = 1 then 0 else m.to)) ∨ m.te < s.1 ∨ (m.kd = 2 ∧ b = false) then none
  else some (m.te, if m.kd = 1 then 0 else m.to)
def hearV (b : Bool) (s : Int × Int) : List RMsg → Option (Int × Int)
  | [] => some s
  | m :: l => (hear1 b s m).bind fun s' => hearV b s' l
def rstV (d : NodeV) : NodeV := ⟨0, 1, d.te, d.vo, 0, -1, d.L, d.L.base, d.da, false, false, false, 0, 0, 0, 0, 0, 0, [], 0⟩
def actV (d : NodeV) (a : ActV) : NodeV := if a.kd = 1 then stepV d a.m else if a.kd = 2 then electV d else if a.kd = 8 then rstV d else d
/-- quiet: no vote is told, nor asked for -/
structure Qt (d e : NodeV) (k : Nat) : Prop where
  te : e.te = d.te
  vo : e.vo = d.vo
  id : e.id = d.id
  nc : e.nc ≤ d.nc + k
  ll : e.L.l.length ≤ d.L.l.length + k
  lb : e.L.base = d.L.base ∨ e.L.base ≤ 1099511627776
  out : ∃ l, e.out = d.out ++ l ∧ ∀ m ∈ l, ¬ m.kd = 1 ∧ ¬ m.kd = 2
theorem Qt.refl (d : NodeV) : Qt d d 0 := ⟨rfl, rfl, rfl, Nat.le_refl _, Nat.le_refl _, .inl rfl, [], by simp, by simp⟩
theorem Qt.trans {d e f : NodeV} {j k : Nat} (h : Qt d e j) (h' : Qt e f k) : Qt d f (j + k) := by
  obtain ⟨l, h1, h2⟩ := h.out
  obtain ⟨l', h3, h4⟩ := h'.out
  have a1 := h.nc
  have a2 := h'.nc
  have a3 := h.ll
  have a4 := h'.ll
  refine ⟨h'.te.trans h.te, h'.vo.trans h.vo, h'.id.trans h.id, by omega, by omega, ?_, l ++ l', by rw [h3, h1, List.append_assoc], fun m hm => (List.mem_append.1 hm).elim (h2 m) (h4 m)⟩
  rcases h'.lb with e1 | e1
  · rw [e1]; exact h.lb
  · exact .inr e1
theorem Qt.up {d e : NodeV} {j k : Nat} (h : Qt d e j) (hk : j ≤ k) : Qt d e k := ⟨h.te, h.vo, h.id, by have := h.nc; omega, by have := h.ll; omega, h.lb, h.out⟩
theorem qt_tell (d : NodeV) (to : Int) (m : RMsg) (h : ¬ m.kd = 1 ∧ ¬ m.kd = 2) : Qt d (tellV d to m) 0 := ⟨rfl, rfl, rfl, Nat.le_refl _, Nat.le_refl _, .inl rfl, _, rfl, by intro x hx; rw [List.mem_singleton] at hx; subst hx; exact h⟩
theorem qt_send (d : NodeV) (to : Int) : Qt d (sendV d to) 0 := by
  unfold sendV; split
  · exact qt_tell _ _ _ (by simp)
  · exact qt_tell _ _ _ (by simp)
theorem qt_oth (d : NodeV) : ∀ n, Qt d (othV sendV d n) 0
  | 0 => Qt.refl d
  | n + 1 => by
    have h := qt_oth d n
    unfold othV; split
    · exact h
    · exact h.trans (qt_send _ _)
theorem qt_more (d : NodeV) (x : List UInt8) : Qt d (moreV d x) 1 := by
  unfold moreV; split
  · rename_i h
    refine ⟨rfl, rfl, rfl, Nat.le_refl _, ?_, .inl ?_, [], by simp, by simp⟩
    · show (appV d.L d.te x).l.length ≤ _
      unfold appV; rw [if_pos h]; simp
    · show (appV d.L d.te x).base = _
      unfold appV; rw [if_pos h]
  · exact (Qt.refl d).up (by omega)
theorem qt_voted (d : NodeV) (m : RMsg) : Qt d (votedV d m) 1 := by
  unfold votedV; split
  · split
    · exact ⟨rfl, rfl, rfl, Nat.le_add_right _ _, Nat.le_add_right _ _, .inl rfl, [], by simp [setV], by simp⟩
    · have h0 : Qt d (leadV (setV d m.fr)) 0 := ⟨rfl, rfl, rfl, Nat.le_refl _, Nat.le_refl _, .inl rfl, [], by simp [setV, leadV, turnV], by simp⟩
      exact (h0.trans (qt_more _ _)).trans (qt_oth _ 3)
  · exact (Qt.refl d).up (by omega)
theorem qt_turn (d : NodeV) (ro le : Int) : Qt d (turnV d d.te ro le) 0 := ⟨rfl, rfl, rfl, Nat.le_refl _, Nat.le_refl _, .inl rfl, [], by simp [turnV], by simp⟩
theorem qt_old (d : NodeV) (m : RMsg) : Qt d (oldV d m) 0 := by
  unfold oldV; split
  · exact qt_turn d _ _
  · exact qt_tell _ _ _ (by simp)
theorem spl_size (d : LogV) (prev t : Int) (es : List (Int × List UInt8)) : (splV d prev t es).base = d.base ∧ (splV d prev t es).l.length ≤ d.l.length + es.length := by
  have h1 := @layV_l d d.base (es.drop (aheadN d prev).toNat)
  have h2 := @layV_l d prev es
  have h3 := @lay_lenle d d.base (es.drop (aheadN d prev).toNat)
  have h4 := @lay_lenle d prev es
  rw [List.length_drop] at h3
  unfold splV; split
  · split
    · exact ⟨rfl, Nat.le_add_right _ _⟩
    · exact ⟨h1.1, by omega⟩
  · split
    · exact ⟨h2.1, h4⟩
    · exact ⟨rfl, Nat.le_add_right _ _⟩
theorem qt_apn (d : NodeV) (m : RMsg) : Qt d (apnV d m) (m.es.length + 1) := by
  have hs := spl_size d.L m.ix m.lt m.es
  unfold apnV; split
  · exact (qt_old d m).up (by omega)
  · split
    · have h0 : Qt d { turnV d d.te 0 m.fr with L := splV d.L m.ix m.lt m.es, nc := if 0 < splI d.L m.ix m.lt m.es then d.nc + 1 + (lastI (splV d.L m.ix m.lt m.es) - splI d.L m.ix m.lt m.es + 1).toNat else d.nc, co := max d.co (min m.co (m.ix + m.es.length)) } (m.es.length + 1) := by
        refine ⟨rfl, rfl, rfl, ?_, ?_, .inl hs.1, [], by simp [turnV], by simp⟩
        · dsimp only
          split
          · rename_i h; have := spl_cnt h; omega
          · omega
        · dsimp only; omega
      exact (h0.trans (qt_tell _ _ _ (by simp))).up (by omega)
    · exact ((qt_turn d _ _).trans (qt_tell _ _ _ (by simp))).up (by omega)
theorem qt_apd (d : NodeV) (m : RMsg) : Qt d (apdV d m) 0 := by
  have h3 : Qt d (apd3 d m) 0 := ⟨rfl, rfl, rfl, Nat.le_refl _, Nat.le_refl _, .inl rfl, [], by simp [apd3, apd2, setX, setM], by simp⟩
  have hx : ∀ k v, Qt d (setX d k v) 0 := fun k v => ⟨rfl, rfl, rfl, Nat.le_refl _, Nat.le_refl _, .inl rfl, [], by simp [setX], by simp⟩
  unfold apdV; split
  · split
    · split
      · exact h3.trans (qt_send _ _)
      · exact h3
    · exact (hx _ _).trans (qt_send _ _)
  · exact Qt.refl d
theorem qt_snp (d : NodeV) (m : RMsg) (hm : m.ix ≤ 1099511627776) : Qt d (snpV d m) 2 := by
  unfold snpV; split
  · exact (qt_old d m).up (by omega)
  · split
    · exact ((qt_turn d _ _).trans (qt_tell _ _ _ (by simp))).up (by omega)
    · have h0 : Qt d { turnV d d.te 0 m.fr with L := if isV d.L m.ix = true ∧ trmV d.L m.ix = m.lt then cmpV d.L m.ix else ⟨m.ix, m.lt, []⟩, nc := if isV d.L m.ix = true ∧ trmV d.L m.ix = m.lt then d.nc + 1 else d.nc + 2, da := m.da, co := m.ix } 2 := by
        refine ⟨rfl, rfl, rfl, ?_, ?_, .inr ?_, [], by simp [turnV], by simp⟩
        · dsimp only; split <;> omega
        · dsimp only; split
          · rename_i h; unfold cmpV; rw [if_pos h.1]; simp; omega
          · simp
        · dsimp only; split
          · rename_i h; unfold cmpV; rw [if_pos h.1]; exact hm
          · exact hm
      exact (h0.trans (qt_tell _ _ _ (by simp))).up (by omega)
theorem hear_quiet (b : Bool) (s : Int × Int) : ∀ {l : List RMsg}, (∀ m ∈ l, ¬ m.kd = 1 ∧ ¬ m.kd = 2) → hearV b s l = some s
  | [], _ => rfl
  | m :: l, h => by
    have h1 := h m (by simp)
    have e : hear1 b s m = some s := by unfold hear1; rw [if_pos ⟨h1.1, .inl h1.2⟩]
    unfold hearV; rw [e]; exact hear_quiet b s (fun x hx => h x (by simp [hx]))
/-- what holds of a node and of what was heard of it -/
structure VI (d : NodeV) (s : Int × Int) : Prop where
  id : d.id = 0
  out : d.out = []
  vo : -1 ≤ d.vo ∧ d.vo ≤ 2
  la : s.1 ≤ d.te
  wh : s.1 = d.te → s.2 = d.vo ∧ ¬ d.vo = -1
structure SzV (d : NodeV) (i : Nat) : Prop where
  nc : d.nc ≤ 16 * i
  ll : d.L.l.length ≤ 12 + 14 * i
  lb : d.L.base ≤ 1099511627776
theorem vi_quiet {d e : NodeV} {s : Int × Int} {k : Nat} {b : Bool} (h : Qt d e k) (hI : VI d s) : ∃ s', hearV b s e.out = some s' ∧ VI (outV e) s' := by
  obtain ⟨l, h1, h2⟩ := h.out
  rw [hI.out, List.nil_append] at h1
  exact ⟨s, by rw [h1]; exact hear_quiet b s h2, h.id.trans hI.id, rfl, h.vo ▸ hI.vo, h.te ▸ hI.la, h.te ▸ h.vo ▸ hI.wh⟩
theorem sz_quiet {d e : NodeV} {i k : Nat} (h : Qt d e k) (hk : k ≤ 14) (hS : SzV d i) : SzV (outV e) (i + 1) :=
  ⟨by have := h.nc; have := hS.nc; show e.nc ≤ _; omega, by have := h.ll; have := hS.ll; show e.L.l.length ≤ _; omega, by show e.L.base ≤ _; rcases h.lb with e1 | e1; exact e1 ▸ hS.lb; exact e1⟩
theorem vi_rise {d : NodeV} {s : Int × Int} (m : RMsg) (hI : VI d s) : VI (riseV d m) s := by
  unfold riseV; split
  · rename_i h
    exact ⟨hI.id, hI.out, by dsimp only [turnV]; omega, by have := hI.la; dsimp only [turnV]; omega, fun e => by have := hI.la; dsimp only [turnV] at e; omega⟩
  · exact hI
theorem rise_te (d : NodeV) (m : RMsg) : d.te ≤ (riseV d m).te ∧ m.te ≤ (riseV d m).te := by
  unfold riseV; split
  · dsimp only [turnV]; omega
  · omega
theorem sz_up {d : NodeV} {i j : Nat} (h : SzV d i) (hj : i ≤ j) : SzV d j := ⟨by have := h.nc; omega, by have := h.ll; omega, h.lb⟩
theorem sz_rise {d : NodeV} {i : Nat} (m : RMsg) (h : SzV d i) : SzV (riseV d m) i := by
  obtain ⟨-, e2, e3, -⟩ := rise_eqs d m
  exact ⟨e2 ▸ h.nc, e3 ▸ h.ll, e3 ▸ h.lb⟩
theorem vi_asked {d : NodeV} {s : Int × Int} {m : RMsg} (hI : VI d s) (hf : 0 ≤ m.fr ∧ m.fr ≤ 2) : ∃ s', hearV (behV d.L m.ix m.lt) s (askedV d m).out = some s' ∧ VI (outV (askedV d m)) s' := by
  unfold askedV
  by_cases ha : askedOk d m = true
  · rw [if_pos ha]
    have h := ha
    unfold askedOk at h
    simp only [Bool.and_eq_true, Bool.or_eq_true, decide_eq_true_eq] at h
    obtain ⟨⟨h1, h2⟩, h3⟩ := h
    have e : hear1 (behV d.L m.ix m.lt) s ⟨2, d.id, m.fr, d.rg, d.te, 0, 0, 0, askedOk d m, [], []⟩ = some (d.te, m.fr) := by
      unfold hear1
      rw [if_neg (by rw [ha]; simp), if_neg (by have := hI.la; have := hI.wh; rw [h3]; dsimp only; grind)]
      rfl
    refine ⟨(d.te, m.fr), ?_, hI.id, rfl, by show -1 ≤ m.fr ∧ m.fr ≤ 2; omega, Int.le_refl _, fun _ => ⟨rfl, by show ¬ m.fr = -1; omega⟩⟩
    show hearV _ s (d.out ++ [_]) = _
    rw [hI.out, List.nil_append]
    unfold hearV
    rw [e]; rfl
  · rw [if_neg ha]
    have e : hear1 (behV d.L m.ix m.lt) s ⟨2, d.id, m.fr, d.rg, d.te, 0, 0, 0, askedOk d m, [], []⟩ = some s := by
      unfold hear1
      rw [if_pos ⟨by simp, .inr (by simpa using ha)⟩]
    refine ⟨s, ?_, hI.id, rfl, hI.vo, hI.la, hI.wh⟩
    show hearV _ s (d.out ++ [_]) = _
    rw [hI.out, List.nil_append]
    unfold hearV
    rw [e]; rfl
theorem elect_outs {d : NodeV} (hi : d.id = 0) : othV (fun e k => askV e k (lastI d.L) (lastT d.L)) (standV d) 3 = tellV (tellV (standV d) 1 ⟨1, 0, 0, 0, 0, lastI d.L, lastT d.L, 0, false, [], []⟩) 2 ⟨1, 0, 0, 0, 0, lastI d.L, lastT d.L, 0, false, [], []⟩ := by
  have h0 : (standV d).id = 0 := hi
  have e1 : othV (fun e k => askV e k (lastI d.L) (lastT d.L)) (standV d) 1 = standV d := by
    unfold othV; rw [if_pos (by exact h0.symm)]; rfl
  have e2 : othV (fun e k => askV e k (lastI d.L) (lastT d.L)) (standV d) 2 = askV (standV d) 1 (lastI d.L) (lastT d.L) := by
    unfold othV; rw [e1, if_neg (by rw [h0]; decide)]; rfl
  unfold othV; rw [e2, if_neg (by show ¬ ((2 : Nat) : Int) = d.id; rw [hi]; decide)]; rfl
theorem vi_elect {d : NodeV} {s : Int × Int} {b : Bool} (hI : VI d s) (hte : 0 ≤ d.te) : (∃ s', hearV b s (electV d).out = some s' ∧ VI (outV (electV d)) s') ∧ d.te ≤ (electV d).te ∧ (electV d).nc = d.nc ∧ (electV d).L = d.L := by
  unfold electV; split
  · exact ⟨vi_quiet (Qt.refl d) hI, Int.le_refl _, rfl, rfl⟩
  · rw [elect_outs hI.id]
    refine ⟨⟨(d.te + 1, 0), ?_, hI.id, rfl, ?_, Int.le_refl _, fun _ => ⟨hI.id.symm, ?_⟩⟩, ?_, rfl, rfl⟩
    · show hearV b s ((d.out ++ [_]) ++ [_]) = _
      rw [hI.out]
      have e1 : ∀ s2 : Int × Int, s2.1 ≤ d.te ∨ (s2.1 = d.te + 1 ∧ s2.2 = 0) → ∀ t, hear1 b s2 ⟨1, d.id, t, d.rg, d.te + 1, lastI d.L, lastT d.L, 0, false, [], []⟩ = some (d.te + 1, 0) := by
        intro s2 h2 t
        unfold hear1
        rw [if_neg (by simp), if_neg (by dsimp only; simp; omega)]; rfl
      show (hear1 b s ⟨1, d.id, 1, d.rg, d.te + 1, lastI d.L, lastT d.L, 0, false, [], []⟩).bind _ = _
      rw [e1 s (.inl hI.la)]
      show (hear1 b (d.te + 1, 0) ⟨1, d.id, 2, d.rg, d.te + 1, lastI d.L, lastT d.L, 0, false, [], []⟩).bind _ = _
      rw [e1 _ (.inr ⟨rfl, rfl⟩)]; rfl
    · show -1 ≤ d.id ∧ d.id ≤ 2; rw [hI.id]; omega
    · show ¬ d.id = -1; rw [hI.id]; omega
    · show d.te ≤ d.te + 1; omega
theorem act_law {d : NodeV} {a : ActV} {s : Int × Int} {i : Nat} (hI : VI d s) (hS : SzV d i) (hte : 0 ≤ d.te) (hf : a.m.es.length ≤ 12) :
    ((∃ s', hearV (behV d.L a.m.ix a.m.lt) s (actV d a).out = some s' ∧ VI (outV (actV d a)) s') ∧ d.te ≤ (actV d a).te) ∧ SzV (outV (actV d a)) (i + 1) := by
  have hq : ∀ {e : NodeV} {k : Nat}, k ≤ 14 → Qt (riseV d a.m) e k → ((∃ s', hearV (behV d.L a.m.ix a.m.lt) s e.out = some s' ∧ VI (outV e) s') ∧ d.te ≤ e.te) ∧ SzV (outV e) (i + 1) := fun hk h =>
    ⟨⟨vi_quiet h (vi_rise a.m hI), by rw [h.te]; exact (rise_te d a.m).1⟩, sz_quiet h hk (sz_rise a.m hS)⟩
  have hd : ((∃ s', hearV (behV d.L a.m.ix a.m.lt) s d.out = some s' ∧ VI (outV d) s') ∧ d.te ≤ d.te) ∧ SzV (outV d) (i + 1) := ⟨⟨vi_quiet (Qt.refl d) hI, Int.le_refl _⟩, sz_quiet (Qt.refl d) (by omega) hS⟩
  unfold actV; split
  · unfold stepV; split
    · rename_i hr
      obtain ⟨⟨-, -, hfr, -⟩, hk, -, ⟨-, hix⟩, -⟩ := right_parts hr
      split
      · obtain ⟨-, -, e3, -⟩ := rise_eqs d a.m
        have h1 := vi_asked (vi_rise a.m hI) hfr
        rw [e3] at h1
        have hs := sz_rise a.m hS
        refine ⟨⟨h1, ?_⟩, sz_up (j := i + 1) ⟨?_, ?_, ?_⟩ (Nat.le_refl _)⟩
        · have h5 : (askedV (riseV d a.m) a.m).te = (riseV d a.m).te := by unfold askedV; split <;> rfl
          rw [h5]; exact (rise_te d a.m).1
        · have h5 : (outV (askedV (riseV d a.m) a.m)).nc = (riseV d a.m).nc := by unfold askedV; split <;> rfl
          rw [h5]; have := hs.nc; omega
        · have h5 : (outV (askedV (riseV d a.m) a.m)).L = (riseV d a.m).L := by unfold askedV; split <;> rfl
          rw [h5]; have := hs.ll; omega
        · have h5 : (outV (askedV (riseV d a.m) a.m)).L = (riseV d a.m).L := by unfold askedV; split <;> rfl
          rw [h5]; exact hs.lb
      · split
        · exact hq (by omega) (qt_voted _ _)
        · split
          · exact hq (by omega) (qt_apn _ _)
          · split
            · exact hq (by omega) (qt_apd _ _)
            · exact hq (by omega) (qt_snp _ _ hix)
    · exact hd
  · split
    · obtain ⟨h1, h2, h3, h4⟩ := vi_elect (b := behV d.L a.m.ix a.m.lt) hI hte
      exact ⟨⟨h1, h2⟩, by show (electV d).nc ≤ _; rw [h3]; have := hS.nc; omega, by show (electV d).L.l.length ≤ _; rw [h4]; have := hS.ll; omega, by show (electV d).L.base ≤ _; rw [h4]; exact hS.lb⟩
    · split
      · exact ⟨⟨⟨s, rfl, rfl, rfl, hI.vo, hI.la, hI.wh⟩, Int.le_refl _⟩, by show 0 ≤ _; omega, by show d.L.l.length ≤ _; have := hS.ll; omega, hS.lb⟩
      · exact hd
theorem hear_at {b : Bool} {s s2 : Int × Int} {l : List RMsg} {i : Nat} {x : RMsg} (hi : i < l.length) (hx : l[i] = x) (h : hearV b s (l.drop i) = some s2) : ∃ s3, hear1 b s x = some s3 ∧ hearV b s3 (l.drop (i + 1)) = some s2 := by
  rw [List.drop_eq_getElem_cons hi, hx] at h
  unfold hearV at h
  exact Option.bind_eq_some_iff.1 h
theorem hear_skip {b : Bool} {s s3 : Int × Int} {x : RMsg} (h : hear1 b s x = some s3) (hc : ¬ x.kd = 1 ∧ (¬ x.kd = 2 ∨ x.ok = false)) : s3 = s := by
  unfold hear1 at h; rw [if_pos hc] at h; exact (Option.some.inj h).symm
theorem hear_set {b : Bool} {s s3 : Int × Int} {x : RMsg} (h : hear1 b s x = some s3) (hc : ¬ (¬ x.kd = 1 ∧ (¬ x.kd = 2 ∨ x.ok = false))) :
    ¬ ((x.te = s.1 ∧ ¬ s.2 = (if x.kd = 1 then 0 else x.to)) ∨ x.te < s.1 ∨ (x.kd = 2 ∧ b = false)) ∧ s3 = (x.te, if x.kd = 1 then 0 else x.to) := by
  unfold hear1 at h; rw [if_neg hc] at h
  by_cases h2 : (x.te = s.1 ∧ ¬ s.2 = (if x.kd = 1 then 0 else x.to)) ∨ x.te < s.1 ∨ (x.kd = 2 ∧ b = false)
  · rw [if_pos h2] at h; cases h
  · rw [if_neg h2] at h; exact ⟨h2, (Option.some.inj h).symm⟩

set_option maxHeartbeats 4000000 in
set_option maxRecDepth 10000 in
theorem hears_spec {w : World} {kv : Nat} {s s2 : Int × Int} {b : Bool} (Fv : Cells w kv [.int .i64 s.1, .int .i64 s.2] 38) {D_o : Nat → Prop} {c_o : Nat} {a_o : Option Addr} {l : List RMsg} (F_o : Sl V.Cod.rmsg w D_o a_o c_o l) (hD_o : ∀ k, D_o k → k < w.heap.size)  (hhe : hearV b s l = some s2) (hko : ¬ D_o kv) :
    Meets Try.prog 16 [.pointer (some ⟨kv, 0, none⟩), .slice a_o l.length c_o, .bool b] w fun r w' => r = .bool true ∧ Cells w' kv [.int .i64 s2.1, .int .i64 s2.2] 38 ∧ Fr [kv] w w' := by
 have hkv := Fv.lt
 have hl63 := F_o.len63
 have HG := V.Fr.refl [kv] w
 refine V.enter (n := 80) Try.func16 rfl rfl (by decide) rfl ?_
 refine V.sr ?_
 refine V.ru 1 ?_
 refine V.nt ?_
 refine V.seq ?_
 refine V.sr ?_
 refine V.ru 1 ?_
 refine V.nt ?_
 refine V.block ?_
 refine V.loopM (fun m e v2 => Fr [kv] w v2 ∧ w.heap.size ≤ v2.heap.size ∧ Sl V.Cod.rmsg v2 D_o a_o c_o l ∧ ∃ (s1 : Int × Int) (i : Nat) , m = l.length - i ∧ i ≤ l.length ∧ hearV b s1 (l.drop i) = some s2 ∧ Cells v2 kv [.int .i64 s1.1, .int .i64 s1.2] 38 ∧ e 0 = .pointer (some ⟨kv, 0, none⟩) ∧ e 1 = .slice a_o l.length c_o ∧ e 2 = .bool b ∧ e 7 = .int .i64 (i : Int)) ?_ ?_
 ·
  exact ⟨_, HG, (by omega), F_o, (s), (0), rfl, (Nat.zero_le _), (by rw [List.drop_zero]; exact hhe), Fv, rfl, rfl, rfl, rfl⟩
 clear HG F_o Fv
 rintro _ e v2 ⟨HG, z3, F_o, s1, i, rfl, hi, hh, Fv, he0_0, he0_1, he0_2, he0_7⟩
 refine V.knownC (t := 0) he0_0 ?_
 refine V.knownC (t := 1) he0_1 ?_
 refine V.knownC (t := 2) he0_2 ?_
 refine V.knownC (t := 7) he0_7 ?_
 refine V.seq ?_
 refine V.sr ?_
 refine V.ru 4 ?_
 refine V.nt ?_
 refine V.condT rfl (fun h2 => ?_) (fun h2 => ?_)
 ·
  try replace h2 := V.dec h2
  try simp only [V.mk] at h2
  refine V.skip ?_
  refine V.tN ?_
  refine V.seq ?_
  refine V.block ?_
  refine V.sr ?_
  refine V.ru 2 ?_
  refine V.elem T_ok F_o rfl rfl sz57 rfl rfl rfl rfl V.lenA V.lenA ?_
  rintro b4 o5 cs6 hx7 hb8 hR17 hA9
  obtain ⟨x10, hx10⟩ : ∃ z', l[((i : Int)).toNat] = z' := ⟨_, rfl⟩
  rw [hx10] at hR17
  obtain ⟨a11, c12, a14, c15, rfl, F13, F16⟩ := hR17
  try simp only [Int.toNat_natCast] at hx10 hx7
  refine V.loadA T_ok (o0 := o5) (off := 0) hA9 rfl rfl rfl rfl rfl ?_
  refine V.alloc zero57 rfl rfl rfl ?_
  rintro k18 w20 s22 s23 G21 Fk19
  have z24 := V.Fr.size G21
  try simp only [V.cellsL, V.spliceL] at Fk19
  refine V.storeO Fk19 rfl rfl rfl rfl sz57 rfl rfl rfl rfl ?_
  rintro w25 G26 z28 Fs27
  clear Fk19
  have z29 := V.Fr.size G26
  have Fk19 := Fs27; clear Fs27
  simp only [V.spliceL, V.cellsL] at Fk19
  refine V.nt ?_
  refine V.seq ?_
  obtain ⟨s3, hs3, hr3⟩ := hear_at (x := x10) (by omega) hx10 hh
  refine V.region ?_
  refine V.ru 1 ?_
  refine V.loadO T_ok Fk19 rfl rfl rfl rfl rfl ?_
  refine V.ru 1 ?_
  refine V.nt ?_
  refine V.seq ?_
  refine V.sr ?_
  refine V.ru 1 ?_
  refine V.loadO T_ok Fk19 rfl rfl rfl rfl rfl ?_
  refine V.ru 1 ?_
  refine V.nt ?_
  refine V.condT rfl (fun h6 => ?_) (fun h6 => ?_)
  ·
   try replace h6 := V.dec h6
   try simp only [V.mk] at h6
   refine V.region ?_
   refine V.ru 1 ?_
   refine V.nt ?_
   refine V.seq ?_
   refine V.sr ?_
   refine V.ru 1 ?_
   refine V.loadO T_ok Fk19 rfl rfl rfl rfl rfl ?_
   refine V.ru 2 ?_
   refine V.split (j := 3) (t := 28) rfl rfl (fun g8_3 => ?_) (fun g8_3 => ?_)
   ·
    try replace g8_3 := V.dec g8_3
    try simp only [V.mk] at g8_3
    refine V.ru 1 ?_
    refine V.yes rfl rfl rfl ?_
    refine V.loadO T_ok Fk19 rfl rfl rfl rfl rfl ?_
    refine V.ru 2 ?_
    refine V.split (j := 7) (t := 32) rfl rfl (fun g8_7 => ?_) (fun g8_7 => ?_)
    ·
     try replace g8_7 := V.dec g8_7
     try simp only [V.mk] at g8_7
     refine V.ru 5 ?_
     refine V.nt ?_
     refine V.condY rfl rfl ?_
     refine V.exit ?_
     refine V.tX ?_
     refine V.bE ?_
     refine V.tN ?_
     refine V.region ?_
     refine V.ru 1 ?_
     refine V.addN rfl rfl rfl rfl rfl V.lenA V.lenA ?_
     refine V.ru 1 ?_
     refine V.nt ?_
     have e3 : s3 = s1 := hear_skip hs3 (by grind)
     subst e3
     replace Fv := Fv.gr G21
     replace Fv := Fv.ma G26
     replace F_o := F_o.gr G21
     replace F_o := F_o.mv1 G26 (by (try dsimp only [V.In]); first | omega | grind)
     replace HG := HG.grow G21
     replace HG := HG.n1 G26
     exact ⟨_, (by omega), HG, (by omega), F_o, (s3), (i + 1), rfl, (by omega), (hr3), Fv, rfl, rfl, rfl, rfl⟩
    ·
     try replace g8_7 := V.dec g8_7
     try simp only [V.mk] at g8_7
     refine V.ru 1 ?_
     refine V.yes rfl rfl rfl ?_
     refine V.loadO T_ok Fk19 rfl rfl rfl rfl rfl ?_
     refine V.ru 3 ?_
     refine V.nt ?_
     refine V.condT rfl (fun h8 => ?_) (fun h8 => ?_)
     ·
      try replace h8 := V.dec h8
      try simp only [V.mk] at h8
      
      refine V.exit ?_
      refine V.tX ?_
      refine V.bE ?_
      refine V.tN ?_
      refine V.region ?_
      refine V.ru 1 ?_
      refine V.addN rfl rfl rfl rfl rfl V.lenA V.lenA ?_
      refine V.ru 1 ?_
      refine V.nt ?_
      have e3 : s3 = s1 := hear_skip hs3 (by grind)
      subst e3
      replace Fv := Fv.gr G21
      replace Fv := Fv.ma G26
      replace F_o := F_o.gr G21
      replace F_o := F_o.mv1 G26 (by (try dsimp only [V.In]); first | omega | grind)
      replace HG := HG.grow G21
      replace HG := HG.n1 G26
      exact ⟨_, (by omega), HG, (by omega), F_o, (s3), (i + 1), rfl, (by omega), (hr3), Fv, rfl, rfl, rfl, rfl⟩
     ·
      try replace h8 := V.dec h8
      try simp only [V.mk] at h8
      
      refine V.skip ?_
      refine V.tN ?_
      refine V.seq ?_
      refine V.seq ?_
      obtain ⟨hn4, e4⟩ := hear_set hs3 (by grind)
      rw [if_pos h6] at hn4 e4
      rw [e4] at hr3
      have hr4 := hr3
      refine V.drawQ mixed (by kernel_rfl) ?_
      refine V.qrun T_ok 1 rfl ?_
      refine V.qloadO T_ok Fk19 rfl rfl rfl rfl rfl ?_
      refine V.qrun T_ok 3 rfl ?_
      replace Fv := Fv.gr G21
      replace Fv := Fv.ma G26
      refine V.qloadO T_ok Fv rfl rfl rfl rfl rfl ?_
      refine V.qrun T_ok 2 rfl ?_
      refine V.qsplit (j := 7) (t := 45) rfl rfl (fun g9_7 => ?_) (fun g9_7 => ?_)
      ·
       try replace g9_7 := V.dec g9_7
       try simp only [V.mk] at g9_7
       refine V.qrun T_ok 3 rfl ?_
       refine V.qyes rfl rfl rfl ?_
       refine V.qloadO T_ok Fv rfl rfl rfl rfl rfl ?_
       refine V.qrun T_ok 4 rfl ?_
       refine V.qsplit (j := 15) (t := 53) rfl rfl (fun g9_15 => ?_) (fun g9_15 => ?_)
       ·
        try replace g9_15 := V.dec g9_15
        try simp only [V.mk] at g9_15
        refine V.qrun T_ok 17 rfl ?_
        refine V.qnil ?_
        rintro w30 G31
        have z32 := V.Fr.size G31
        refine V.tN ?_
        refine V.condN rfl (by (first | (simp; grind) | grind)) ?_
        refine V.skip ?_
        refine V.tN ?_
        refine V.sr ?_
        refine V.ru 2 ?_
        replace Fk19 := Fk19.gr G31
        refine V.loadO T_ok Fk19 rfl rfl rfl rfl rfl ?_
        refine V.ru 2 ?_
        replace Fv := Fv.gr G31
        refine V.storeO Fv rfl rfl rfl rfl sz3 rfl rfl rfl rfl ?_
        rintro w33 G34 z36 Fs35
        clear Fv
        have z37 := V.Fr.size G34
        have Fv := Fs35; clear Fs35
        simp only [V.spliceL, V.cellsL] at Fv
        refine V.nt ?_
        refine V.region ?_
        refine V.ru 4 ?_
        refine V.storeO Fv rfl rfl rfl rfl sz3 rfl rfl rfl rfl ?_
        rintro w38 G39 z41 Fs40
        clear Fv
        have z42 := V.Fr.size G39
        have Fv := Fs40; clear Fs40
        simp only [V.spliceL, V.cellsL] at Fv
        refine V.nil ?_
        refine V.bN ?_
        refine V.tN ?_
        refine V.region ?_
        refine V.ru 1 ?_
        refine V.addN rfl rfl rfl rfl rfl V.lenA V.lenA ?_
        refine V.ru 1 ?_
        refine V.nt ?_
        replace F_o := F_o.gr G21
        replace F_o := F_o.mv1 G26 (by (try dsimp only [V.In]); first | omega | grind)
        replace F_o := F_o.gr G31
        replace F_o := F_o.mv1 G34 (by (try dsimp only [V.In]); first | omega | grind)
        replace F_o := F_o.mv1 G39 (by (try dsimp only [V.In]); first | omega | grind)
        replace HG := HG.grow G21
        replace HG := HG.n1 G26
        replace HG := HG.grow G31
        replace HG := HG.n1 G34
        replace HG := HG.n1 G39
        exact ⟨_, (by omega), HG, (by omega), F_o, ((x10.te, 0)), (i + 1), rfl, (by omega), (hr4), Fv, rfl, rfl, rfl, rfl⟩
       ·
        try replace g9_15 := V.dec g9_15
        try simp only [V.mk] at g9_15
        refine V.qrun T_ok 1 rfl ?_
        refine V.qyes rfl rfl rfl ?_
        refine V.qloadO T_ok Fk19 rfl rfl rfl rfl rfl ?_
        refine V.qrun T_ok 3 rfl ?_
        refine V.qyes rfl rfl rfl ?_
        refine V.qloadO T_ok Fv rfl rfl rfl rfl rfl ?_
        refine V.qrun T_ok 3 rfl ?_
        refine V.qsplit (j := 24) (t := 62) rfl rfl (fun g9_24 => ?_) (fun g9_24 => ?_)
        ·
         try replace g9_24 := V.dec g9_24
         try simp only [V.mk] at g9_24
         refine V.qrun T_ok 8 rfl ?_
         refine V.qnil ?_
         rintro w43 G44
         have z45 := V.Fr.size G44
         refine V.tN ?_
         refine V.condN rfl (by (first | (simp; grind) | grind)) ?_
         refine V.skip ?_
         refine V.tN ?_
         refine V.sr ?_
         refine V.ru 2 ?_
         replace Fk19 := Fk19.gr G44
         refine V.loadO T_ok Fk19 rfl rfl rfl rfl rfl ?_
         refine V.ru 2 ?_
         replace Fv := Fv.gr G44
         refine V.storeO Fv rfl rfl rfl rfl sz3 rfl rfl rfl rfl ?_
         rintro w46 G47 z49 Fs48
         clear Fv
         have z50 := V.Fr.size G47
         have Fv := Fs48; clear Fs48
         simp only [V.spliceL, V.cellsL] at Fv
         refine V.nt ?_
         refine V.region ?_
         refine V.ru 4 ?_
         refine V.storeO Fv rfl rfl rfl rfl sz3 rfl rfl rfl rfl ?_
         rintro w51 G52 z54 Fs53
         clear Fv
         have z55 := V.Fr.size G52
         have Fv := Fs53; clear Fs53
         simp only [V.spliceL, V.cellsL] at Fv
         refine V.nil ?_
         refine V.bN ?_
         refine V.tN ?_
         refine V.region ?_
         refine V.ru 1 ?_
         refine V.addN rfl rfl rfl rfl rfl V.lenA V.lenA ?_
         refine V.ru 1 ?_
         refine V.nt ?_
         replace F_o := F_o.gr G21
         replace F_o := F_o.mv1 G26 (by (try dsimp only [V.In]); first | omega | grind)
         replace F_o := F_o.gr G44
         replace F_o := F_o.mv1 G47 (by (try dsimp only [V.In]); first | omega | grind)
         replace F_o := F_o.mv1 G52 (by (try dsimp only [V.In]); first | omega | grind)
         replace HG := HG.grow G21
         replace HG := HG.n1 G26
         replace HG := HG.grow G44
         replace HG := HG.n1 G47
         replace HG := HG.n1 G52
         exact ⟨_, (by omega), HG, (by omega), F_o, ((x10.te, 0)), (i + 1), rfl, (by omega), (hr4), Fv, rfl, rfl, rfl, rfl⟩
        ·
         try replace g9_24 := V.dec g9_24
         try simp only [V.mk] at g9_24
         refine V.qrun T_ok 1 rfl ?_
         refine V.qyes rfl rfl rfl ?_
         refine V.qloadO T_ok Fk19 rfl rfl rfl rfl rfl ?_
         refine V.qrun T_ok 2 rfl ?_
         refine V.qsplit (j := 28) (t := 66) rfl rfl (fun g9_28 => ?_) (fun g9_28 => ?_)
         ·
          try replace g9_28 := V.dec g9_28
          try simp only [V.mk] at g9_28
          refine V.qrun T_ok 4 rfl ?_
          refine V.qnil ?_
          rintro w56 G57
          have z58 := V.Fr.size G57
          refine V.tN ?_
          refine V.condN rfl (by (first | (simp; grind) | grind)) ?_
          refine V.skip ?_
          refine V.tN ?_
          refine V.sr ?_
          refine V.ru 2 ?_
          replace Fk19 := Fk19.gr G57
          refine V.loadO T_ok Fk19 rfl rfl rfl rfl rfl ?_
          refine V.ru 2 ?_
          replace Fv := Fv.gr G57
          refine V.storeO Fv rfl rfl rfl rfl sz3 rfl rfl rfl rfl ?_
          rintro w59 G60 z62 Fs61
          clear Fv
          have z63 := V.Fr.size G60
          have Fv := Fs61; clear Fs61
          simp only [V.spliceL, V.cellsL] at Fv
          refine V.nt ?_
          refine V.region ?_
          refine V.ru 4 ?_
          refine V.storeO Fv rfl rfl rfl rfl sz3 rfl rfl rfl rfl ?_
          rintro w64 G65 z67 Fs66
          clear Fv
          have z68 := V.Fr.size G65
          have Fv := Fs66; clear Fs66
          simp only [V.spliceL, V.cellsL] at Fv
          refine V.nil ?_
          refine V.bN ?_
          refine V.tN ?_
          refine V.region ?_
          refine V.ru 1 ?_
          refine V.addN rfl rfl rfl rfl rfl V.lenA V.lenA ?_
          refine V.ru 1 ?_
          refine V.nt ?_
          replace F_o := F_o.gr G21
          replace F_o := F_o.mv1 G26 (by (try dsimp only [V.In]); first | omega | grind)
          replace F_o := F_o.gr G57
          replace F_o := F_o.mv1 G60 (by (try dsimp only [V.In]); first | omega | grind)
          replace F_o := F_o.mv1 G65 (by (try dsimp only [V.In]); first | omega | grind)
          replace HG := HG.grow G21
          replace HG := HG.n1 G26
          replace HG := HG.grow G57
          replace HG := HG.n1 G60
          replace HG := HG.n1 G65
          exact ⟨_, (by omega), HG, (by omega), F_o, ((x10.te, 0)), (i + 1), rfl, (by omega), (hr4), Fv, rfl, rfl, rfl, rfl⟩
         ·
          try replace g9_28 := V.dec g9_28
          try simp only [V.mk] at g9_28
          refine V.qrun T_ok 4 rfl ?_
          refine V.qnil ?_
          rintro w69 G70
          have z71 := V.Fr.size G70
          refine V.tN ?_
          refine V.condN rfl (by (first | (simp; grind) | grind)) ?_
          refine V.skip ?_
          refine V.tN ?_
          refine V.sr ?_
          refine V.ru 2 ?_
          replace Fk19 := Fk19.gr G70
          refine V.loadO T_ok Fk19 rfl rfl rfl rfl rfl ?_
          refine V.ru 2 ?_
          replace Fv := Fv.gr G70
          refine V.storeO Fv rfl rfl rfl rfl sz3 rfl rfl rfl rfl ?_
          rintro w72 G73 z75 Fs74
          clear Fv
          have z76 := V.Fr.size G73
          have Fv := Fs74; clear Fs74
          simp only [V.spliceL, V.cellsL] at Fv
          refine V.nt ?_
          refine V.region ?_
          refine V.ru 4 ?_
          refine V.storeO Fv rfl rfl rfl rfl sz3 rfl rfl rfl rfl ?_
          rintro w77 G78 z80 Fs79
          clear Fv
          have z81 := V.Fr.size G78
          have Fv := Fs79; clear Fs79
          simp only [V.spliceL, V.cellsL] at Fv
          refine V.nil ?_
          refine V.bN ?_
          refine V.tN ?_
          refine V.region ?_
          refine V.ru 1 ?_
          refine V.addN rfl rfl rfl rfl rfl V.lenA V.lenA ?_
          refine V.ru 1 ?_
          refine V.nt ?_
          replace F_o := F_o.gr G21
          replace F_o := F_o.mv1 G26 (by (try dsimp only [V.In]); first | omega | grind)
          replace F_o := F_o.gr G70
          replace F_o := F_o.mv1 G73 (by (try dsimp only [V.In]); first | omega | grind)
          replace F_o := F_o.mv1 G78 (by (try dsimp only [V.In]); first | omega | grind)
          replace HG := HG.grow G21
          replace HG := HG.n1 G26
          replace HG := HG.grow G70
          replace HG := HG.n1 G73
          replace HG := HG.n1 G78
          exact ⟨_, (by omega), HG, (by omega), F_o, ((x10.te, 0)), (i + 1), rfl, (by omega), (hr4), Fv, rfl, rfl, rfl, rfl⟩
      ·
       try replace g9_7 := V.dec g9_7
       try simp only [V.mk] at g9_7
       refine V.qrun T_ok 9 rfl ?_
       refine V.qyes rfl rfl rfl ?_
       refine V.qloadO T_ok Fk19 rfl rfl rfl rfl rfl ?_
       refine V.qrun T_ok 3 rfl ?_
       refine V.qyes rfl rfl rfl ?_
       refine V.qloadO T_ok Fv rfl rfl rfl rfl rfl ?_
       refine V.qrun T_ok 3 rfl ?_
       refine V.qsplit (j := 24) (t := 62) rfl rfl (fun g9_24 => ?_) (fun g9_24 => ?_)
       ·
        try replace g9_24 := V.dec g9_24
        try simp only [V.mk] at g9_24
        refine V.qrun T_ok 8 rfl ?_
        refine V.qnil ?_
        rintro w82 G83
        have z84 := V.Fr.size G83
        refine V.tN ?_
        refine V.condN rfl (by (first | (simp; grind) | grind)) ?_
        refine V.skip ?_
        refine V.tN ?_
        refine V.sr ?_
        refine V.ru 2 ?_
        replace Fk19 := Fk19.gr G83
        refine V.loadO T_ok Fk19 rfl rfl rfl rfl rfl ?_
        refine V.ru 2 ?_
        replace Fv := Fv.gr G83
        refine V.storeO Fv rfl rfl rfl rfl sz3 rfl rfl rfl rfl ?_
        rintro w85 G86 z88 Fs87
        clear Fv
        have z89 := V.Fr.size G86
        have Fv := Fs87; clear Fs87
        simp only [V.spliceL, V.cellsL] at Fv
        refine V.nt ?_
        refine V.region ?_
        refine V.ru 4 ?_
        refine V.storeO Fv rfl rfl rfl rfl sz3 rfl rfl rfl rfl ?_
        rintro w90 G91 z93 Fs92
        clear Fv
        have z94 := V.Fr.size G91
        have Fv := Fs92; clear Fs92
        simp only [V.spliceL, V.cellsL] at Fv
        refine V.nil ?_
        refine V.bN ?_
        refine V.tN ?_
        refine V.region ?_
        refine V.ru 1 ?_
        refine V.addN rfl rfl rfl rfl rfl V.lenA V.lenA ?_
        refine V.ru 1 ?_
        refine V.nt ?_
        replace F_o := F_o.gr G21
        replace F_o := F_o.mv1 G26 (by (try dsimp only [V.In]); first | omega | grind)
        replace F_o := F_o.gr G83
        replace F_o := F_o.mv1 G86 (by (try dsimp only [V.In]); first | omega | grind)
        replace F_o := F_o.mv1 G91 (by (try dsimp only [V.In]); first | omega | grind)
        replace HG := HG.grow G21
        replace HG := HG.n1 G26
        replace HG := HG.grow G83
        replace HG := HG.n1 G86
        replace HG := HG.n1 G91
        exact ⟨_, (by omega), HG, (by omega), F_o, ((x10.te, 0)), (i + 1), rfl, (by omega), (hr4), Fv, rfl, rfl, rfl, rfl⟩
       ·
        try replace g9_24 := V.dec g9_24
        try simp only [V.mk] at g9_24
        refine V.qrun T_ok 1 rfl ?_
        refine V.qyes rfl rfl rfl ?_
        refine V.qloadO T_ok Fk19 rfl rfl rfl rfl rfl ?_
        refine V.qrun T_ok 2 rfl ?_
        refine V.qsplit (j := 28) (t := 66) rfl rfl (fun g9_28 => ?_) (fun g9_28 => ?_)
        ·
         try replace g9_28 := V.dec g9_28
         try simp only [V.mk] at g9_28
         refine V.qrun T_ok 4 rfl ?_
         refine V.qnil ?_
         rintro w95 G96
         have z97 := V.Fr.size G96
         refine V.tN ?_
         refine V.condN rfl (by (first | (simp; grind) | grind)) ?_
         refine V.skip ?_
         refine V.tN ?_
         refine V.sr ?_
         refine V.ru 2 ?_
         replace Fk19 := Fk19.gr G96
         refine V.loadO T_ok Fk19 rfl rfl rfl rfl rfl ?_
         refine V.ru 2 ?_
         replace Fv := Fv.gr G96
         refine V.storeO Fv rfl rfl rfl rfl sz3 rfl rfl rfl rfl ?_
         rintro w98 G99 z101 Fs100
         clear Fv
         have z102 := V.Fr.size G99
         have Fv := Fs100; clear Fs100
         simp only [V.spliceL, V.cellsL] at Fv
         refine V.nt ?_
         refine V.region ?_
         refine V.ru 4 ?_
         refine V.storeO Fv rfl rfl rfl rfl sz3 rfl rfl rfl rfl ?_
         rintro w103 G104 z106 Fs105
         clear Fv
         have z107 := V.Fr.size G104
         have Fv := Fs105; clear Fs105
         simp only [V.spliceL, V.cellsL] at Fv
         refine V.nil ?_
         refine V.bN ?_
         refine V.tN ?_
         refine V.region ?_
         refine V.ru 1 ?_
         refine V.addN rfl rfl rfl rfl rfl V.lenA V.lenA ?_
         refine V.ru 1 ?_
         refine V.nt ?_
         replace F_o := F_o.gr G21
         replace F_o := F_o.mv1 G26 (by (try dsimp only [V.In]); first | omega | grind)
         replace F_o := F_o.gr G96
         replace F_o := F_o.mv1 G99 (by (try dsimp only [V.In]); first | omega | grind)
         replace F_o := F_o.mv1 G104 (by (try dsimp only [V.In]); first | omega | grind)
         replace HG := HG.grow G21
         replace HG := HG.n1 G26
         replace HG := HG.grow G96
         replace HG := HG.n1 G99
         replace HG := HG.n1 G104
         exact ⟨_, (by omega), HG, (by omega), F_o, ((x10.te, 0)), (i + 1), rfl, (by omega), (hr4), Fv, rfl, rfl, rfl, rfl⟩
        ·
         try replace g9_28 := V.dec g9_28
         try simp only [V.mk] at g9_28
         refine V.qrun T_ok 4 rfl ?_
         refine V.qnil ?_
         rintro w108 G109
         have z110 := V.Fr.size G109
         refine V.tN ?_
         refine V.condN rfl (by (first | (simp; grind) | grind)) ?_
         refine V.skip ?_
         refine V.tN ?_
         refine V.sr ?_
         refine V.ru 2 ?_
         replace Fk19 := Fk19.gr G109
         refine V.loadO T_ok Fk19 rfl rfl rfl rfl rfl ?_
         refine V.ru 2 ?_
         replace Fv := Fv.gr G109
         refine V.storeO Fv rfl rfl rfl rfl sz3 rfl rfl rfl rfl ?_
         rintro w111 G112 z114 Fs113
         clear Fv
         have z115 := V.Fr.size G112
         have Fv := Fs113; clear Fs113
         simp only [V.spliceL, V.cellsL] at Fv
         refine V.nt ?_
         refine V.region ?_
         refine V.ru 4 ?_
         refine V.storeO Fv rfl rfl rfl rfl sz3 rfl rfl rfl rfl ?_
         rintro w116 G117 z119 Fs118
         clear Fv
         have z120 := V.Fr.size G117
         have Fv := Fs118; clear Fs118
         simp only [V.spliceL, V.cellsL] at Fv
         refine V.nil ?_
         refine V.bN ?_
         refine V.tN ?_
         refine V.region ?_
         refine V.ru 1 ?_
         refine V.addN rfl rfl rfl rfl rfl V.lenA V.lenA ?_
         refine V.ru 1 ?_
         refine V.nt ?_
         replace F_o := F_o.gr G21
         replace F_o := F_o.mv1 G26 (by (try dsimp only [V.In]); first | omega | grind)
         replace F_o := F_o.gr G109
         replace F_o := F_o.mv1 G112 (by (try dsimp only [V.In]); first | omega | grind)
         replace F_o := F_o.mv1 G117 (by (try dsimp only [V.In]); first | omega | grind)
         replace HG := HG.grow G21
         replace HG := HG.n1 G26
         replace HG := HG.grow G109
         replace HG := HG.n1 G112
         replace HG := HG.n1 G117
         exact ⟨_, (by omega), HG, (by omega), F_o, ((x10.te, 0)), (i + 1), rfl, (by omega), (hr4), Fv, rfl, rfl, rfl, rfl⟩
   ·
    try replace g8_3 := V.dec g8_3
    try simp only [V.mk] at g8_3
    refine V.ru 9 ?_
    refine V.nt ?_
    refine V.condN rfl rfl ?_
    refine V.skip ?_
    refine V.tN ?_
    refine V.seq ?_
    refine V.seq ?_
    obtain ⟨hn4, e4⟩ := hear_set hs3 (by grind)
    rw [if_pos h6] at hn4 e4
    rw [e4] at hr3
    have hr4 := hr3
    refine V.drawQ mixed (by kernel_rfl) ?_
    refine V.qrun T_ok 1 rfl ?_
    refine V.qloadO T_ok Fk19 rfl rfl rfl rfl rfl ?_
    refine V.qrun T_ok 3 rfl ?_
    replace Fv := Fv.gr G21
    replace Fv := Fv.ma G26
    refine V.qloadO T_ok Fv rfl rfl rfl rfl rfl ?_
    refine V.qrun T_ok 2 rfl ?_
    refine V.qsplit (j := 7) (t := 45) rfl rfl (fun g9_7 => ?_) (fun g9_7 => ?_)
    ·
     try replace g9_7 := V.dec g9_7
     try simp only [V.mk] at g9_7
     refine V.qrun T_ok 3 rfl ?_
     refine V.qyes rfl rfl rfl ?_
     refine V.qloadO T_ok Fv rfl rfl rfl rfl rfl ?_
     refine V.qrun T_ok 4 rfl ?_
     refine V.qsplit (j := 15) (t := 53) rfl rfl (fun g9_15 => ?_) (fun g9_15 => ?_)
     ·
      try replace g9_15 := V.dec g9_15
      try simp only [V.mk] at g9_15
      refine V.qrun T_ok 17 rfl ?_
      refine V.qnil ?_
      rintro w121 G122
      have z123 := V.Fr.size G122
      refine V.tN ?_
      refine V.condN rfl (by (first | (simp; grind) | grind)) ?_
      refine V.skip ?_
      refine V.tN ?_
      refine V.sr ?_
      refine V.ru 2 ?_
      replace Fk19 := Fk19.gr G122
      refine V.loadO T_ok Fk19 rfl rfl rfl rfl rfl ?_
      refine V.ru 2 ?_
      replace Fv := Fv.gr G122
      refine V.storeO Fv rfl rfl rfl rfl sz3 rfl rfl rfl rfl ?_
      rintro w124 G125 z127 Fs126
      clear Fv
      have z128 := V.Fr.size G125
      have Fv := Fs126; clear Fs126
      simp only [V.spliceL, V.cellsL] at Fv
      refine V.nt ?_
      refine V.region ?_
      refine V.ru 4 ?_
      refine V.storeO Fv rfl rfl rfl rfl sz3 rfl rfl rfl rfl ?_
      rintro w129 G130 z132 Fs131
      clear Fv
      have z133 := V.Fr.size G130
      have Fv := Fs131; clear Fs131
      simp only [V.spliceL, V.cellsL] at Fv
      refine V.nil ?_
      refine V.bN ?_
      refine V.tN ?_
      refine V.region ?_
      refine V.ru 1 ?_
      refine V.addN rfl rfl rfl rfl rfl V.lenA V.lenA ?_
      refine V.ru 1 ?_
      refine V.nt ?_
      replace F_o := F_o.gr G21
      replace F_o := F_o.mv1 G26 (by (try dsimp only [V.In]); first | omega | grind)
      replace F_o := F_o.gr G122
      replace F_o := F_o.mv1 G125 (by (try dsimp only [V.In]); first | omega | grind)
      replace F_o := F_o.mv1 G130 (by (try dsimp only [V.In]); first | omega | grind)
      replace HG := HG.grow G21
      replace HG := HG.n1 G26
      replace HG := HG.grow G122
      replace HG := HG.n1 G125
      replace HG := HG.n1 G130
      exact ⟨_, (by omega), HG, (by omega), F_o, ((x10.te, 0)), (i + 1), rfl, (by omega), (hr4), Fv, rfl, rfl, rfl, rfl⟩
     ·
      try replace g9_15 := V.dec g9_15
      try simp only [V.mk] at g9_15
      refine V.qrun T_ok 1 rfl ?_
      refine V.qyes rfl rfl rfl ?_
      refine V.qloadO T_ok Fk19 rfl rfl rfl rfl rfl ?_
      refine V.qrun T_ok 3 rfl ?_
      refine V.qyes rfl rfl rfl ?_
      refine V.qloadO T_ok Fv rfl rfl rfl rfl rfl ?_
      refine V.qrun T_ok 3 rfl ?_
      refine V.qsplit (j := 24) (t := 62) rfl rfl (fun g9_24 => ?_) (fun g9_24 => ?_)
      ·
       try replace g9_24 := V.dec g9_24
       try simp only [V.mk] at g9_24
       refine V.qrun T_ok 8 rfl ?_
       refine V.qnil ?_
       rintro w134 G135
       have z136 := V.Fr.size G135
       refine V.tN ?_
       refine V.condN rfl (by (first | (simp; grind) | grind)) ?_
       refine V.skip ?_
       refine V.tN ?_
       refine V.sr ?_
       refine V.ru 2 ?_
       replace Fk19 := Fk19.gr G135
       refine V.loadO T_ok Fk19 rfl rfl rfl rfl rfl ?_
       refine V.ru 2 ?_
       replace Fv := Fv.gr G135
       refine V.storeO Fv rfl rfl rfl rfl sz3 rfl rfl rfl rfl ?_
       rintro w137 G138 z140 Fs139
       clear Fv
       have z141 := V.Fr.size G138
       have Fv := Fs139; clear Fs139
       simp only [V.spliceL, V.cellsL] at Fv
       refine V.nt ?_
       refine V.region ?_
       refine V.ru 4 ?_
       refine V.storeO Fv rfl rfl rfl rfl sz3 rfl rfl rfl rfl ?_
       rintro w142 G143 z145 Fs144
       clear Fv
       have z146 := V.Fr.size G143
       have Fv := Fs144; clear Fs144
       simp only [V.spliceL, V.cellsL] at Fv
       refine V.nil ?_
       refine V.bN ?_
       refine V.tN ?_
       refine V.region ?_
       refine V.ru 1 ?_
       refine V.addN rfl rfl rfl rfl rfl V.lenA V.lenA ?_
       refine V.ru 1 ?_
       refine V.nt ?_
       replace F_o := F_o.gr G21
       replace F_o := F_o.mv1 G26 (by (try dsimp only [V.In]); first | omega | grind)
       replace F_o := F_o.gr G135
       replace F_o := F_o.mv1 G138 (by (try dsimp only [V.In]); first | omega | grind)
       replace F_o := F_o.mv1 G143 (by (try dsimp only [V.In]); first | omega | grind)
       replace HG := HG.grow G21
       replace HG := HG.n1 G26
       replace HG := HG.grow G135
       replace HG := HG.n1 G138
       replace HG := HG.n1 G143
       exact ⟨_, (by omega), HG, (by omega), F_o, ((x10.te, 0)), (i + 1), rfl, (by omega), (hr4), Fv, rfl, rfl, rfl, rfl⟩
      ·
       try replace g9_24 := V.dec g9_24
       try simp only [V.mk] at g9_24
       refine V.qrun T_ok 1 rfl ?_
       refine V.qyes rfl rfl rfl ?_
       refine V.qloadO T_ok Fk19 rfl rfl rfl rfl rfl ?_
       refine V.qrun T_ok 2 rfl ?_
       refine V.qsplit (j := 28) (t := 66) rfl rfl (fun g9_28 => ?_) (fun g9_28 => ?_)
       ·
        try replace g9_28 := V.dec g9_28
        try simp only [V.mk] at g9_28
        refine V.qrun T_ok 4 rfl ?_
        refine V.qnil ?_
        rintro w147 G148
        have z149 := V.Fr.size G148
        refine V.tN ?_
        refine V.condN rfl (by (first | (simp; grind) | grind)) ?_
        refine V.skip ?_
        refine V.tN ?_
        refine V.sr ?_
        refine V.ru 2 ?_
        replace Fk19 := Fk19.gr G148
        refine V.loadO T_ok Fk19 rfl rfl rfl rfl rfl ?_
        refine V.ru 2 ?_
        replace Fv := Fv.gr G148
        refine V.storeO Fv rfl rfl rfl rfl sz3 rfl rfl rfl rfl ?_
        rintro w150 G151 z153 Fs152
        clear Fv
        have z154 := V.Fr.size G151
        have Fv := Fs152; clear Fs152
        simp only [V.spliceL, V.cellsL] at Fv
        refine V.nt ?_
        refine V.region ?_
        refine V.ru 4 ?_
        refine V.storeO Fv rfl rfl rfl rfl sz3 rfl rfl rfl rfl ?_
        rintro w155 G156 z158 Fs157
        clear Fv
        have z159 := V.Fr.size G156
        have Fv := Fs157; clear Fs157
        simp only [V.spliceL, V.cellsL] at Fv
        refine V.nil ?_
        refine V.bN ?_
        refine V.tN ?_
        refine V.region ?_
        refine V.ru 1 ?_
        refine V.addN rfl rfl rfl rfl rfl V.lenA V.lenA ?_
        refine V.ru 1 ?_
        refine V.nt ?_
        replace F_o := F_o.gr G21
        replace F_o := F_o.mv1 G26 (by (try dsimp only [V.In]); first | omega | grind)
        replace F_o := F_o.gr G148
        replace F_o := F_o.mv1 G151 (by (try dsimp only [V.In]); first | omega | grind)
        replace F_o := F_o.mv1 G156 (by (try dsimp only [V.In]); first | omega | grind)
        replace HG := HG.grow G21
        replace HG := HG.n1 G26
        replace HG := HG.grow G148
        replace HG := HG.n1 G151
        replace HG := HG.n1 G156
        exact ⟨_, (by omega), HG, (by omega), F_o, ((x10.te, 0)), (i + 1), rfl, (by omega), (hr4), Fv, rfl, rfl, rfl, rfl⟩
       ·
        try replace g9_28 := V.dec g9_28
        try simp only [V.mk] at g9_28
        refine V.qrun T_ok 4 rfl ?_
        refine V.qnil ?_
        rintro w160 G161
        have z162 := V.Fr.size G161
        refine V.tN ?_
        refine V.condN rfl (by (first | (simp; grind) | grind)) ?_
        refine V.skip ?_
        refine V.tN ?_
        refine V.sr ?_
        refine V.ru 2 ?_
        replace Fk19 := Fk19.gr G161
        refine V.loadO T_ok Fk19 rfl rfl rfl rfl rfl ?_
        refine V.ru 2 ?_
        replace Fv := Fv.gr G161
        refine V.storeO Fv rfl rfl rfl rfl sz3 rfl rfl rfl rfl ?_
        rintro w163 G164 z166 Fs165
        clear Fv
        have z167 := V.Fr.size G164
        have Fv := Fs165; clear Fs165
        simp only [V.spliceL, V.cellsL] at Fv
        refine V.nt ?_
        refine V.region ?_
        refine V.ru 4 ?_
        refine V.storeO Fv rfl rfl rfl rfl sz3 rfl rfl rfl rfl ?_
        rintro w168 G169 z171 Fs170
        clear Fv
        have z172 := V.Fr.size G169
        have Fv := Fs170; clear Fs170
        simp only [V.spliceL, V.cellsL] at Fv
        refine V.nil ?_
        refine V.bN ?_
        refine V.tN ?_
        refine V.region ?_
        refine V.ru 1 ?_
        refine V.addN rfl rfl rfl rfl rfl V.lenA V.lenA ?_
        refine V.ru 1 ?_
        refine V.nt ?_
        replace F_o := F_o.gr G21
        replace F_o := F_o.mv1 G26 (by (try dsimp only [V.In]); first | omega | grind)
        replace F_o := F_o.gr G161
        replace F_o := F_o.mv1 G164 (by (try dsimp only [V.In]); first | omega | grind)
        replace F_o := F_o.mv1 G169 (by (try dsimp only [V.In]); first | omega | grind)
        replace HG := HG.grow G21
        replace HG := HG.n1 G26
        replace HG := HG.grow G161
        replace HG := HG.n1 G164
        replace HG := HG.n1 G169
        exact ⟨_, (by omega), HG, (by omega), F_o, ((x10.te, 0)), (i + 1), rfl, (by omega), (hr4), Fv, rfl, rfl, rfl, rfl⟩
    ·
     try replace g9_7 := V.dec g9_7
     try simp only [V.mk] at g9_7
     refine V.qrun T_ok 9 rfl ?_
     refine V.qyes rfl rfl rfl ?_
     refine V.qloadO T_ok Fk19 rfl rfl rfl rfl rfl ?_
     refine V.qrun T_ok 3 rfl ?_
     refine V.qyes rfl rfl rfl ?_
     refine V.qloadO T_ok Fv rfl rfl rfl rfl rfl ?_
     refine V.qrun T_ok 3 rfl ?_
     refine V.qsplit (j := 24) (t := 62) rfl rfl (fun g9_24 => ?_) (fun g9_24 => ?_)
     ·
      try replace g9_24 := V.dec g9_24
      try simp only [V.mk] at g9_24
      refine V.qrun T_ok 8 rfl ?_
      refine V.qnil ?_
      rintro w173 G174
      have z175 := V.Fr.size G174
      refine V.tN ?_
      refine V.condN rfl (by (first | (simp; grind) | grind)) ?_
      refine V.skip ?_
      refine V.tN ?_
      refine V.sr ?_
      refine V.ru 2 ?_
      replace Fk19 := Fk19.gr G174
      refine V.loadO T_ok Fk19 rfl rfl rfl rfl rfl ?_
      refine V.ru 2 ?_
      replace Fv := Fv.gr G174
      refine V.storeO Fv rfl rfl rfl rfl sz3 rfl rfl rfl rfl ?_
      rintro w176 G177 z179 Fs178
      clear Fv
      have z180 := V.Fr.size G177
      have Fv := Fs178; clear Fs178
      simp only [V.spliceL, V.cellsL] at Fv
      refine V.nt ?_
      refine V.region ?_
      refine V.ru 4 ?_
      refine V.storeO Fv rfl rfl rfl rfl sz3 rfl rfl rfl rfl ?_
      rintro w181 G182 z184 Fs183
      clear Fv
      have z185 := V.Fr.size G182
      have Fv := Fs183; clear Fs183
      simp only [V.spliceL, V.cellsL] at Fv
      refine V.nil ?_
      refine V.bN ?_
      refine V.tN ?_
      refine V.region ?_
      refine V.ru 1 ?_
      refine V.addN rfl rfl rfl rfl rfl V.lenA V.lenA ?_
      refine V.ru 1 ?_
      refine V.nt ?_
      replace F_o := F_o.gr G21
      replace F_o := F_o.mv1 G26 (by (try dsimp only [V.In]); first | omega | grind)
      replace F_o := F_o.gr G174
      replace F_o := F_o.mv1 G177 (by (try dsimp only [V.In]); first | omega | grind)
      replace F_o := F_o.mv1 G182 (by (try dsimp only [V.In]); first | omega | grind)
      replace HG := HG.grow G21
      replace HG := HG.n1 G26
      replace HG := HG.grow G174
      replace HG := HG.n1 G177
      replace HG := HG.n1 G182
      exact ⟨_, (by omega), HG, (by omega), F_o, ((x10.te, 0)), (i + 1), rfl, (by omega), (hr4), Fv, rfl, rfl, rfl, rfl⟩
     ·
      try replace g9_24 := V.dec g9_24
      try simp only [V.mk] at g9_24
      refine V.qrun T_ok 1 rfl ?_
      refine V.qyes rfl rfl rfl ?_
      refine V.qloadO T_ok Fk19 rfl rfl rfl rfl rfl ?_
      refine V.qrun T_ok 2 rfl ?_
      refine V.qsplit (j := 28) (t := 66) rfl rfl (fun g9_28 => ?_) (fun g9_28 => ?_)
      ·
       try replace g9_28 := V.dec g9_28
       try simp only [V.mk] at g9_28
       refine V.qrun T_ok 4 rfl ?_
       refine V.qnil ?_
       rintro w186 G187
       have z188 := V.Fr.size G187
       refine V.tN ?_
       refine V.condN rfl (by (first | (simp; grind) | grind)) ?_
       refine V.skip ?_
       refine V.tN ?_
       refine V.sr ?_
       refine V.ru 2 ?_
       replace Fk19 := Fk19.gr G187
       refine V.loadO T_ok Fk19 rfl rfl rfl rfl rfl ?_
       refine V.ru 2 ?_
       replace Fv := Fv.gr G187
       refine V.storeO Fv rfl rfl rfl rfl sz3 rfl rfl rfl rfl ?_
       rintro w189 G190 z192 Fs191
       clear Fv
       have z193 := V.Fr.size G190
       have Fv := Fs191; clear Fs191
       simp only [V.spliceL, V.cellsL] at Fv
       refine V.nt ?_
       refine V.region ?_
       refine V.ru 4 ?_
       refine V.storeO Fv rfl rfl rfl rfl sz3 rfl rfl rfl rfl ?_
       rintro w194 G195 z197 Fs196
       clear Fv
       have z198 := V.Fr.size G195
       have Fv := Fs196; clear Fs196
       simp only [V.spliceL, V.cellsL] at Fv
       refine V.nil ?_
       refine V.bN ?_
       refine V.tN ?_
       refine V.region ?_
       refine V.ru 1 ?_
       refine V.addN rfl rfl rfl rfl rfl V.lenA V.lenA ?_
       refine V.ru 1 ?_
       refine V.nt ?_
       replace F_o := F_o.gr G21
       replace F_o := F_o.mv1 G26 (by (try dsimp only [V.In]); first | omega | grind)
       replace F_o := F_o.gr G187
       replace F_o := F_o.mv1 G190 (by (try dsimp only [V.In]); first | omega | grind)
       replace F_o := F_o.mv1 G195 (by (try dsimp only [V.In]); first | omega | grind)
       replace HG := HG.grow G21
       replace HG := HG.n1 G26
       replace HG := HG.grow G187
       replace HG := HG.n1 G190
       replace HG := HG.n1 G195
       exact ⟨_, (by omega), HG, (by omega), F_o, ((x10.te, 0)), (i + 1), rfl, (by omega), (hr4), Fv, rfl, rfl, rfl, rfl⟩
      ·
       try replace g9_28 := V.dec g9_28
       try simp only [V.mk] at g9_28
       refine V.qrun T_ok 4 rfl ?_
       refine V.qnil ?_
       rintro w199 G200
       have z201 := V.Fr.size G200
       refine V.tN ?_
       refine V.condN rfl (by (first | (simp; grind) | grind)) ?_
       refine V.skip ?_
       refine V.tN ?_
       refine V.sr ?_
       refine V.ru 2 ?_
       replace Fk19 := Fk19.gr G200
       refine V.loadO T_ok Fk19 rfl rfl rfl rfl rfl ?_
       refine V.ru 2 ?_
       replace Fv := Fv.gr G200
       refine V.storeO Fv rfl rfl rfl rfl sz3 rfl rfl rfl rfl ?_
       rintro w202 G203 z205 Fs204
       clear Fv
       have z206 := V.Fr.size G203
       have Fv := Fs204; clear Fs204
       simp only [V.spliceL, V.cellsL] at Fv
       refine V.nt ?_
       refine V.region ?_
       refine V.ru 4 ?_
       refine V.storeO Fv rfl rfl rfl rfl sz3 rfl rfl rfl rfl ?_
       rintro w207 G208 z210 Fs209
       clear Fv
       have z211 := V.Fr.size G208
       have Fv := Fs209; clear Fs209
       simp only [V.spliceL, V.cellsL] at Fv
       refine V.nil ?_
       refine V.bN ?_
       refine V.tN ?_
       refine V.region ?_
       refine V.ru 1 ?_
       refine V.addN rfl rfl rfl rfl rfl V.lenA V.lenA ?_
       refine V.ru 1 ?_
       refine V.nt ?_
       replace F_o := F_o.gr G21
       replace F_o := F_o.mv1 G26 (by (try dsimp only [V.In]); first | omega | grind)
       replace F_o := F_o.gr G200
       replace F_o := F_o.mv1 G203 (by (try dsimp only [V.In]); first | omega | grind)
       replace F_o := F_o.mv1 G208 (by (try dsimp only [V.In]); first | omega | grind)
       replace HG := HG.grow G21
       replace HG := HG.n1 G26
       replace HG := HG.grow G200
       replace HG := HG.n1 G203
       replace HG := HG.n1 G208
       exact ⟨_, (by omega), HG, (by omega), F_o, ((x10.te, 0)), (i + 1), rfl, (by omega), (hr4), Fv, rfl, rfl, rfl, rfl⟩
  ·
   try replace h6 := V.dec h6
   try simp only [V.mk] at h6
   refine V.skip ?_
   refine V.tN ?_
   refine V.seq ?_
   refine V.sr ?_
   refine V.ru 1 ?_
   refine V.loadO T_ok Fk19 rfl rfl rfl rfl rfl ?_
   refine V.ru 2 ?_
   refine V.split (j := 3) (t := 28) rfl rfl (fun g8_3 => ?_) (fun g8_3 => ?_)
   ·
    try replace g8_3 := V.dec g8_3
    try simp only [V.mk] at g8_3
    refine V.ru 1 ?_
    refine V.yes rfl rfl rfl ?_
    refine V.loadO T_ok Fk19 rfl rfl rfl rfl rfl ?_
    refine V.ru 2 ?_
    refine V.split (j := 7) (t := 32) rfl rfl (fun g8_7 => ?_) (fun g8_7 => ?_)
    ·
     try replace g8_7 := V.dec g8_7
     try simp only [V.mk] at g8_7
     refine V.ru 5 ?_
     refine V.nt ?_
     refine V.condY rfl rfl ?_
     refine V.exit ?_
     refine V.tX ?_
     refine V.bE ?_
     refine V.tN ?_
     refine V.region ?_
     refine V.ru 1 ?_
     refine V.addN rfl rfl rfl rfl rfl V.lenA V.lenA ?_
     refine V.ru 1 ?_
     refine V.nt ?_
     have e3 : s3 = s1 := hear_skip hs3 (by grind)
     subst e3
     replace Fv := Fv.gr G21
     replace Fv := Fv.ma G26
     replace F_o := F_o.gr G21
     replace F_o := F_o.mv1 G26 (by (try dsimp only [V.In]); first | omega | grind)
     replace HG := HG.grow G21
     replace HG := HG.n1 G26
     exact ⟨_, (by omega), HG, (by omega), F_o, (s3), (i + 1), rfl, (by omega), (hr3), Fv, rfl, rfl, rfl, rfl⟩
    ·
     try replace g8_7 := V.dec g8_7
     try simp only [V.mk] at g8_7
     refine V.ru 1 ?_
     refine V.yes rfl rfl rfl ?_
     refine V.loadO T_ok Fk19 rfl rfl rfl rfl rfl ?_
     refine V.ru 3 ?_
     refine V.nt ?_
     refine V.condT rfl (fun h8 => ?_) (fun h8 => ?_)
     ·
      try replace h8 := V.dec h8
      try simp only [V.mk] at h8
      
      refine V.exit ?_
      refine V.tX ?_
      refine V.bE ?_
      refine V.tN ?_
      refine V.region ?_
      refine V.ru 1 ?_
      refine V.addN rfl rfl rfl rfl rfl V.lenA V.lenA ?_
      refine V.ru 1 ?_
      refine V.nt ?_
      have e3 : s3 = s1 := hear_skip hs3 (by grind)
      subst e3
      replace Fv := Fv.gr G21
      replace Fv := Fv.ma G26
      replace F_o := F_o.gr G21
      replace F_o := F_o.mv1 G26 (by (try dsimp only [V.In]); first | omega | grind)
      replace HG := HG.grow G21
      replace HG := HG.n1 G26
      exact ⟨_, (by omega), HG, (by omega), F_o, (s3), (i + 1), rfl, (by omega), (hr3), Fv, rfl, rfl, rfl, rfl⟩
     ·
      try replace h8 := V.dec h8
      try simp only [V.mk] at h8
      
      refine V.skip ?_
      refine V.tN ?_
      refine V.seq ?_
      refine V.seq ?_
      obtain ⟨hn4, e4⟩ := hear_set hs3 (by grind)
      rw [if_neg h6] at hn4 e4
      rw [e4] at hr3
      have hr4 := hr3
      refine V.drawQ mixed (by kernel_rfl) ?_
      refine V.qrun T_ok 1 rfl ?_
      refine V.qloadO T_ok Fk19 rfl rfl rfl rfl rfl ?_
      refine V.qrun T_ok 3 rfl ?_
      replace Fv := Fv.gr G21
      replace Fv := Fv.ma G26
      refine V.qloadO T_ok Fv rfl rfl rfl rfl rfl ?_
      refine V.qrun T_ok 2 rfl ?_
      refine V.qsplit (j := 7) (t := 45) rfl rfl (fun g9_7 => ?_) (fun g9_7 => ?_)
      ·
       try replace g9_7 := V.dec g9_7
       try simp only [V.mk] at g9_7
       refine V.qrun T_ok 3 rfl ?_
       refine V.qyes rfl rfl rfl ?_
       refine V.qloadO T_ok Fv rfl rfl rfl rfl rfl ?_
       refine V.qrun T_ok 4 rfl ?_
       refine V.qsplit (j := 15) (t := 53) rfl rfl (fun g9_15 => ?_) (fun g9_15 => ?_)
       ·
        try replace g9_15 := V.dec g9_15
        try simp only [V.mk] at g9_15
        refine V.qrun T_ok 17 rfl ?_
        refine V.qnil ?_
        rintro w212 G213
        have z214 := V.Fr.size G213
        refine V.tN ?_
        refine V.condN rfl (by (first | (simp; grind) | grind)) ?_
        refine V.skip ?_
        refine V.tN ?_
        refine V.sr ?_
        refine V.ru 2 ?_
        replace Fk19 := Fk19.gr G213
        refine V.loadO T_ok Fk19 rfl rfl rfl rfl rfl ?_
        refine V.ru 2 ?_
        replace Fv := Fv.gr G213
        refine V.storeO Fv rfl rfl rfl rfl sz3 rfl rfl rfl rfl ?_
        rintro w215 G216 z218 Fs217
        clear Fv
        have z219 := V.Fr.size G216
        have Fv := Fs217; clear Fs217
        simp only [V.spliceL, V.cellsL] at Fv
        refine V.nt ?_
        refine V.region ?_
        refine V.ru 4 ?_
        refine V.storeO Fv rfl rfl rfl rfl sz3 rfl rfl rfl rfl ?_
        rintro w220 G221 z223 Fs222
        clear Fv
        have z224 := V.Fr.size G221
        have Fv := Fs222; clear Fs222
        simp only [V.spliceL, V.cellsL] at Fv
        refine V.nil ?_
        refine V.bN ?_
        refine V.tN ?_
        refine V.region ?_
        refine V.ru 1 ?_
        refine V.addN rfl rfl rfl rfl rfl V.lenA V.lenA ?_
        refine V.ru 1 ?_
        refine V.nt ?_
        replace F_o := F_o.gr G21
        replace F_o := F_o.mv1 G26 (by (try dsimp only [V.In]); first | omega | grind)
        replace F_o := F_o.gr G213
        replace F_o := F_o.mv1 G216 (by (try dsimp only [V.In]); first | omega | grind)
        replace F_o := F_o.mv1 G221 (by (try dsimp only [V.In]); first | omega | grind)
        replace HG := HG.grow G21
        replace HG := HG.n1 G26
        replace HG := HG.grow G213
        replace HG := HG.n1 G216
        replace HG := HG.n1 G221
        exact ⟨_, (by omega), HG, (by omega), F_o, ((x10.te, x10.to)), (i + 1), rfl, (by omega), (hr4), Fv, rfl, rfl, rfl, rfl⟩
       ·
        try replace g9_15 := V.dec g9_15
        try simp only [V.mk] at g9_15
        refine V.qrun T_ok 1 rfl ?_
        refine V.qyes rfl rfl rfl ?_
        refine V.qloadO T_ok Fk19 rfl rfl rfl rfl rfl ?_
        refine V.qrun T_ok 3 rfl ?_
        refine V.qyes rfl rfl rfl ?_
        refine V.qloadO T_ok Fv rfl rfl rfl rfl rfl ?_
        refine V.qrun T_ok 3 rfl ?_
        refine V.qsplit (j := 24) (t := 62) rfl rfl (fun g9_24 => ?_) (fun g9_24 => ?_)
        ·
         try replace g9_24 := V.dec g9_24
         try simp only [V.mk] at g9_24
         refine V.qrun T_ok 8 rfl ?_
         refine V.qnil ?_
         rintro w225 G226
         have z227 := V.Fr.size G226
         refine V.tN ?_
         refine V.condN rfl (by (first | (simp; grind) | grind)) ?_
         refine V.skip ?_
         refine V.tN ?_
         refine V.sr ?_
         refine V.ru 2 ?_
         replace Fk19 := Fk19.gr G226
         refine V.loadO T_ok Fk19 rfl rfl rfl rfl rfl ?_
         refine V.ru 2 ?_
         replace Fv := Fv.gr G226
         refine V.storeO Fv rfl rfl rfl rfl sz3 rfl rfl rfl rfl ?_
         rintro w228 G229 z231 Fs230
         clear Fv
         have z232 := V.Fr.size G229
         have Fv := Fs230; clear Fs230
         simp only [V.spliceL, V.cellsL] at Fv
         refine V.nt ?_
         refine V.region ?_
         refine V.ru 4 ?_
         refine V.storeO Fv rfl rfl rfl rfl sz3 rfl rfl rfl rfl ?_
         rintro w233 G234 z236 Fs235
         clear Fv
         have z237 := V.Fr.size G234
         have Fv := Fs235; clear Fs235
         simp only [V.spliceL, V.cellsL] at Fv
         refine V.nil ?_
         refine V.bN ?_
         refine V.tN ?_
         refine V.region ?_
         refine V.ru 1 ?_
         refine V.addN rfl rfl rfl rfl rfl V.lenA V.lenA ?_
         refine V.ru 1 ?_
         refine V.nt ?_
         replace F_o := F_o.gr G21
         replace F_o := F_o.mv1 G26 (by (try dsimp only [V.In]); first | omega | grind)
         replace F_o := F_o.gr G226
         replace F_o := F_o.mv1 G229 (by (try dsimp only [V.In]); first | omega | grind)
         replace F_o := F_o.mv1 G234 (by (try dsimp only [V.In]); first | omega | grind)
         replace HG := HG.grow G21
         replace HG := HG.n1 G26
         replace HG := HG.grow G226
         replace HG := HG.n1 G229
         replace HG := HG.n1 G234
         exact ⟨_, (by omega), HG, (by omega), F_o, ((x10.te, x10.to)), (i + 1), rfl, (by omega), (hr4), Fv, rfl, rfl, rfl, rfl⟩
        ·
         try replace g9_24 := V.dec g9_24
         try simp only [V.mk] at g9_24
         refine V.qrun T_ok 1 rfl ?_
         refine V.qyes rfl rfl rfl ?_
         refine V.qloadO T_ok Fk19 rfl rfl rfl rfl rfl ?_
         refine V.qrun T_ok 2 rfl ?_
         refine V.qsplit (j := 28) (t := 66) rfl rfl (fun g9_28 => ?_) (fun g9_28 => ?_)
         ·
          try replace g9_28 := V.dec g9_28
          try simp only [V.mk] at g9_28
          refine V.qrun T_ok 4 rfl ?_
          refine V.qnil ?_
          rintro w238 G239
          have z240 := V.Fr.size G239
          refine V.tN ?_
          refine V.condN rfl (by (first | (simp; grind) | grind)) ?_
          refine V.skip ?_
          refine V.tN ?_
          refine V.sr ?_
          refine V.ru 2 ?_
          replace Fk19 := Fk19.gr G239
          refine V.loadO T_ok Fk19 rfl rfl rfl rfl rfl ?_
          refine V.ru 2 ?_
          replace Fv := Fv.gr G239
          refine V.storeO Fv rfl rfl rfl rfl sz3 rfl rfl rfl rfl ?_
          rintro w241 G242 z244 Fs243
          clear Fv
          have z245 := V.Fr.size G242
          have Fv := Fs243; clear Fs243
          simp only [V.spliceL, V.cellsL] at Fv
          refine V.nt ?_
          refine V.region ?_
          refine V.ru 4 ?_
          refine V.storeO Fv rfl rfl rfl rfl sz3 rfl rfl rfl rfl ?_
          rintro w246 G247 z249 Fs248
          clear Fv
          have z250 := V.Fr.size G247
          have Fv := Fs248; clear Fs248
          simp only [V.spliceL, V.cellsL] at Fv
          refine V.nil ?_
          refine V.bN ?_
          refine V.tN ?_
          refine V.region ?_
          refine V.ru 1 ?_
          refine V.addN rfl rfl rfl rfl rfl V.lenA V.lenA ?_
          refine V.ru 1 ?_
          refine V.nt ?_
          replace F_o := F_o.gr G21
          replace F_o := F_o.mv1 G26 (by (try dsimp only [V.In]); first | omega | grind)
          replace F_o := F_o.gr G239
          replace F_o := F_o.mv1 G242 (by (try dsimp only [V.In]); first | omega | grind)
          replace F_o := F_o.mv1 G247 (by (try dsimp only [V.In]); first | omega | grind)
          replace HG := HG.grow G21
          replace HG := HG.n1 G26
          replace HG := HG.grow G239
          replace HG := HG.n1 G242
          replace HG := HG.n1 G247
          exact ⟨_, (by omega), HG, (by omega), F_o, ((x10.te, x10.to)), (i + 1), rfl, (by omega), (hr4), Fv, rfl, rfl, rfl, rfl⟩
         ·
          try replace g9_28 := V.dec g9_28
          try simp only [V.mk] at g9_28
          refine V.qrun T_ok 4 rfl ?_
          refine V.qnil ?_
          rintro w251 G252
          have z253 := V.Fr.size G252
          refine V.tN ?_
          refine V.condN rfl (by (first | (simp; grind) | grind)) ?_
          refine V.skip ?_
          refine V.tN ?_
          refine V.sr ?_
          refine V.ru 2 ?_
          replace Fk19 := Fk19.gr G252
          refine V.loadO T_ok Fk19 rfl rfl rfl rfl rfl ?_
          refine V.ru 2 ?_
          replace Fv := Fv.gr G252
          refine V.storeO Fv rfl rfl rfl rfl sz3 rfl rfl rfl rfl ?_
          rintro w254 G255 z257 Fs256
          clear Fv
          have z258 := V.Fr.size G255
          have Fv := Fs256; clear Fs256
          simp only [V.spliceL, V.cellsL] at Fv
          refine V.nt ?_
          refine V.region ?_
          refine V.ru 4 ?_
          refine V.storeO Fv rfl rfl rfl rfl sz3 rfl rfl rfl rfl ?_
          rintro w259 G260 z262 Fs261
          clear Fv
          have z263 := V.Fr.size G260
          have Fv := Fs261; clear Fs261
          simp only [V.spliceL, V.cellsL] at Fv
          refine V.nil ?_
          refine V.bN ?_
          refine V.tN ?_
          refine V.region ?_
          refine V.ru 1 ?_
          refine V.addN rfl rfl rfl rfl rfl V.lenA V.lenA ?_
          refine V.ru 1 ?_
          refine V.nt ?_
          replace F_o := F_o.gr G21
          replace F_o := F_o.mv1 G26 (by (try dsimp only [V.In]); first | omega | grind)
          replace F_o := F_o.gr G252
          replace F_o := F_o.mv1 G255 (by (try dsimp only [V.In]); first | omega | grind)
          replace F_o := F_o.mv1 G260 (by (try dsimp only [V.In]); first | omega | grind)
          replace HG := HG.grow G21
          replace HG := HG.n1 G26
          replace HG := HG.grow G252
          replace HG := HG.n1 G255
          replace HG := HG.n1 G260
          exact ⟨_, (by omega), HG, (by omega), F_o, ((x10.te, x10.to)), (i + 1), rfl, (by omega), (hr4), Fv, rfl, rfl, rfl, rfl⟩
      ·
       try replace g9_7 := V.dec g9_7
       try simp only [V.mk] at g9_7
       refine V.qrun T_ok 9 rfl ?_
       refine V.qyes rfl rfl rfl ?_
       refine V.qloadO T_ok Fk19 rfl rfl rfl rfl rfl ?_
       refine V.qrun T_ok 3 rfl ?_
       refine V.qyes rfl rfl rfl ?_
       refine V.qloadO T_ok Fv rfl rfl rfl rfl rfl ?_
       refine V.qrun T_ok 3 rfl ?_
       refine V.qsplit (j := 24) (t := 62) rfl rfl (fun g9_24 => ?_) (fun g9_24 => ?_)
       ·
        try replace g9_24 := V.dec g9_24
        try simp only [V.mk] at g9_24
        refine V.qrun T_ok 8 rfl ?_
        refine V.qnil ?_
        rintro w264 G265
        have z266 := V.Fr.size G265
        refine V.tN ?_
        refine V.condN rfl (by (first | (simp; grind) | grind)) ?_
        refine V.skip ?_
        refine V.tN ?_
        refine V.sr ?_
        refine V.ru 2 ?_
        replace Fk19 := Fk19.gr G265
        refine V.loadO T_ok Fk19 rfl rfl rfl rfl rfl ?_
        refine V.ru 2 ?_
        replace Fv := Fv.gr G265
        refine V.storeO Fv rfl rfl rfl rfl sz3 rfl rfl rfl rfl ?_
        rintro w267 G268 z270 Fs269
        clear Fv
        have z271 := V.Fr.size G268
        have Fv := Fs269; clear Fs269
        simp only [V.spliceL, V.cellsL] at Fv
        refine V.nt ?_
        refine V.region ?_
        refine V.ru 4 ?_
        refine V.storeO Fv rfl rfl rfl rfl sz3 rfl rfl rfl rfl ?_
        rintro w272 G273 z275 Fs274
        clear Fv
        have z276 := V.Fr.size G273
        have Fv := Fs274; clear Fs274
        simp only [V.spliceL, V.cellsL] at Fv
        refine V.nil ?_
        refine V.bN ?_
        refine V.tN ?_
        refine V.region ?_
        refine V.ru 1 ?_
        refine V.addN rfl rfl rfl rfl rfl V.lenA V.lenA ?_
        refine V.ru 1 ?_
        refine V.nt ?_
        replace F_o := F_o.gr G21
        replace F_o := F_o.mv1 G26 (by (try dsimp only [V.In]); first | omega | grind)
        replace F_o := F_o.gr G265
        replace F_o := F_o.mv1 G268 (by (try dsimp only [V.In]); first | omega | grind)
        replace F_o := F_o.mv1 G273 (by (try dsimp only [V.In]); first | omega | grind)
        replace HG := HG.grow G21
        replace HG := HG.n1 G26
        replace HG := HG.grow G265
        replace HG := HG.n1 G268
        replace HG := HG.n1 G273
        exact ⟨_, (by omega), HG, (by omega), F_o, ((x10.te, x10.to)), (i + 1), rfl, (by omega), (hr4), Fv, rfl, rfl, rfl, rfl⟩
       ·
        try replace g9_24 := V.dec g9_24
        try simp only [V.mk] at g9_24
        refine V.qrun T_ok 1 rfl ?_
        refine V.qyes rfl rfl rfl ?_
        refine V.qloadO T_ok Fk19 rfl rfl rfl rfl rfl ?_
        refine V.qrun T_ok 2 rfl ?_
        refine V.qsplit (j := 28) (t := 66) rfl rfl (fun g9_28 => ?_) (fun g9_28 => ?_)
        ·
         try replace g9_28 := V.dec g9_28
         try simp only [V.mk] at g9_28
         refine V.qrun T_ok 4 rfl ?_
         refine V.qnil ?_
         rintro w277 G278
         have z279 := V.Fr.size G278
         refine V.tN ?_
         refine V.condN rfl (by (first | (simp; grind) | grind)) ?_
         refine V.skip ?_
         refine V.tN ?_
         refine V.sr ?_
         refine V.ru 2 ?_
         replace Fk19 := Fk19.gr G278
         refine V.loadO T_ok Fk19 rfl rfl rfl rfl rfl ?_
         refine V.ru 2 ?_
         replace Fv := Fv.gr G278
         refine V.storeO Fv rfl rfl rfl rfl sz3 rfl rfl rfl rfl ?_
         rintro w280 G281 z283 Fs282
         clear Fv
         have z284 := V.Fr.size G281
         have Fv := Fs282; clear Fs282
         simp only [V.spliceL, V.cellsL] at Fv
         refine V.nt ?_
         refine V.region ?_
         refine V.ru 4 ?_
         refine V.storeO Fv rfl rfl rfl rfl sz3 rfl rfl rfl rfl ?_
         rintro w285 G286 z288 Fs287
         clear Fv
         have z289 := V.Fr.size G286
         have Fv := Fs287; clear Fs287
         simp only [V.spliceL, V.cellsL] at Fv
         refine V.nil ?_
         refine V.bN ?_
         refine V.tN ?_
         refine V.region ?_
         refine V.ru 1 ?_
         refine V.addN rfl rfl rfl rfl rfl V.lenA V.lenA ?_
         refine V.ru 1 ?_
         refine V.nt ?_
         replace F_o := F_o.gr G21
         replace F_o := F_o.mv1 G26 (by (try dsimp only [V.In]); first | omega | grind)
         replace F_o := F_o.gr G278
         replace F_o := F_o.mv1 G281 (by (try dsimp only [V.In]); first | omega | grind)
         replace F_o := F_o.mv1 G286 (by (try dsimp only [V.In]); first | omega | grind)
         replace HG := HG.grow G21
         replace HG := HG.n1 G26
         replace HG := HG.grow G278
         replace HG := HG.n1 G281
         replace HG := HG.n1 G286
         exact ⟨_, (by omega), HG, (by omega), F_o, ((x10.te, x10.to)), (i + 1), rfl, (by omega), (hr4), Fv, rfl, rfl, rfl, rfl⟩
        ·
         try replace g9_28 := V.dec g9_28
         try simp only [V.mk] at g9_28
         refine V.qrun T_ok 4 rfl ?_
         refine V.qnil ?_
         rintro w290 G291
         have z292 := V.Fr.size G291
         refine V.tN ?_
         refine V.condN rfl (by (first | (simp; grind) | grind)) ?_
         refine V.skip ?_
         refine V.tN ?_
         refine V.sr ?_
         refine V.ru 2 ?_
         replace Fk19 := Fk19.gr G291
         refine V.loadO T_ok Fk19 rfl rfl rfl rfl rfl ?_
         refine V.ru 2 ?_
         replace Fv := Fv.gr G291
         refine V.storeO Fv rfl rfl rfl rfl sz3 rfl rfl rfl rfl ?_
         rintro w293 G294 z296 Fs295
         clear Fv
         have z297 := V.Fr.size G294
         have Fv := Fs295; clear Fs295
         simp only [V.spliceL, V.cellsL] at Fv
         refine V.nt ?_
         refine V.region ?_
         refine V.ru 4 ?_
         refine V.storeO Fv rfl rfl rfl rfl sz3 rfl rfl rfl rfl ?_
         rintro w298 G299 z301 Fs300
         clear Fv
         have z302 := V.Fr.size G299
         have Fv := Fs300; clear Fs300
         simp only [V.spliceL, V.cellsL] at Fv
         refine V.nil ?_
         refine V.bN ?_
         refine V.tN ?_
         refine V.region ?_
         refine V.ru 1 ?_
         refine V.addN rfl rfl rfl rfl rfl V.lenA V.lenA ?_
         refine V.ru 1 ?_
         refine V.nt ?_
         replace F_o := F_o.gr G21
         replace F_o := F_o.mv1 G26 (by (try dsimp only [V.In]); first | omega | grind)
         replace F_o := F_o.gr G291
         replace F_o := F_o.mv1 G294 (by (try dsimp only [V.In]); first | omega | grind)
         replace F_o := F_o.mv1 G299 (by (try dsimp only [V.In]); first | omega | grind)
         replace HG := HG.grow G21
         replace HG := HG.n1 G26
         replace HG := HG.grow G291
         replace HG := HG.n1 G294
         replace HG := HG.n1 G299
         exact ⟨_, (by omega), HG, (by omega), F_o, ((x10.te, x10.to)), (i + 1), rfl, (by omega), (hr4), Fv, rfl, rfl, rfl, rfl⟩
   ·
    try replace g8_3 := V.dec g8_3
    try simp only [V.mk] at g8_3
    refine V.ru 9 ?_
    refine V.nt ?_
    refine V.condN rfl rfl ?_
    refine V.skip ?_
    refine V.tN ?_
    refine V.seq ?_
    refine V.seq ?_
    obtain ⟨hn4, e4⟩ := hear_set hs3 (by grind)
    rw [if_neg h6] at hn4 e4
    rw [e4] at hr3
    have hr4 := hr3
    refine V.drawQ mixed (by kernel_rfl) ?_
    refine V.qrun T_ok 1 rfl ?_
    refine V.qloadO T_ok Fk19 rfl rfl rfl rfl rfl ?_
    refine V.qrun T_ok 3 rfl ?_
    replace Fv := Fv.gr G21
    replace Fv := Fv.ma G26
    refine V.qloadO T_ok Fv rfl rfl rfl rfl rfl ?_
    refine V.qrun T_ok 2 rfl ?_
    refine V.qsplit (j := 7) (t := 45) rfl rfl (fun g9_7 => ?_) (fun g9_7 => ?_)
    ·
     try replace g9_7 := V.dec g9_7
     try simp only [V.mk] at g9_7
     refine V.qrun T_ok 3 rfl ?_
     refine V.qyes rfl rfl rfl ?_
     refine V.qloadO T_ok Fv rfl rfl rfl rfl rfl ?_
     refine V.qrun T_ok 4 rfl ?_
     refine V.qsplit (j := 15) (t := 53) rfl rfl (fun g9_15 => ?_) (fun g9_15 => ?_)
     ·
      try replace g9_15 := V.dec g9_15
      try simp only [V.mk] at g9_15
      refine V.qrun T_ok 17 rfl ?_
      refine V.qnil ?_
      rintro w303 G304
      have z305 := V.Fr.size G304
      refine V.tN ?_
      refine V.condN rfl (by (first | (simp; grind) | grind)) ?_
      refine V.skip ?_
      refine V.tN ?_
      refine V.sr ?_
      refine V.ru 2 ?_
      replace Fk19 := Fk19.gr G304
      refine V.loadO T_ok Fk19 rfl rfl rfl rfl rfl ?_
      refine V.ru 2 ?_
      replace Fv := Fv.gr G304
      refine V.storeO Fv rfl rfl rfl rfl sz3 rfl rfl rfl rfl ?_
      rintro w306 G307 z309 Fs308
      clear Fv
      have z310 := V.Fr.size G307
      have Fv := Fs308; clear Fs308
      simp only [V.spliceL, V.cellsL] at Fv
      refine V.nt ?_
      refine V.region ?_
      refine V.ru 4 ?_
      refine V.storeO Fv rfl rfl rfl rfl sz3 rfl rfl rfl rfl ?_
      rintro w311 G312 z314 Fs313
      clear Fv
      have z315 := V.Fr.size G312
      have Fv := Fs313; clear Fs313
      simp only [V.spliceL, V.cellsL] at Fv
      refine V.nil ?_
      refine V.bN ?_
      refine V.tN ?_
      refine V.region ?_
      refine V.ru 1 ?_
      refine V.addN rfl rfl rfl rfl rfl V.lenA V.lenA ?_
      refine V.ru 1 ?_
      refine V.nt ?_
      replace F_o := F_o.gr G21
      replace F_o := F_o.mv1 G26 (by (try dsimp only [V.In]); first | omega | grind)
      replace F_o := F_o.gr G304
      replace F_o := F_o.mv1 G307 (by (try dsimp only [V.In]); first | omega | grind)
      replace F_o := F_o.mv1 G312 (by (try dsimp only [V.In]); first | omega | grind)
      replace HG := HG.grow G21
      replace HG := HG.n1 G26
      replace HG := HG.grow G304
      replace HG := HG.n1 G307
      replace HG := HG.n1 G312
      exact ⟨_, (by omega), HG, (by omega), F_o, ((x10.te, x10.to)), (i + 1), rfl, (by omega), (hr4), Fv, rfl, rfl, rfl, rfl⟩
     ·
      try replace g9_15 := V.dec g9_15
      try simp only [V.mk] at g9_15
      refine V.qrun T_ok 1 rfl ?_
      refine V.qyes rfl rfl rfl ?_
      refine V.qloadO T_ok Fk19 rfl rfl rfl rfl rfl ?_
      refine V.qrun T_ok 3 rfl ?_
      refine V.qyes rfl rfl rfl ?_
      refine V.qloadO T_ok Fv rfl rfl rfl rfl rfl ?_
      refine V.qrun T_ok 3 rfl ?_
      refine V.qsplit (j := 24) (t := 62) rfl rfl (fun g9_24 => ?_) (fun g9_24 => ?_)
      ·
       try replace g9_24 := V.dec g9_24
       try simp only [V.mk] at g9_24
       refine V.qrun T_ok 8 rfl ?_
       refine V.qnil ?_
       rintro w316 G317
       have z318 := V.Fr.size G317
       refine V.tN ?_
       refine V.condN rfl (by (first | (simp; grind) | grind)) ?_
       refine V.skip ?_
       refine V.tN ?_
       refine V.sr ?_
       refine V.ru 2 ?_
       replace Fk19 := Fk19.gr G317
       refine V.loadO T_ok Fk19 rfl rfl rfl rfl rfl ?_
       refine V.ru 2 ?_
       replace Fv := Fv.gr G317
       refine V.storeO Fv rfl rfl rfl rfl sz3 rfl rfl rfl rfl ?_
       rintro w319 G320 z322 Fs321
       clear Fv
       have z323 := V.Fr.size G320
       have Fv := Fs321; clear Fs321
       simp only [V.spliceL, V.cellsL] at Fv
       refine V.nt ?_
       refine V.region ?_
       refine V.ru 4 ?_
       refine V.storeO Fv rfl rfl rfl rfl sz3 rfl rfl rfl rfl ?_
       rintro w324 G325 z327 Fs326
       clear Fv
       have z328 := V.Fr.size G325
       have Fv := Fs326; clear Fs326
       simp only [V.spliceL, V.cellsL] at Fv
       refine V.nil ?_
       refine V.bN ?_
       refine V.tN ?_
       refine V.region ?_
       refine V.ru 1 ?_
       refine V.addN rfl rfl rfl rfl rfl V.lenA V.lenA ?_
       refine V.ru 1 ?_
       refine V.nt ?_
       replace F_o := F_o.gr G21
       replace F_o := F_o.mv1 G26 (by (try dsimp only [V.In]); first | omega | grind)
       replace F_o := F_o.gr G317
       replace F_o := F_o.mv1 G320 (by (try dsimp only [V.In]); first | omega | grind)
       replace F_o := F_o.mv1 G325 (by (try dsimp only [V.In]); first | omega | grind)
       replace HG := HG.grow G21
       replace HG := HG.n1 G26
       replace HG := HG.grow G317
       replace HG := HG.n1 G320
       replace HG := HG.n1 G325
       exact ⟨_, (by omega), HG, (by omega), F_o, ((x10.te, x10.to)), (i + 1), rfl, (by omega), (hr4), Fv, rfl, rfl, rfl, rfl⟩
      ·
       try replace g9_24 := V.dec g9_24
       try simp only [V.mk] at g9_24
       refine V.qrun T_ok 1 rfl ?_
       refine V.qyes rfl rfl rfl ?_
       refine V.qloadO T_ok Fk19 rfl rfl rfl rfl rfl ?_
       refine V.qrun T_ok 2 rfl ?_
       refine V.qsplit (j := 28) (t := 66) rfl rfl (fun g9_28 => ?_) (fun g9_28 => ?_)
       ·
        try replace g9_28 := V.dec g9_28
        try simp only [V.mk] at g9_28
        refine V.qrun T_ok 4 rfl ?_
        refine V.qnil ?_
        rintro w329 G330
        have z331 := V.Fr.size G330
        refine V.tN ?_
        refine V.condN rfl (by (first | (simp; grind) | grind)) ?_
        refine V.skip ?_
        refine V.tN ?_
        refine V.sr ?_
        refine V.ru 2 ?_
        replace Fk19 := Fk19.gr G330
        refine V.loadO T_ok Fk19 rfl rfl rfl rfl rfl ?_
        refine V.ru 2 ?_
        replace Fv := Fv.gr G330
        refine V.storeO Fv rfl rfl rfl rfl sz3 rfl rfl rfl rfl ?_
        rintro w332 G333 z335 Fs334
        clear Fv
        have z336 := V.Fr.size G333
        have Fv := Fs334; clear Fs334
        simp only [V.spliceL, V.cellsL] at Fv
        refine V.nt ?_
        refine V.region ?_
        refine V.ru 4 ?_
        refine V.storeO Fv rfl rfl rfl rfl sz3 rfl rfl rfl rfl ?_
        rintro w337 G338 z340 Fs339
        clear Fv
        have z341 := V.Fr.size G338
        have Fv := Fs339; clear Fs339
        simp only [V.spliceL, V.cellsL] at Fv
        refine V.nil ?_
        refine V.bN ?_
        refine V.tN ?_
        refine V.region ?_
        refine V.ru 1 ?_
        refine V.addN rfl rfl rfl rfl rfl V.lenA V.lenA ?_
        refine V.ru 1 ?_
        refine V.nt ?_
        replace F_o := F_o.gr G21
        replace F_o := F_o.mv1 G26 (by (try dsimp only [V.In]); first | omega | grind)
        replace F_o := F_o.gr G330
        replace F_o := F_o.mv1 G333 (by (try dsimp only [V.In]); first | omega | grind)
        replace F_o := F_o.mv1 G338 (by (try dsimp only [V.In]); first | omega | grind)
        replace HG := HG.grow G21
        replace HG := HG.n1 G26
        replace HG := HG.grow G330
        replace HG := HG.n1 G333
        replace HG := HG.n1 G338
        exact ⟨_, (by omega), HG, (by omega), F_o, ((x10.te, x10.to)), (i + 1), rfl, (by omega), (hr4), Fv, rfl, rfl, rfl, rfl⟩
       ·
        try replace g9_28 := V.dec g9_28
        try simp only [V.mk] at g9_28
        refine V.qrun T_ok 4 rfl ?_
        refine V.qnil ?_
        rintro w342 G343
        have z344 := V.Fr.size G343
        refine V.tN ?_
        refine V.condN rfl (by (first | (simp; grind) | grind)) ?_
        refine V.skip ?_
        refine V.tN ?_
        refine V.sr ?_
        refine V.ru 2 ?_
        replace Fk19 := Fk19.gr G343
        refine V.loadO T_ok Fk19 rfl rfl rfl rfl rfl ?_
        refine V.ru 2 ?_
        replace Fv := Fv.gr G343
        refine V.storeO Fv rfl rfl rfl rfl sz3 rfl rfl rfl rfl ?_
        rintro w345 G346 z348 Fs347
        clear Fv
        have z349 := V.Fr.size G346
        have Fv := Fs347; clear Fs347
        simp only [V.spliceL, V.cellsL] at Fv
        refine V.nt ?_
        refine V.region ?_
        refine V.ru 4 ?_
        refine V.storeO Fv rfl rfl rfl rfl sz3 rfl rfl rfl rfl ?_
        rintro w350 G351 z353 Fs352
        clear Fv
        have z354 := V.Fr.size G351
        have Fv := Fs352; clear Fs352
        simp only [V.spliceL, V.cellsL] at Fv
        refine V.nil ?_
        refine V.bN ?_
        refine V.tN ?_
        refine V.region ?_
        refine V.ru 1 ?_
        refine V.addN rfl rfl rfl rfl rfl V.lenA V.lenA ?_
        refine V.ru 1 ?_
        refine V.nt ?_
        replace F_o := F_o.gr G21
        replace F_o := F_o.mv1 G26 (by (try dsimp only [V.In]); first | omega | grind)
        replace F_o := F_o.gr G343
        replace F_o := F_o.mv1 G346 (by (try dsimp only [V.In]); first | omega | grind)
        replace F_o := F_o.mv1 G351 (by (try dsimp only [V.In]); first | omega | grind)
        replace HG := HG.grow G21
        replace HG := HG.n1 G26
        replace HG := HG.grow G343
        replace HG := HG.n1 G346
        replace HG := HG.n1 G351
        exact ⟨_, (by omega), HG, (by omega), F_o, ((x10.te, x10.to)), (i + 1), rfl, (by omega), (hr4), Fv, rfl, rfl, rfl, rfl⟩
    ·
     try replace g9_7 := V.dec g9_7
     try simp only [V.mk] at g9_7
     refine V.qrun T_ok 9 rfl ?_
     refine V.qyes rfl rfl rfl ?_
     refine V.qloadO T_ok Fk19 rfl rfl rfl rfl rfl ?_
     refine V.qrun T_ok 3 rfl ?_
     refine V.qyes rfl rfl rfl ?_
     refine V.qloadO T_ok Fv rfl rfl rfl rfl rfl ?_
     refine V.qrun T_ok 3 rfl ?_
     refine V.qsplit (j := 24) (t := 62) rfl rfl (fun g9_24 => ?_) (fun g9_24 => ?_)
     ·
      try replace g9_24 := V.dec g9_24
      try simp only [V.mk] at g9_24
      refine V.qrun T_ok 8 rfl ?_
      refine V.qnil ?_
      rintro w355 G356
      have z357 := V.Fr.size G356
      refine V.tN ?_
      refine V.condN rfl (by (first | (simp; grind) | grind)) ?_
      refine V.skip ?_
      refine V.tN ?_
      refine V.sr ?_
      refine V.ru 2 ?_
      replace Fk19 := Fk19.gr G356
      refine V.loadO T_ok Fk19 rfl rfl rfl rfl rfl ?_
      refine V.ru 2 ?_
      replace Fv := Fv.gr G356
      refine V.storeO Fv rfl rfl rfl rfl sz3 rfl rfl rfl rfl ?_
      rintro w358 G359 z361 Fs360
      clear Fv
      have z362 := V.Fr.size G359
      have Fv := Fs360; clear Fs360
      simp only [V.spliceL, V.cellsL] at Fv
      refine V.nt ?_
      refine V.region ?_
      refine V.ru 4 ?_
      refine V.storeO Fv rfl rfl rfl rfl sz3 rfl rfl rfl rfl ?_
      rintro w363 G364 z366 Fs365
      clear Fv
      have z367 := V.Fr.size G364
      have Fv := Fs365; clear Fs365
      simp only [V.spliceL, V.cellsL] at Fv
      refine V.nil ?_
      refine V.bN ?_
      refine V.tN ?_
      refine V.region ?_
      refine V.ru 1 ?_
      refine V.addN rfl rfl rfl rfl rfl V.lenA V.lenA ?_
      refine V.ru 1 ?_
      refine V.nt ?_
      replace F_o := F_o.gr G21
      replace F_o := F_o.mv1 G26 (by (try dsimp only [V.In]); first | omega | grind)
      replace F_o := F_o.gr G356
      replace F_o := F_o.mv1 G359 (by (try dsimp only [V.In]); first | omega | grind)
      replace F_o := F_o.mv1 G364 (by (try dsimp only [V.In]); first | omega | grind)
      replace HG := HG.grow G21
      replace HG := HG.n1 G26
      replace HG := HG.grow G356
      replace HG := HG.n1 G359
      replace HG := HG.n1 G364
      exact ⟨_, (by omega), HG, (by omega), F_o, ((x10.te, x10.to)), (i + 1), rfl, (by omega), (hr4), Fv, rfl, rfl, rfl, rfl⟩
     ·
      try replace g9_24 := V.dec g9_24
      try simp only [V.mk] at g9_24
      refine V.qrun T_ok 1 rfl ?_
      refine V.qyes rfl rfl rfl ?_
      refine V.qloadO T_ok Fk19 rfl rfl rfl rfl rfl ?_
      refine V.qrun T_ok 2 rfl ?_
      refine V.qsplit (j := 28) (t := 66) rfl rfl (fun g9_28 => ?_) (fun g9_28 => ?_)
      ·
       try replace g9_28 := V.dec g9_28
       try simp only [V.mk] at g9_28
       refine V.qrun T_ok 4 rfl ?_
       refine V.qnil ?_
       rintro w368 G369
       have z370 := V.Fr.size G369
       refine V.tN ?_
       refine V.condN rfl (by (first | (simp; grind) | grind)) ?_
       refine V.skip ?_
       refine V.tN ?_
       refine V.sr ?_
       refine V.ru 2 ?_
       replace Fk19 := Fk19.gr G369
       refine V.loadO T_ok Fk19 rfl rfl rfl rfl rfl ?_
       refine V.ru 2 ?_
       replace Fv := Fv.gr G369
       refine V.storeO Fv rfl rfl rfl rfl sz3 rfl rfl rfl rfl ?_
       rintro w371 G372 z374 Fs373
       clear Fv
       have z375 := V.Fr.size G372
       have Fv := Fs373; clear Fs373
       simp only [V.spliceL, V.cellsL] at Fv
       refine V.nt ?_
       refine V.region ?_
       refine V.ru 4 ?_
       refine V.storeO Fv rfl rfl rfl rfl sz3 rfl rfl rfl rfl ?_
       rintro w376 G377 z379 Fs378
       clear Fv
       have z380 := V.Fr.size G377
       have Fv := Fs378; clear Fs378
       simp only [V.spliceL, V.cellsL] at Fv
       refine V.nil ?_
       refine V.bN ?_
       refine V.tN ?_
       refine V.region ?_
       refine V.ru 1 ?_
       refine V.addN rfl rfl rfl rfl rfl V.lenA V.lenA ?_
       refine V.ru 1 ?_
       refine V.nt ?_
       replace F_o := F_o.gr G21
       replace F_o := F_o.mv1 G26 (by (try dsimp only [V.In]); first | omega | grind)
       replace F_o := F_o.gr G369
       replace F_o := F_o.mv1 G372 (by (try dsimp only [V.In]); first | omega | grind)
       replace F_o := F_o.mv1 G377 (by (try dsimp only [V.In]); first | omega | grind)
       replace HG := HG.grow G21
       replace HG := HG.n1 G26
       replace HG := HG.grow G369
       replace HG := HG.n1 G372
       replace HG := HG.n1 G377
       exact ⟨_, (by omega), HG, (by omega), F_o, ((x10.te, x10.to)), (i + 1), rfl, (by omega), (hr4), Fv, rfl, rfl, rfl, rfl⟩
      ·
       try replace g9_28 := V.dec g9_28
       try simp only [V.mk] at g9_28
       refine V.qrun T_ok 4 rfl ?_
       refine V.qnil ?_
       rintro w381 G382
       have z383 := V.Fr.size G382
       refine V.tN ?_
       refine V.condN rfl (by (first | (simp; grind) | grind)) ?_
       refine V.skip ?_
       refine V.tN ?_
       refine V.sr ?_
       refine V.ru 2 ?_
       replace Fk19 := Fk19.gr G382
       refine V.loadO T_ok Fk19 rfl rfl rfl rfl rfl ?_
       refine V.ru 2 ?_
       replace Fv := Fv.gr G382
       refine V.storeO Fv rfl rfl rfl rfl sz3 rfl rfl rfl rfl ?_
       rintro w384 G385 z387 Fs386
       clear Fv
       have z388 := V.Fr.size G385
       have Fv := Fs386; clear Fs386
       simp only [V.spliceL, V.cellsL] at Fv
       refine V.nt ?_
       refine V.region ?_
       refine V.ru 4 ?_
       refine V.storeO Fv rfl rfl rfl rfl sz3 rfl rfl rfl rfl ?_
       rintro w389 G390 z392 Fs391
       clear Fv
       have z393 := V.Fr.size G390
       have Fv := Fs391; clear Fs391
       simp only [V.spliceL, V.cellsL] at Fv
       refine V.nil ?_
       refine V.bN ?_
       refine V.tN ?_
       refine V.region ?_
       refine V.ru 1 ?_
       refine V.addN rfl rfl rfl rfl rfl V.lenA V.lenA ?_
       refine V.ru 1 ?_
       refine V.nt ?_
       replace F_o := F_o.gr G21
       replace F_o := F_o.mv1 G26 (by (try dsimp only [V.In]); first | omega | grind)
       replace F_o := F_o.gr G382
       replace F_o := F_o.mv1 G385 (by (try dsimp only [V.In]); first | omega | grind)
       replace F_o := F_o.mv1 G390 (by (try dsimp only [V.In]); first | omega | grind)
       replace HG := HG.grow G21
       replace HG := HG.n1 G26
       replace HG := HG.grow G382
       replace HG := HG.n1 G385
       replace HG := HG.n1 G390
       exact ⟨_, (by omega), HG, (by omega), F_o, ((x10.te, x10.to)), (i + 1), rfl, (by omega), (hr4), Fv, rfl, rfl, rfl, rfl⟩
 ·
  try replace h2 := V.dec h2
  try simp only [V.mk] at h2
  refine V.exit ?_
  refine V.tX ?_
  refine V.tX ?_
  refine V.bE ?_
  refine V.tN ?_
  refine V.sr ?_
  refine V.ru 1 ?_
  refine V.nt ?_
  refine V.ret ?_
  refine V.done rfl ?_
  rw [show l.drop i = [] from List.drop_eq_nil_of_le (by omega)] at hh
  obtain rfl : s1 = s2 := Option.some.inj hh
  exact ⟨(by first | rfl | simp only [List.length_set]), Fv, HG⟩

end Go.Proofs.Ytphohfpbdkgnaaa
