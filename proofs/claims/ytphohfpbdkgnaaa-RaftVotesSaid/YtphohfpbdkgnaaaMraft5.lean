/- Proved here: walks: what functions of this seat's program return and what they leave of memory, each as a contract. Conditions: stated at each theorem. -/
import Derived.Test.YtphohfpbdkgnaaaMraft4
namespace Go.Proofs.Ytphohfpbdkgnaaa
set_option linter.unusedVariables false
set_option linter.unusedSimpArgs false
open Go
open V (Bytes Meets Env Sl Own Gr Fr Cells S)
set_option maxHeartbeats 4000000 in
set_option maxRecDepth 10000 in
theorem right_spec {w : World} {k : Nat} {M D : Nat → Prop} {d : NodeV} (FX : Nd w k M D d) {mg : RMsg} {q0 : Int} {q1 : Int} {q2 : Int} {q3 : Int} {q4 : Int} {q5 : Int} {q6 : Int} {q7 : Int} {q8 : ByteArray} {q9 : Int} {q10 : Int} {q11 : Int} {q12 : ByteArray} {q13 : ByteArray} {q14 : ByteArray} {q15 : Bool} {q16 : Int} {q17 : Int} {q18 : Int} {q19 : Int} {q20 : Bool} {q21 : Bool} {q22a : Option Addr} {q22n q22c : Nat} {q23 : Int} {q24 : Int} {q25 : Int} {q26 : Int} {q27a : Option Addr} {q27n q27c : Nat} {q28 : Bool} {q29 : Int} {q30 : Int} {q31 : ByteArray} {q32 : Int} {q33 : Int} {q34 : Int} {q35 : Int} {q36 : Int} {q37 : Int} {q38 : Int} {q39 : Int} {q40 : Int} {q41a : Option Addr} {q41n q41c : Nat} {D_me : Nat → Prop} {c_me : Nat} {a_me : Option Addr} (F_me : Sl V.Cod.ent w D_me a_me c_me mg.es) (hD_me : ∀ k, D_me k → k < w.heap.size) {D_md : Nat → Prop} {c_md : Nat} {a_md : Option Addr} (F_md : Sl V.Cod.byte w D_md a_md c_md mg.da) (hD_md : ∀ k, D_md k → k < w.heap.size)   :
    Meets Try.prog 38 [.pointer (some ⟨k, 0, none⟩), .agg #[.int .i64 mg.kd, .int .i64 mg.fr, .int .i64 mg.to, .int .i64 mg.rg, .int .i64 mg.te, .int .i64 mg.ix, .int .i64 mg.lt, .int .i64 mg.co, .bool mg.ok, .slice a_me mg.es.length c_me, .slice a_md mg.da.length c_md, .int .i64 q0, .int .i64 q1, .int .i64 q2, .int .i64 q3, .int .i64 q4, .int .i64 q5, .int .i64 q6, .int .i64 q7, .string q8, .int .i64 q9, .int .i64 q10, .int .i64 q11, .string q12, .string q13, .string q14, .bool q15, .int .i64 q16, .int .i64 q17, .int .i64 q18, .int .i64 q19, .bool q20, .bool q21, .slice q22a q22n q22c, .int .i64 q23, .int .i64 q24, .int .i64 q25, .int .i64 q26, .slice q27a q27n q27c, .bool q28, .int .i64 q29, .int .i64 q30, .string q31, .int .i64 q32, .int .i64 q33, .int .i64 q34, .int .i64 q35, .int .i64 q36, .int .i64 q37, .int .i64 q38, .int .i64 q39, .int .i64 q40, .slice q41a q41n q41c]] w fun r w' => r = .bool (rightV d mg) ∧ Gr w w' := by
 have hM := FX.lm
 have hk0 := FX.lm _ FX.mk'
 have hD := FX.ld
 have hMD := FX.dj
 have hMk := FX.mk'
 have HG := V.Fr.refl [] w
 refine V.enter (n := 72) Try.func38 rfl rfl (by decide) rfl ?_
 refine V.sr ?_
 refine V.box rfl rfl rfl rfl ?_
 rintro k1 w3 s5 s6 G4 Fk2
 have z7 := V.Fr.size G4
 try simp only [V.cellsL, V.spliceL] at Fk2
 refine V.ru 1 ?_
 refine V.nt ?_
 replace FX := FX.gr G4
 replace F_me := F_me.gr G4
 replace F_md := F_md.gr G4
 replace HG := HG.grow G4
 refine V.seqJ (fun e v9 => Fr [] w v9 ∧ w3.heap.size ≤ v9.heap.size ∧ Nd v9 k M D d ∧ Sl V.Cod.ent v9 D_me a_me c_me mg.es ∧ Sl V.Cod.byte v9 D_md a_md c_md mg.da ∧ Cells v9 k1 [.int .i64 mg.kd, .int .i64 mg.fr, .int .i64 mg.to, .int .i64 mg.rg, .int .i64 mg.te, .int .i64 mg.ix, .int .i64 mg.lt, .int .i64 mg.co, .bool mg.ok, .slice a_me mg.es.length c_me, .slice a_md mg.da.length c_md, .int .i64 q0, .int .i64 q1, .int .i64 q2, .int .i64 q3, .int .i64 q4, .int .i64 q5, .int .i64 q6, .int .i64 q7, .string q8, .int .i64 q9, .int .i64 q10, .int .i64 q11, .string q12, .string q13, .string q14, .bool q15, .int .i64 q16, .int .i64 q17, .int .i64 q18, .int .i64 q19, .bool q20, .bool q21, .slice q22a q22n q22c, .int .i64 q23, .int .i64 q24, .int .i64 q25, .int .i64 q26, .slice q27a q27n q27c, .bool q28, .int .i64 q29, .int .i64 q30, .string q31, .int .i64 q32, .int .i64 q33, .int .i64 q34, .int .i64 q35, .int .i64 q36, .int .i64 q37, .int .i64 q38, .int .i64 q39, .int .i64 q40, .slice q41a q41n q41c] 57 ∧ e 3 = .pointer (some ⟨k1, 0, none⟩) ∧ e 5 = .bool (decide (mg.to = d.id) && decide (¬ mg.fr = d.id) && decide (0 ≤ mg.fr) && decide (mg.fr < 3) && decide (mg.rg = d.rg)) ∧ True) ?_ ?_
 ·
  obtain ⟨kl_10, g_10, B_10, SO_10, SC_10, ad_10, cd_10, ao_10, co_10, ac_10, cc_10, ch_10, hP_10, hc_10, Fk_10, FL_10, FQ_10⟩ := FX.ex
  obtain ⟨hid_10, hrg_10, hte_10, hco_10, hx0_10, hx1_10, hx2_10, hm0_10, hm1_10, hm2_10, hda_10⟩ := FX.ok
  have nk_10 := hP_10.nk
  have nl_10 := hP_10.nl
  have ng_10 := hP_10.ng
  have kL_10 := hP_10.kL
  have lq_10 := hP_10.lq
  have bd_10 := hP_10.d
  obtain ⟨mk_10, ml_10, mg_10⟩ := hP_10.m
  have hA_10 := hP_10.a
  have lm_10 := hP_10.lm
  have ld_10 := hP_10.ld
  have hLo_10 := FL_10.ok
  have hLd_10 := FL_10.dl
  have hLg_10 := FL_10.gl
  have hLk_10 := FL_10.lt
  have hLb_10 := FL_10.bl
  have hkl_10 := Fk_10.lt
  refine V.drawQ mixed (by kernel_rfl) ?_
  refine V.qrun T_ok 1 rfl ?_
  refine V.qloadO T_ok Fk2 rfl rfl rfl rfl rfl ?_
  refine V.qrun T_ok 3 rfl ?_
  refine V.qloadO T_ok Fk_10 rfl rfl rfl rfl rfl ?_
  refine V.qrun T_ok 2 rfl ?_
  refine V.qsplit (j := 7) (t := 13) rfl rfl (fun g1_7 => ?_) (fun g1_7 => ?_)
  ·
   try replace g1_7 := V.dec g1_7
   try simp only [V.mk] at g1_7
   refine V.qrun T_ok 1 rfl ?_
   refine V.qyes rfl rfl rfl ?_
   refine V.qloadO T_ok Fk2 rfl rfl rfl rfl rfl ?_
   refine V.qrun T_ok 3 rfl ?_
   refine V.qyes rfl rfl rfl ?_
   refine V.qloadO T_ok Fk_10 rfl rfl rfl rfl rfl ?_
   refine V.qrun T_ok 3 rfl ?_
   refine V.qsplit (j := 16) (t := 22) rfl rfl (fun g1_16 => ?_) (fun g1_16 => ?_)
   ·
    try replace g1_16 := V.dec g1_16
    try simp only [V.mk] at g1_16
    refine V.qrun T_ok 1 rfl ?_
    refine V.qyes rfl rfl rfl ?_
    refine V.qloadO T_ok Fk2 rfl rfl rfl rfl rfl ?_
    refine V.qrun T_ok 3 rfl ?_
    refine V.qsplit (j := 21) (t := 27) rfl rfl (fun g1_21 => ?_) (fun g1_21 => ?_)
    ·
     try replace g1_21 := V.dec g1_21
     try simp only [V.mk] at g1_21
     refine V.qrun T_ok 1 rfl ?_
     refine V.qyes rfl rfl rfl ?_
     refine V.qloadO T_ok Fk2 rfl rfl rfl rfl rfl ?_
     refine V.qrun T_ok 3 rfl ?_
     refine V.qsplit (j := 26) (t := 32) rfl rfl (fun g1_26 => ?_) (fun g1_26 => ?_)
     ·
      try replace g1_26 := V.dec g1_26
      try simp only [V.mk] at g1_26
      refine V.qrun T_ok 1 rfl ?_
      refine V.qyes rfl rfl rfl ?_
      refine V.qloadO T_ok Fk2 rfl rfl rfl rfl rfl ?_
      refine V.qrun T_ok 3 rfl ?_
      refine V.qyes rfl rfl rfl ?_
      refine V.qloadO T_ok Fk_10 rfl rfl rfl rfl rfl ?_
      refine V.qrun T_ok 3 rfl ?_
      refine V.qnil ?_
      rintro w11 G12
      have z13 := V.Fr.size G12
      refine V.tN ?_
      replace FX := FX.gr G12
      replace F_me := F_me.gr G12
      replace F_md := F_md.gr G12
      replace Fk2 := Fk2.gr G12
      replace HG := HG.grow G12
      exact ⟨HG, (by omega), FX, F_me, F_md, Fk2, rfl, (congrArg Value.bool (by first | rfl | (simp_all; done) | grind)), trivial⟩
     ·
      try replace g1_26 := V.dec g1_26
      try simp only [V.mk] at g1_26
      refine V.qrun T_ok 9 rfl ?_
      refine V.qnil ?_
      rintro w14 G15
      have z16 := V.Fr.size G15
      refine V.tN ?_
      replace FX := FX.gr G15
      replace F_me := F_me.gr G15
      replace F_md := F_md.gr G15
      replace Fk2 := Fk2.gr G15
      replace HG := HG.grow G15
      exact ⟨HG, (by omega), FX, F_me, F_md, Fk2, rfl, (congrArg Value.bool (by first | rfl | (simp_all; done) | grind)), trivial⟩
    ·
     try replace g1_21 := V.dec g1_21
     try simp only [V.mk] at g1_21
     refine V.qrun T_ok 14 rfl ?_
     refine V.qnil ?_
     rintro w17 G18
     have z19 := V.Fr.size G18
     refine V.tN ?_
     replace FX := FX.gr G18
     replace F_me := F_me.gr G18
     replace F_md := F_md.gr G18
     replace Fk2 := Fk2.gr G18
     replace HG := HG.grow G18
     exact ⟨HG, (by omega), FX, F_me, F_md, Fk2, rfl, (congrArg Value.bool (by first | rfl | (simp_all; done) | grind)), trivial⟩
   ·
    try replace g1_16 := V.dec g1_16
    try simp only [V.mk] at g1_16
    refine V.qrun T_ok 19 rfl ?_
    refine V.qnil ?_
    rintro w20 G21
    have z22 := V.Fr.size G21
    refine V.tN ?_
    replace FX := FX.gr G21
    replace F_me := F_me.gr G21
    replace F_md := F_md.gr G21
    replace Fk2 := Fk2.gr G21
    replace HG := HG.grow G21
    exact ⟨HG, (by omega), FX, F_me, F_md, Fk2, rfl, (congrArg Value.bool (by first | rfl | (simp_all; done) | grind)), trivial⟩
  ·
   try replace g1_7 := V.dec g1_7
   try simp only [V.mk] at g1_7
   refine V.qrun T_ok 28 rfl ?_
   refine V.qnil ?_
   rintro w23 G24
   have z25 := V.Fr.size G24
   refine V.tN ?_
   replace FX := FX.gr G24
   replace F_me := F_me.gr G24
   replace F_md := F_md.gr G24
   replace Fk2 := Fk2.gr G24
   replace HG := HG.grow G24
   exact ⟨HG, (by omega), FX, F_me, F_md, Fk2, rfl, (congrArg Value.bool (by first | rfl | (simp_all; done) | grind)), trivial⟩
 clear HG FX F_me F_md Fk2
 rintro e v9 ⟨HG, z26, FX, F_me, F_md, Fk2, hjn8_3, hjn8_5, -⟩
 refine V.knownC (t := 3) hjn8_3 ?_
 refine V.knownC (t := 5) hjn8_5 ?_
 refine V.sr ?_
 refine V.ru 2 ?_
 refine V.split (j := 1) (t := 42) rfl rfl (fun g2_1 => ?_) (fun g2_1 => ?_)
 ·
  try replace g2_1 := V.dec g2_1
  try simp only [V.mk] at g2_1
  refine V.ru 1 ?_
  refine V.yes rfl rfl rfl ?_
  refine V.loadO T_ok Fk2 rfl rfl rfl rfl rfl ?_
  refine V.ru 3 ?_
  refine V.split (j := 6) (t := 47) rfl rfl (fun g2_6 => ?_) (fun g2_6 => ?_)
  ·
   try replace g2_6 := V.dec g2_6
   try simp only [V.mk] at g2_6
   refine V.ru 1 ?_
   refine V.yes rfl rfl rfl ?_
   refine V.loadO T_ok Fk2 rfl rfl rfl rfl rfl ?_
   refine V.ru 3 ?_
   refine V.split (j := 11) (t := 52) rfl rfl (fun g2_11 => ?_) (fun g2_11 => ?_)
   ·
    try replace g2_11 := V.dec g2_11
    try simp only [V.mk] at g2_11
    refine V.ru 1 ?_
    refine V.yes rfl rfl rfl ?_
    refine V.loadO T_ok Fk2 rfl rfl rfl rfl rfl ?_
    refine V.yes rfl rfl rfl ?_
    refine V.call (rnumber_spec (n := mg.te)) rfl rfl rfl ?_
    rintro _ v9_ ⟨rfl, rfl⟩
    refine V.ru 2 ?_
    refine V.split (j := 16) (t := 57) rfl rfl (fun g2_16 => ?_) (fun g2_16 => ?_)
    ·
     try replace g2_16 := V.dec g2_16
     try simp only [V.mk] at g2_16
     refine V.ru 1 ?_
     refine V.yes rfl rfl rfl ?_
     refine V.loadO T_ok Fk2 rfl rfl rfl rfl rfl ?_
     refine V.yes rfl rfl rfl ?_
     refine V.call (rnumber_spec (n := mg.ix)) rfl rfl rfl ?_
     rintro _ v9_ ⟨rfl, rfl⟩
     refine V.ru 2 ?_
     refine V.split (j := 21) (t := 62) rfl rfl (fun g2_21 => ?_) (fun g2_21 => ?_)
     ·
      try replace g2_21 := V.dec g2_21
      try simp only [V.mk] at g2_21
      refine V.ru 1 ?_
      refine V.yes rfl rfl rfl ?_
      refine V.loadO T_ok Fk2 rfl rfl rfl rfl rfl ?_
      refine V.yes rfl rfl rfl ?_
      refine V.call (rnumber_spec (n := mg.lt)) rfl rfl rfl ?_
      rintro _ v9_ ⟨rfl, rfl⟩
      refine V.ru 2 ?_
      refine V.split (j := 26) (t := 67) rfl rfl (fun g2_26 => ?_) (fun g2_26 => ?_)
      ·
       try replace g2_26 := V.dec g2_26
       try simp only [V.mk] at g2_26
       refine V.ru 1 ?_
       refine V.yes rfl rfl rfl ?_
       refine V.loadO T_ok Fk2 rfl rfl rfl rfl rfl ?_
       refine V.yes rfl rfl rfl ?_
       refine V.call (rnumber_spec (n := mg.co)) rfl rfl rfl ?_
       rintro _ v9_ ⟨rfl, rfl⟩
       refine V.ru 2 ?_
       refine V.nt ?_
       refine V.ret ?_
       refine V.done rfl ?_
       exact ⟨(congrArg Value.bool (by first | rfl | (unfold rightV; first | rfl | (simp_all; done) | grind))), HG⟩
      ·
       try replace g2_26 := V.dec g2_26
       try simp only [V.mk] at g2_26
       refine V.ru 5 ?_
       refine V.nt ?_
       refine V.ret ?_
       refine V.done rfl ?_
       exact ⟨(congrArg Value.bool (by first | rfl | (unfold rightV; first | rfl | (simp_all; done) | grind))), HG⟩
     ·
      try replace g2_21 := V.dec g2_21
      try simp only [V.mk] at g2_21
      refine V.ru 10 ?_
      refine V.nt ?_
      refine V.ret ?_
      refine V.done rfl ?_
      exact ⟨(congrArg Value.bool (by first | rfl | (unfold rightV; first | rfl | (simp_all; done) | grind))), HG⟩
    ·
     try replace g2_16 := V.dec g2_16
     try simp only [V.mk] at g2_16
     refine V.ru 15 ?_
     refine V.nt ?_
     refine V.ret ?_
     refine V.done rfl ?_
     exact ⟨(congrArg Value.bool (by first | rfl | (unfold rightV; first | rfl | (simp_all; done) | grind))), HG⟩
   ·
    try replace g2_11 := V.dec g2_11
    try simp only [V.mk] at g2_11
    refine V.ru 20 ?_
    refine V.nt ?_
    refine V.ret ?_
    refine V.done rfl ?_
    exact ⟨(congrArg Value.bool (by first | rfl | (unfold rightV; first | rfl | (simp_all; done) | grind))), HG⟩
  ·
   try replace g2_6 := V.dec g2_6
   try simp only [V.mk] at g2_6
   refine V.ru 25 ?_
   refine V.nt ?_
   refine V.ret ?_
   refine V.done rfl ?_
   exact ⟨(congrArg Value.bool (by first | rfl | (unfold rightV; first | rfl | (simp_all; done) | grind))), HG⟩
 ·
  try replace g2_1 := V.dec g2_1
  try simp only [V.mk] at g2_1
  refine V.ru 30 ?_
  refine V.nt ?_
  refine V.ret ?_
  refine V.done rfl ?_
  exact ⟨(congrArg Value.bool (by first | rfl | (unfold rightV; first | rfl | (simp_all; done) | grind))), HG⟩

set_option maxHeartbeats 4000000 in
set_option maxRecDepth 10000 in
theorem old_spec {w : World} {k : Nat} {M D : Nat → Prop} {d : NodeV} (FX : Nd w k M D d) {mg : RMsg} {q0 : Int} {q1 : Int} {q2 : Int} {q3 : Int} {q4 : Int} {q5 : Int} {q6 : Int} {q7 : Int} {q8 : ByteArray} {q9 : Int} {q10 : Int} {q11 : Int} {q12 : ByteArray} {q13 : ByteArray} {q14 : ByteArray} {q15 : Bool} {q16 : Int} {q17 : Int} {q18 : Int} {q19 : Int} {q20 : Bool} {q21 : Bool} {q22a : Option Addr} {q22n q22c : Nat} {q23 : Int} {q24 : Int} {q25 : Int} {q26 : Int} {q27a : Option Addr} {q27n q27c : Nat} {q28 : Bool} {q29 : Int} {q30 : Int} {q31 : ByteArray} {q32 : Int} {q33 : Int} {q34 : Int} {q35 : Int} {q36 : Int} {q37 : Int} {q38 : Int} {q39 : Int} {q40 : Int} {q41a : Option Addr} {q41n q41c : Nat} {D_me : Nat → Prop} {c_me : Nat} {a_me : Option Addr} (F_me : Sl V.Cod.ent w D_me a_me c_me mg.es) (hD_me : ∀ k, D_me k → k < w.heap.size) {D_md : Nat → Prop} {c_md : Nat} {a_md : Option Addr} (F_md : Sl V.Cod.byte w D_md a_md c_md mg.da) (hD_md : ∀ k, D_md k → k < w.heap.size)  (hMe : ∀ j, D_me j → ¬ M j) (hMm : ∀ j, D_md j → ¬ M j) (hs : d.out.length + 1 ≤ 1000000) :
    Meets Try.prog 60 [.pointer (some ⟨k, 0, none⟩), .agg #[.int .i64 mg.kd, .int .i64 mg.fr, .int .i64 mg.to, .int .i64 mg.rg, .int .i64 mg.te, .int .i64 mg.ix, .int .i64 mg.lt, .int .i64 mg.co, .bool mg.ok, .slice a_me mg.es.length c_me, .slice a_md mg.da.length c_md, .int .i64 q0, .int .i64 q1, .int .i64 q2, .int .i64 q3, .int .i64 q4, .int .i64 q5, .int .i64 q6, .int .i64 q7, .string q8, .int .i64 q9, .int .i64 q10, .int .i64 q11, .string q12, .string q13, .string q14, .bool q15, .int .i64 q16, .int .i64 q17, .int .i64 q18, .int .i64 q19, .bool q20, .bool q21, .slice q22a q22n q22c, .int .i64 q23, .int .i64 q24, .int .i64 q25, .int .i64 q26, .slice q27a q27n q27c, .bool q28, .int .i64 q29, .int .i64 q30, .string q31, .int .i64 q32, .int .i64 q33, .int .i64 q34, .int .i64 q35, .int .i64 q36, .int .i64 q37, .int .i64 q38, .int .i64 q39, .int .i64 q40, .slice q41a q41n q41c]] w fun r w' => ∃ (rM30 : Nat → Prop) (rD30 : Nat → Prop), r = .bool (oldB d mg) ∧ Nd w' k rM30 rD30 (oldV d mg) ∧ (∀ j, rM30 j → M j ∨ w.heap.size ≤ j) ∧ (∀ j, rD30 j → D j ∨ M j ∨ w.heap.size ≤ j) ∧ V.FrE M w w' := by
 have hM := FX.lm
 have hk0 := FX.lm _ FX.mk'
 have hD := FX.ld
 have hMD := FX.dj
 have hMk := FX.mk'
 have HG := V.FrE.refl M w
 refine V.enter (n := 25) Try.func60 rfl rfl (by decide) rfl ?_
 refine V.sr ?_
 refine V.box rfl rfl rfl rfl ?_
 rintro k1 w3 s5 s6 G4 Fk2
 have z7 := V.Fr.size G4
 try simp only [V.cellsL, V.spliceL] at Fk2
 refine V.ru 1 ?_
 refine V.nt ?_
 refine V.seq ?_
 refine V.seq ?_
 replace FX := FX.gr G4
 obtain ⟨kl_8, g_8, B_8, SO_8, SC_8, ad_8, cd_8, ao_8, co_8, ac_8, cc_8, ch_8, hP_8, hc_8, Fk_8, FL_8, FQ_8⟩ := FX.ex
 obtain ⟨hid_8, hrg_8, hte_8, hco_8, hx0_8, hx1_8, hx2_8, hm0_8, hm1_8, hm2_8, hda_8⟩ := FX.ok
 have nk_8 := hP_8.nk
 have nl_8 := hP_8.nl
 have ng_8 := hP_8.ng
 have kL_8 := hP_8.kL
 have lq_8 := hP_8.lq
 have bd_8 := hP_8.d
 obtain ⟨mk_8, ml_8, mg_8⟩ := hP_8.m
 have hA_8 := hP_8.a
 have lm_8 := hP_8.lm
 have ld_8 := hP_8.ld
 have hLo_8 := FL_8.ok
 have hLd_8 := FL_8.dl
 have hLg_8 := FL_8.gl
 have hLk_8 := FL_8.lt
 have hLb_8 := FL_8.bl
 have hkl_8 := Fk_8.lt
 refine V.drawQ mixed (by kernel_rfl) ?_
 refine V.qrun T_ok 1 rfl ?_
 refine V.qloadO T_ok Fk2 rfl rfl rfl rfl rfl ?_
 refine V.qrun T_ok 3 rfl ?_
 refine V.qloadO T_ok Fk_8 rfl rfl rfl rfl rfl ?_
 refine V.qrun T_ok 1 rfl ?_
 refine V.qnil ?_
 rintro w9 G10
 have z11 := V.Fr.size G10
 refine V.tN ?_
 refine V.condT rfl (fun h1 => ?_) (fun h1 => ?_)
 ·
  try replace h1 := V.dec h1
  try simp only [V.mk] at h1
  
  refine V.seq ?_
  refine V.drawT 7 mixed (by kernel_rfl) ?_
  rintro w12 G13 s14
  have z15 := V.Fr.size G13
  refine V.qrun T_ok 4 rfl ?_
  replace Fk_8 := Fk_8.gr (G10.trans G13)
  refine V.qloadO T_ok Fk_8 rfl rfl rfl rfl rfl ?_
  refine V.qrun T_ok 1 rfl ?_
  replace Fk2 := Fk2.gr (G10.trans G13)
  refine V.qloadO T_ok Fk2 rfl rfl rfl rfl rfl ?_
  refine V.qnil ?_
  replace FX := FX.gr (G10.trans G13)
  refine V.call (turn_spec (te := d.te) (ro := 0) (le := mg.fr) FX (by omega)) rfl rfl rfl ?_
  rintro _ w17 ⟨rfl, F16, G18⟩
  have z19 := V.FrE.size G18
  refine V.nt ?_
  refine V.sr ?_
  refine V.ru 1 ?_
  refine V.nt ?_
  refine V.ret ?_
  refine V.tR ?_
  rw [show oldV d mg = turnV d d.te 0 mg.fr from if_pos h1, show oldB d mg = false from decide_eq_false (by omega)]
  refine V.done rfl ?_
  replace HG := HG.grow (G4.trans (G10.trans G13))
  replace HG := HG.stepE G18 (by intro i h; (try dsimp only [V.In] at h ⊢); first | omega | grind)
  exact ⟨_, _, (by first | rfl | simp only [List.length_set]), F16, (by intro j h; (try dsimp only [V.In] at *); grind), (by intro j h; (try dsimp only [V.In] at *); grind), HG⟩
 ·
  try replace h1 := V.dec h1
  try simp only [V.mk] at h1
  
  refine V.skip ?_
  refine V.tN ?_
  refine V.sr ?_
  refine V.ru 2 ?_
  replace Fk2 := Fk2.gr G10
  refine V.loadO T_ok Fk2 rfl rfl rfl rfl rfl ?_
  refine V.mkStruct T_ok zero57 rfl rfl rfl rfl rfl ?_
  replace FX := FX.gr G10
  refine V.call (tell_spec (to := mg.fr) (m := (⟨4, 0, 0, 0, 0, 0, 0, 0, false, [], []⟩ : RMsg)) FX (Sl.nil _ _ V.None' _ _ (Nat.zero_le _)) (fun _ h => h.elim) (Sl.nil _ _ V.None' _ _ (Nat.zero_le _)) (fun _ h => h.elim) (by intro j h; first | exact h.elim | (have a1 := hM j; (try dsimp only [V.In] at h); grind)) (by intro j h; first | exact h.elim | (have a1 := hM j; (try dsimp only [V.In] at h); grind)) (by first | assumption | omega | (dsimp only [turnV]; omega))) rfl rfl rfl ?_
  rintro _ w25 ⟨M20, D21, rfl, F22, h23, h24, G26⟩
  have z27 := V.FrE.size G26
  refine V.nt ?_
  refine V.sr ?_
  refine V.ru 1 ?_
  refine V.nt ?_
  refine V.ret ?_
  rw [show oldV d mg = tellV d mg.fr (⟨4, 0, 0, 0, 0, 0, 0, 0, false, [], []⟩ : RMsg) from if_neg (by omega), show oldB d mg = true from decide_eq_true (by omega)]
  refine V.done rfl ?_
  replace HG := HG.grow (G4.trans G10)
  replace HG := HG.stepE G26 (by intro i h; (try dsimp only [V.In] at h ⊢); first | omega | grind)
  exact ⟨_, _, (by first | rfl | simp only [List.length_set]), F22, (by intro j h; (try dsimp only [V.In] at *); grind), (by intro j h; (try dsimp only [V.In] at *); grind), HG⟩

set_option maxHeartbeats 4000000 in
set_option maxRecDepth 10000 in
theorem asked_spec {w : World} {k : Nat} {M D : Nat → Prop} {d : NodeV} (FX : Nd w k M D d) {mg : RMsg} {q0 : Int} {q1 : Int} {q2 : Int} {q3 : Int} {q4 : Int} {q5 : Int} {q6 : Int} {q7 : Int} {q8 : ByteArray} {q9 : Int} {q10 : Int} {q11 : Int} {q12 : ByteArray} {q13 : ByteArray} {q14 : ByteArray} {q15 : Bool} {q16 : Int} {q17 : Int} {q18 : Int} {q19 : Int} {q20 : Bool} {q21 : Bool} {q22a : Option Addr} {q22n q22c : Nat} {q23 : Int} {q24 : Int} {q25 : Int} {q26 : Int} {q27a : Option Addr} {q27n q27c : Nat} {q28 : Bool} {q29 : Int} {q30 : Int} {q31 : ByteArray} {q32 : Int} {q33 : Int} {q34 : Int} {q35 : Int} {q36 : Int} {q37 : Int} {q38 : Int} {q39 : Int} {q40 : Int} {q41a : Option Addr} {q41n q41c : Nat} {D_me : Nat → Prop} {c_me : Nat} {a_me : Option Addr} (F_me : Sl V.Cod.ent w D_me a_me c_me mg.es) (hD_me : ∀ k, D_me k → k < w.heap.size) {D_md : Nat → Prop} {c_md : Nat} {a_md : Option Addr} (F_md : Sl V.Cod.byte w D_md a_md c_md mg.da) (hD_md : ∀ k, D_md k → k < w.heap.size)  (hMe : ∀ j, D_me j → ¬ M j) (hMm : ∀ j, D_md j → ¬ M j) (hs : d.out.length + 1 ≤ 1000000) :
    Meets Try.prog 52 [.pointer (some ⟨k, 0, none⟩), .agg #[.int .i64 mg.kd, .int .i64 mg.fr, .int .i64 mg.to, .int .i64 mg.rg, .int .i64 mg.te, .int .i64 mg.ix, .int .i64 mg.lt, .int .i64 mg.co, .bool mg.ok, .slice a_me mg.es.length c_me, .slice a_md mg.da.length c_md, .int .i64 q0, .int .i64 q1, .int .i64 q2, .int .i64 q3, .int .i64 q4, .int .i64 q5, .int .i64 q6, .int .i64 q7, .string q8, .int .i64 q9, .int .i64 q10, .int .i64 q11, .string q12, .string q13, .string q14, .bool q15, .int .i64 q16, .int .i64 q17, .int .i64 q18, .int .i64 q19, .bool q20, .bool q21, .slice q22a q22n q22c, .int .i64 q23, .int .i64 q24, .int .i64 q25, .int .i64 q26, .slice q27a q27n q27c, .bool q28, .int .i64 q29, .int .i64 q30, .string q31, .int .i64 q32, .int .i64 q33, .int .i64 q34, .int .i64 q35, .int .i64 q36, .int .i64 q37, .int .i64 q38, .int .i64 q39, .int .i64 q40, .slice q41a q41n q41c]] w fun r w' => ∃ (rM31 : Nat → Prop) (rD31 : Nat → Prop), r = .tuple #[] ∧ Nd w' k rM31 rD31 (askedV d mg) ∧ (∀ j, rM31 j → M j ∨ w.heap.size ≤ j) ∧ (∀ j, rD31 j → D j ∨ M j ∨ w.heap.size ≤ j) ∧ V.FrE M w w' := by
 have hM := FX.lm
 have hk0 := FX.lm _ FX.mk'
 have hD := FX.ld
 have hMD := FX.dj
 have hMk := FX.mk'
 have HG := V.FrE.refl M w
 refine V.enter (n := 51) Try.func52 rfl rfl (by decide) rfl ?_
 refine V.sr ?_
 refine V.box rfl rfl rfl rfl ?_
 rintro k1 w3 s5 s6 G4 Fk2
 have z7 := V.Fr.size G4
 try simp only [V.cellsL, V.spliceL] at Fk2
 refine V.nt ?_
 replace FX := FX.gr G4
 replace F_me := F_me.gr G4
 replace F_md := F_md.gr G4
 replace HG := HG.grow G4
 refine V.seqJ (fun e v9 => V.FrE M w v9 ∧ w3.heap.size ≤ v9.heap.size ∧ Nd v9 k M D d ∧ Sl V.Cod.ent v9 D_me a_me c_me mg.es ∧ Sl V.Cod.byte v9 D_md a_md c_md mg.da ∧ Cells v9 k1 [.int .i64 mg.kd, .int .i64 mg.fr, .int .i64 mg.to, .int .i64 mg.rg, .int .i64 mg.te, .int .i64 mg.ix, .int .i64 mg.lt, .int .i64 mg.co, .bool mg.ok, .slice a_me mg.es.length c_me, .slice a_md mg.da.length c_md, .int .i64 q0, .int .i64 q1, .int .i64 q2, .int .i64 q3, .int .i64 q4, .int .i64 q5, .int .i64 q6, .int .i64 q7, .string q8, .int .i64 q9, .int .i64 q10, .int .i64 q11, .string q12, .string q13, .string q14, .bool q15, .int .i64 q16, .int .i64 q17, .int .i64 q18, .int .i64 q19, .bool q20, .bool q21, .slice q22a q22n q22c, .int .i64 q23, .int .i64 q24, .int .i64 q25, .int .i64 q26, .slice q27a q27n q27c, .bool q28, .int .i64 q29, .int .i64 q30, .string q31, .int .i64 q32, .int .i64 q33, .int .i64 q34, .int .i64 q35, .int .i64 q36, .int .i64 q37, .int .i64 q38, .int .i64 q39, .int .i64 q40, .slice q41a q41n q41c] 57 ∧ e 0 = .pointer (some ⟨k, 0, none⟩) ∧ e 3 = .pointer (some ⟨k1, 0, none⟩) ∧ e 4 = .bool (askedOk d mg) ∧ True) ?_ ?_
 ·
  obtain ⟨kl_10, g_10, B_10, SO_10, SC_10, ad_10, cd_10, ao_10, co_10, ac_10, cc_10, ch_10, hP_10, hc_10, Fk_10, FL_10, FQ_10⟩ := FX.ex
  obtain ⟨hid_10, hrg_10, hte_10, hco_10, hx0_10, hx1_10, hx2_10, hm0_10, hm1_10, hm2_10, hda_10⟩ := FX.ok
  have nk_10 := hP_10.nk
  have nl_10 := hP_10.nl
  have ng_10 := hP_10.ng
  have kL_10 := hP_10.kL
  have lq_10 := hP_10.lq
  have bd_10 := hP_10.d
  obtain ⟨mk_10, ml_10, mg_10⟩ := hP_10.m
  have hA_10 := hP_10.a
  have lm_10 := hP_10.lm
  have ld_10 := hP_10.ld
  have hLo_10 := FL_10.ok
  have hLd_10 := FL_10.dl
  have hLg_10 := FL_10.gl
  have hLk_10 := FL_10.lt
  have hLb_10 := FL_10.bl
  have hkl_10 := Fk_10.lt
  refine V.drawQ mixed (by kernel_rfl) ?_
  refine V.qrun T_ok 1 rfl ?_
  refine V.qloadO T_ok Fk2 rfl rfl rfl rfl rfl ?_
  refine V.qrun T_ok 3 rfl ?_
  refine V.qloadO T_ok Fk_10 rfl rfl rfl rfl rfl ?_
  refine V.qrun T_ok 2 rfl ?_
  refine V.qsplit (j := 7) (t := 12) rfl rfl (fun g1_7 => ?_) (fun g1_7 => ?_)
  ·
   try replace g1_7 := V.dec g1_7
   try simp only [V.mk] at g1_7
   refine V.qrun T_ok 3 rfl ?_
   refine V.qyes rfl rfl rfl ?_
   refine V.qloadO T_ok Fk_10 rfl rfl rfl rfl rfl ?_
   refine V.qrun T_ok 2 rfl ?_
   refine V.qsplit (j := 13) (t := 18) rfl rfl (fun g1_13 => ?_) (fun g1_13 => ?_)
   ·
    try replace g1_13 := V.dec g1_13
    try simp only [V.mk] at g1_13
    refine V.qrun T_ok 13 rfl ?_
    refine V.qyes rfl rfl rfl ?_
    refine V.qloadO T_ok Fk_10 rfl rfl rfl rfl rfl ?_
    refine V.qrun T_ok 1 rfl ?_
    refine V.qyes rfl rfl rfl ?_
    refine V.qloadO T_ok Fk2 rfl rfl rfl rfl rfl ?_
    refine V.qrun T_ok 1 rfl ?_
    refine V.qyes rfl rfl rfl ?_
    refine V.qloadO T_ok Fk2 rfl rfl rfl rfl rfl ?_
    refine V.qyes rfl rfl rfl ?_
    refine V.qcall V.clo (fun w1 g => (behind_spec (i := mg.ix) (t := mg.lt) (FL_10.gr g))) rfl rfl rfl ?_
    refine V.qrun T_ok 2 rfl ?_
    refine V.qnil ?_
    rintro w11 G12
    have z13 := V.Fr.size G12
    refine V.tN ?_
    replace FX := FX.gr G12
    replace F_me := F_me.gr G12
    replace F_md := F_md.gr G12
    replace Fk2 := Fk2.gr G12
    replace HG := HG.grow G12
    exact ⟨HG, (by omega), FX, F_me, F_md, Fk2, rfl, rfl, (congrArg Value.bool (by unfold askedOk; first | rfl | (simp_all; done) | grind)), trivial⟩
   ·
    try replace g1_13 := V.dec g1_13
    try simp only [V.mk] at g1_13
    refine V.qrun T_ok 3 rfl ?_
    refine V.qyes rfl rfl rfl ?_
    refine V.qloadO T_ok Fk_10 rfl rfl rfl rfl rfl ?_
    refine V.qrun T_ok 1 rfl ?_
    refine V.qyes rfl rfl rfl ?_
    refine V.qloadO T_ok Fk2 rfl rfl rfl rfl rfl ?_
    refine V.qrun T_ok 4 rfl ?_
    refine V.qsplit (j := 23) (t := 28) rfl rfl (fun g1_23 => ?_) (fun g1_23 => ?_)
    ·
     try replace g1_23 := V.dec g1_23
     try simp only [V.mk] at g1_23
     refine V.qrun T_ok 3 rfl ?_
     refine V.qyes rfl rfl rfl ?_
     refine V.qloadO T_ok Fk_10 rfl rfl rfl rfl rfl ?_
     refine V.qrun T_ok 1 rfl ?_
     refine V.qyes rfl rfl rfl ?_
     refine V.qloadO T_ok Fk2 rfl rfl rfl rfl rfl ?_
     refine V.qrun T_ok 1 rfl ?_
     refine V.qyes rfl rfl rfl ?_
     refine V.qloadO T_ok Fk2 rfl rfl rfl rfl rfl ?_
     refine V.qyes rfl rfl rfl ?_
     refine V.qcall V.clo (fun w1 g => (behind_spec (i := mg.ix) (t := mg.lt) (FL_10.gr g))) rfl rfl rfl ?_
     refine V.qrun T_ok 2 rfl ?_
     refine V.qnil ?_
     rintro w14 G15
     have z16 := V.Fr.size G15
     refine V.tN ?_
     replace FX := FX.gr G15
     replace F_me := F_me.gr G15
     replace F_md := F_md.gr G15
     replace Fk2 := Fk2.gr G15
     replace HG := HG.grow G15
     exact ⟨HG, (by omega), FX, F_me, F_md, Fk2, rfl, rfl, (congrArg Value.bool (by unfold askedOk; first | rfl | (simp_all; done) | grind)), trivial⟩
    ·
     try replace g1_23 := V.dec g1_23
     try simp only [V.mk] at g1_23
     refine V.qrun T_ok 11 rfl ?_
     refine V.qnil ?_
     rintro w17 G18
     have z19 := V.Fr.size G18
     refine V.tN ?_
     replace FX := FX.gr G18
     replace F_me := F_me.gr G18
     replace F_md := F_md.gr G18
     replace Fk2 := Fk2.gr G18
     replace HG := HG.grow G18
     exact ⟨HG, (by omega), FX, F_me, F_md, Fk2, rfl, rfl, (congrArg Value.bool (by unfold askedOk; first | rfl | (simp_all; done) | grind)), trivial⟩
  ·
   try replace g1_7 := V.dec g1_7
   try simp only [V.mk] at g1_7
   refine V.qrun T_ok 27 rfl ?_
   refine V.qnil ?_
   rintro w20 G21
   have z22 := V.Fr.size G21
   refine V.tN ?_
   replace FX := FX.gr G21
   replace F_me := F_me.gr G21
   replace F_md := F_md.gr G21
   replace Fk2 := Fk2.gr G21
   replace HG := HG.grow G21
   exact ⟨HG, (by omega), FX, F_me, F_md, Fk2, rfl, rfl, (congrArg Value.bool (by unfold askedOk; first | rfl | (simp_all; done) | grind)), trivial⟩
 clear HG FX F_me F_md Fk2
 rintro e v9 ⟨HG, z23, FX, F_me, F_md, Fk2, hjn8_0, hjn8_3, hjn8_4, -⟩
 refine V.knownC (t := 0) hjn8_0 ?_
 refine V.knownC (t := 3) hjn8_3 ?_
 refine V.knownC (t := 4) hjn8_4 ?_
 refine V.seq ?_
 refine V.sr ?_
 refine V.ru 1 ?_
 refine V.nt ?_
 refine V.condT rfl (fun h2 => ?_) (fun h2 => ?_)
 ·
  try replace h2 := V.dec h2
  try simp only [V.mk] at h2
  
  obtain ⟨kl_24, g_24, B_24, SO_24, SC_24, ad_24, cd_24, ao_24, co_24, ac_24, cc_24, ch_24, hP_24, hc_24, Fk_24, FL_24, FQ_24⟩ := FX.ex
  obtain ⟨hid_24, hrg_24, hte_24, hco_24, hx0_24, hx1_24, hx2_24, hm0_24, hm1_24, hm2_24, hda_24⟩ := FX.ok
  have nk_24 := hP_24.nk
  have nl_24 := hP_24.nl
  have ng_24 := hP_24.ng
  have kL_24 := hP_24.kL
  have lq_24 := hP_24.lq
  have bd_24 := hP_24.d
  obtain ⟨mk_24, ml_24, mg_24⟩ := hP_24.m
  have hA_24 := hP_24.a
  have lm_24 := hP_24.lm
  have ld_24 := hP_24.ld
  have hLo_24 := FL_24.ok
  have hLd_24 := FL_24.dl
  have hLg_24 := FL_24.gl
  have hLk_24 := FL_24.lt
  have hLb_24 := FL_24.bl
  have hkl_24 := Fk_24.lt
  clear FX
  refine V.region ?_
  refine V.ru 2 ?_
  refine V.loadO T_ok Fk2 rfl rfl rfl rfl rfl ?_
  refine V.ru 2 ?_
  refine V.storeO Fk_24 rfl rfl rfl rfl sz3 rfl rfl rfl rfl ?_
  rintro w25 G26 z28 Fs27
  clear Fk_24
  have z29 := V.Fr.size G26
  have Fk_24 := Fs27; clear Fs27
  simp only [V.spliceL, V.cellsL] at Fk_24
  refine V.nt ?_
  replace FL_24 := FL_24.mv1 G26 (by (try dsimp only [V.In]); first | omega | grind)
  replace FQ_24 := FQ_24.mv1 G26 (by (try dsimp only [V.In]); first | omega | grind)
  have F30 : Nd w25 k M D ({ d with vo := mg.fr }) := ⟨⟨hid_24, hrg_24, hte_24, hco_24, hx0_24, hx1_24, hx2_24, hm0_24, hm1_24, hm2_24, hda_24⟩, _, _, _, _, _, _, _, _, _, _, _, _, (hP_24.up (by omega)), hc_24, Fk_24, FL_24, FQ_24⟩
  clear Fk_24 FL_24 FQ_24
  refine V.region ?_
  refine V.ru 2 ?_
  replace Fk2 := Fk2.ma G26
  refine V.loadO T_ok Fk2 rfl rfl rfl rfl rfl ?_
  refine V.ru 1 ?_
  refine V.mkStruct T_ok zero57 rfl rfl rfl rfl rfl ?_
  refine V.call (tell_spec (to := mg.fr) (m := (⟨2, 0, 0, 0, 0, 0, 0, 0, askedOk d mg, [], []⟩ : RMsg)) F30 (Sl.nil _ _ V.None' _ _ (Nat.zero_le _)) (fun _ h => h.elim) (Sl.nil _ _ V.None' _ _ (Nat.zero_le _)) (fun _ h => h.elim) (by intro j h; first | exact h.elim | (have a1 := hM j; (try dsimp only [V.In] at h); grind)) (by intro j h; first | exact h.elim | (have a1 := hM j; (try dsimp only [V.In] at h); grind)) (by first | assumption | omega | (dsimp only [turnV]; omega))) rfl rfl rfl ?_
  rintro _ w36 ⟨M31, D32, rfl, F33, h34, h35, G37⟩
  have z38 := V.FrE.size G37
  refine V.nil ?_
  rw [show askedV d mg = tellV ({ d with vo := mg.fr }) mg.fr (⟨2, 0, 0, 0, 0, 0, 0, 0, askedOk d mg, [], []⟩ : RMsg) from by unfold askedV; rw [if_pos h2]]
  refine V.doneN rfl ?_
  replace HG := HG.n1 G26 (by first | (refine Or.inr ?_; omega) | (refine Or.inl ?_; first | assumption | (dsimp only; grind)) | grind)
  replace HG := HG.stepE G37 (by intro i h; (try dsimp only [V.In] at h ⊢); first | omega | grind)
  exact ⟨_, _, (by first | rfl | simp only [List.length_set]), F33, (by intro j h; (try dsimp only [V.In] at *); grind), (by intro j h; (try dsimp only [V.In] at *); grind), HG⟩
 ·
  try replace h2 := V.dec h2
  try simp only [V.mk] at h2
  
  refine V.skip ?_
  refine V.tN ?_
  refine V.region ?_
  refine V.ru 2 ?_
  refine V.loadO T_ok Fk2 rfl rfl rfl rfl rfl ?_
  refine V.ru 1 ?_
  refine V.mkStruct T_ok zero57 rfl rfl rfl rfl rfl ?_
  refine V.call (tell_spec (to := mg.fr) (m := (⟨2, 0, 0, 0, 0, 0, 0, 0, askedOk d mg, [], []⟩ : RMsg)) FX (Sl.nil _ _ V.None' _ _ (Nat.zero_le _)) (fun _ h => h.elim) (Sl.nil _ _ V.None' _ _ (Nat.zero_le _)) (fun _ h => h.elim) (by intro j h; first | exact h.elim | (have a1 := hM j; (try dsimp only [V.In] at h); grind)) (by intro j h; first | exact h.elim | (have a1 := hM j; (try dsimp only [V.In] at h); grind)) (by first | assumption | omega | (dsimp only [turnV]; omega))) rfl rfl rfl ?_
  rintro _ w44 ⟨M39, D40, rfl, F41, h42, h43, G45⟩
  have z46 := V.FrE.size G45
  refine V.nil ?_
  rw [show askedV d mg = tellV d mg.fr (⟨2, 0, 0, 0, 0, 0, 0, 0, askedOk d mg, [], []⟩ : RMsg) from by unfold askedV; rw [if_neg (by simp [h2])]]
  refine V.doneN rfl ?_
  replace HG := HG.stepE G45 (by intro i h; (try dsimp only [V.In] at h ⊢); first | omega | grind)
  exact ⟨_, _, (by first | rfl | simp only [List.length_set]), F41, (by intro j h; (try dsimp only [V.In] at *); grind), (by intro j h; (try dsimp only [V.In] at *); grind), HG⟩

end Go.Proofs.Ytphohfpbdkgnaaa
