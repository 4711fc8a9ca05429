/- Proved here: walks: what functions of this seat's program return and what they leave of memory, each as a contract. Conditions: stated at each theorem. -/
import Derived.Test.YtooiimhcfgjbgaaMlmsg
namespace Go.Proofs.Ytooiimhcfgjbgaa
set_option linter.unusedVariables false
set_option linter.unusedSimpArgs false
open Go
open V (Bytes Meets Env Sl Own Gr Fr Cells S)
set_option maxHeartbeats 900000 in
set_option maxRecDepth 10000 in
theorem messageNeeds_walk {w : World} {mm : MsgV} {D_oe : Nat → Prop} {c_oe : Nat} {a_oe : Option Addr} (F_oe : Sl V.Cod.ent w D_oe a_oe c_oe mm.es) (hD_oe : ∀ k, D_oe k → k < w.heap.size) {D_od : Nat → Prop} {c_od : Nat} {a_od : Option Addr} (F_od : Sl V.Cod.byte w D_od a_od c_od mm.da) (hD_od : ∀ k, D_od k → k < w.heap.size) {D_oc : Nat → Prop} {c_oc : Nat} {a_oc : Option Addr} (F_oc : Sl V.Cod.write w D_oc a_oc c_oc mm.c.ws) (hD_oc : ∀ k, D_oc k → k < w.heap.size) {D_op : Nat → Prop} {c_op : Nat} {a_op : Option Addr} (F_op : Sl (V.Cod.pair V.Cod.str V.Cod.str) w D_op a_op c_op mm.r.ps) (hD_op : ∀ k, D_op k → k < w.heap.size) {D_or : Nat → Prop} {c_or : Nat} {a_or : Option Addr} (F_or : Sl V.Cod.write w D_or a_or c_or mm.r.rc.ws) (hD_or : ∀ k, D_or k → k < w.heap.size) {c : CmdV} {D_qc : Nat → Prop} {c_qc : Nat} {a_qc : Option Addr} (F_qc : Sl V.Cod.write w D_qc a_qc c_qc c.ws) (hD_qc : ∀ k, D_qc k → k < w.heap.size) {x : ResV} {D_up : Nat → Prop} {c_up : Nat} {a_up : Option Addr} (F_up : Sl (V.Cod.pair V.Cod.str V.Cod.str) w D_up a_up c_up x.ps) (hD_up : ∀ k, D_up k → k < w.heap.size) {D_ur : Nat → Prop} {c_ur : Nat} {a_ur : Option Addr} (F_ur : Sl V.Cod.write w D_ur a_ur c_ur x.rc.ws) (hD_ur : ∀ k, D_ur k → k < w.heap.size)  (hz : SzM mm) (hzc : SzOk c) (hzx : SzR x) :
    Meets Try.prog 5 [.agg #[.int .i64 mm.kd, .int .i64 mm.fr, .int .i64 mm.to, .int .i64 mm.rg, .int .i64 mm.te, .int .i64 mm.ix, .int .i64 mm.lt, .int .i64 mm.co, .bool mm.ok, .slice a_oe mm.es.length c_oe, .slice a_od mm.da.length c_od, .int .i64 mm.nw, .int .i64 mm.nl, .int .i64 mm.c.kd, .int .i64 mm.c.id, .int .i64 mm.c.le, .int .i64 mm.c.nd, .int .i64 mm.c.ti, .int .i64 mm.c.te, .string mm.c.an, .int .i64 mm.c.sw, .int .i64 mm.c.sl, .int .i64 mm.c.sq, .string mm.c.fr, .string mm.c.to, .string mm.c.va, .bool mm.c.go, .int .i64 mm.c.aw, .int .i64 mm.c.al, .int .i64 mm.c.lw, .int .i64 mm.c.ll, .bool mm.c.cm, .bool mm.c.st, .slice a_oc mm.c.ws.length c_oc, .int .i64 mm.c.pr, .int .i64 mm.r.er, .int .i64 mm.r.aw, .int .i64 mm.r.al, .slice a_op mm.r.ps.length c_op, .bool mm.r.fo, .int .i64 mm.r.ti, .int .i64 mm.r.te, .string mm.r.an, .int .i64 mm.r.sw, .int .i64 mm.r.sl, .int .i64 mm.r.rc.id, .int .i64 mm.r.rc.ep, .int .i64 mm.r.rc.st, .int .i64 mm.r.rc.aw, .int .i64 mm.r.rc.al, .int .i64 mm.r.rc.bw, .int .i64 mm.r.rc.bl, .slice a_or mm.r.rc.ws.length c_or], .agg #[.int .i64 c.kd, .int .i64 c.id, .int .i64 c.le, .int .i64 c.nd, .int .i64 c.ti, .int .i64 c.te, .string c.an, .int .i64 c.sw, .int .i64 c.sl, .int .i64 c.sq, .string c.fr, .string c.to, .string c.va, .bool c.go, .int .i64 c.aw, .int .i64 c.al, .int .i64 c.lw, .int .i64 c.ll, .bool c.cm, .bool c.st, .slice a_qc c.ws.length c_qc, .int .i64 c.pr], .agg #[.int .i64 x.er, .int .i64 x.aw, .int .i64 x.al, .slice a_up x.ps.length c_up, .bool x.fo, .int .i64 x.ti, .int .i64 x.te, .string x.an, .int .i64 x.sw, .int .i64 x.sl, .int .i64 x.rc.id, .int .i64 x.rc.ep, .int .i64 x.rc.st, .int .i64 x.rc.aw, .int .i64 x.rc.al, .int .i64 x.rc.bw, .int .i64 x.rc.bl, .slice a_ur x.rc.ws.length c_ur]] w fun r w' => r = .bool true ∧ Gr w w' := by
 have HG := V.Fr.refl [] w
 refine V.enter (n := 70) Try.func5 rfl rfl (by decide) rfl ?_
 refine V.seq ?_
 refine V.region ?_
 refine V.box rfl rfl rfl rfl ?_
 rintro k1 w3 s5 s6 G4 Fk2
 have z7 := V.Fr.size G4
 try replace F_oe := F_oe.gr G4
 try replace F_od := F_od.gr G4
 try replace F_oc := F_oc.gr G4
 try replace F_op := F_op.gr G4
 try replace F_or := F_or.gr G4
 try replace F_qc := F_qc.gr G4
 try replace F_up := F_up.gr G4
 try replace F_ur := F_ur.gr G4
 replace HG := HG.grow G4
 clear G4
 try simp only [V.cellsL, V.spliceL] at Fk2
 refine V.box rfl rfl rfl rfl ?_
 rintro k8 w10 s12 s13 G11 Fk9
 have z14 := V.Fr.size G11
 try replace F_oe := F_oe.gr G11
 try replace F_od := F_od.gr G11
 try replace F_oc := F_oc.gr G11
 try replace F_op := F_op.gr G11
 try replace F_or := F_or.gr G11
 try replace F_qc := F_qc.gr G11
 try replace F_up := F_up.gr G11
 try replace F_ur := F_ur.gr G11
 try replace Fk2 := Fk2.gr G11
 replace HG := HG.grow G11
 clear G11
 try simp only [V.cellsL, V.spliceL] at Fk9
 refine V.box rfl rfl rfl rfl ?_
 rintro k15 w17 s19 s20 G18 Fk16
 have z21 := V.Fr.size G18
 try replace F_oe := F_oe.gr G18
 try replace F_od := F_od.gr G18
 try replace F_oc := F_oc.gr G18
 try replace F_op := F_op.gr G18
 try replace F_or := F_or.gr G18
 try replace F_qc := F_qc.gr G18
 try replace F_up := F_up.gr G18
 try replace F_ur := F_ur.gr G18
 try replace Fk2 := Fk2.gr G18
 try replace Fk9 := Fk9.gr G18
 replace HG := HG.grow G18
 clear G18
 try simp only [V.cellsL, V.spliceL] at Fk16
 refine V.run T_ok 1 rfl ?_
 refine V.nil ?_
 refine V.tN ?_
 refine V.seq ?_
 refine V.region ?_
 refine V.loadO T_ok Fk2 rfl rfl rfl rfl rfl ?_
 refine V.call (mfits_spec (mm := mm) F_oe (fun k hk => by have := hD_oe k hk; omega) F_od (fun k hk => by have := hD_od k hk; omega) F_oc (fun k hk => by have := hD_oc k hk; omega) F_op (fun k hk => by have := hD_op k hk; omega) F_or (fun k hk => by have := hD_or k hk; omega)) rfl rfl rfl ?_
 rintro _ w23 ⟨v22, rfl, G24⟩
 have z25 := V.Fr.size G24
 try replace F_oe := F_oe.gr G24
 try replace F_od := F_od.gr G24
 try replace F_oc := F_oc.gr G24
 try replace F_op := F_op.gr G24
 try replace F_or := F_or.gr G24
 try replace F_qc := F_qc.gr G24
 try replace F_up := F_up.gr G24
 try replace F_ur := F_ur.gr G24
 try replace Fk2 := Fk2.gr G24
 try replace Fk9 := Fk9.gr G24
 try replace Fk16 := Fk16.gr G24
 replace HG := HG.grow G24
 clear G24
 refine V.run T_ok 1 rfl ?_
 refine V.nil ?_
 refine V.tN ?_
 refine V.seq ?_
 refine V.region ?_
 refine V.loadO T_ok Fk9 rfl rfl rfl rfl rfl ?_
 refine V.call (cfits_spec (d := c) F_qc (fun k hk => by have := hD_qc k hk; omega)) rfl rfl rfl ?_
 rintro _ w27 ⟨v26, rfl, G28⟩
 have z29 := V.Fr.size G28
 try replace F_oe := F_oe.gr G28
 try replace F_od := F_od.gr G28
 try replace F_oc := F_oc.gr G28
 try replace F_op := F_op.gr G28
 try replace F_or := F_or.gr G28
 try replace F_qc := F_qc.gr G28
 try replace F_up := F_up.gr G28
 try replace F_ur := F_ur.gr G28
 try replace Fk2 := Fk2.gr G28
 try replace Fk9 := Fk9.gr G28
 try replace Fk16 := Fk16.gr G28
 replace HG := HG.grow G28
 clear G28
 refine V.run T_ok 1 rfl ?_
 refine V.nil ?_
 refine V.tN ?_
 refine V.seq ?_
 refine V.seq ?_
 refine V.region ?_
 refine V.run T_ok 3 rfl ?_
 refine V.orG T_ok 2 2 17 rfl rfl rfl rfl rfl rfl rfl rfl ?_
 refine V.run T_ok 1 rfl ?_
 refine V.split (j := 6) (t := 21) rfl rfl (fun g3_6 => ?_) (fun g3_6 => ?_)
 ·
  try replace g3_6 := V.dec g3_6
  try simp only [V.mk0, V.mk1, V.mk2, V.mk3] at g3_6
  refine V.run T_ok 24 rfl ?_
  refine V.nil ?_
  refine V.tN ?_
  refine V.condY rfl rfl ?_
  refine V.seq ?_
  refine V.region ?_
  refine V.call (alive_spec) rfl rfl rfl ?_
  rintro _ w30 ⟨rfl, G31⟩
  have z32 := V.Fr.size G31
  try replace F_oe := F_oe.gr G31
  try replace F_od := F_od.gr G31
  try replace F_oc := F_oc.gr G31
  try replace F_op := F_op.gr G31
  try replace F_or := F_or.gr G31
  try replace F_qc := F_qc.gr G31
  try replace F_up := F_up.gr G31
  try replace F_ur := F_ur.gr G31
  try replace Fk2 := Fk2.gr G31
  try replace Fk9 := Fk9.gr G31
  try replace Fk16 := Fk16.gr G31
  replace HG := HG.grow G31
  clear G31
  refine V.run T_ok 1 rfl ?_
  refine V.nil ?_
  refine V.tN ?_
  refine V.ret ?_
  refine V.tR ?_
  refine V.done rfl ?_
  exact ⟨(by first | rfl | simp only [List.length_set]), HG⟩
 ·
  try replace g3_6 := V.dec g3_6
  try simp only [V.mk0, V.mk1, V.mk2, V.mk3] at g3_6
  refine V.yes rfl rfl rfl ?_
  refine V.loadO T_ok Fk2 rfl rfl rfl rfl rfl ?_
  refine V.yes rfl rfl rfl ?_
  refine V.call (mright_spec (mm := mm) F_oe (fun k hk => by have := hD_oe k hk; omega) F_od (fun k hk => by have := hD_od k hk; omega) F_oc (fun k hk => by have := hD_oc k hk; omega) F_op (fun k hk => by have := hD_op k hk; omega) F_or (fun k hk => by have := hD_or k hk; omega) (by first | (with_reducible assumption) | exact hz)) rfl rfl rfl ?_
  rintro _ w33 ⟨rfl, G34⟩
  have z35 := V.Fr.size G34
  try replace F_oe := F_oe.gr G34
  try replace F_od := F_od.gr G34
  try replace F_oc := F_oc.gr G34
  try replace F_op := F_op.gr G34
  try replace F_or := F_or.gr G34
  try replace F_qc := F_qc.gr G34
  try replace F_up := F_up.gr G34
  try replace F_ur := F_ur.gr G34
  try replace Fk2 := Fk2.gr G34
  try replace Fk9 := Fk9.gr G34
  try replace Fk16 := Fk16.gr G34
  replace HG := HG.grow G34
  clear G34
  refine V.run T_ok 3 rfl ?_
  refine V.split (j := 11) (t := 26) rfl rfl (fun g3_11 => ?_) (fun g3_11 => ?_)
  ·
   try replace g3_11 := V.dec g3_11
   try simp only [V.mk0, V.mk1, V.mk2, V.mk3] at g3_11
   refine V.run T_ok 19 rfl ?_
   refine V.nil ?_
   refine V.tN ?_
   refine V.condY rfl rfl ?_
   refine V.seq ?_
   refine V.region ?_
   refine V.call (alive_spec) rfl rfl rfl ?_
   rintro _ w36 ⟨rfl, G37⟩
   have z38 := V.Fr.size G37
   try replace F_oe := F_oe.gr G37
   try replace F_od := F_od.gr G37
   try replace F_oc := F_oc.gr G37
   try replace F_op := F_op.gr G37
   try replace F_or := F_or.gr G37
   try replace F_qc := F_qc.gr G37
   try replace F_up := F_up.gr G37
   try replace F_ur := F_ur.gr G37
   try replace Fk2 := Fk2.gr G37
   try replace Fk9 := Fk9.gr G37
   try replace Fk16 := Fk16.gr G37
   replace HG := HG.grow G37
   clear G37
   refine V.run T_ok 1 rfl ?_
   refine V.nil ?_
   refine V.tN ?_
   refine V.ret ?_
   refine V.tR ?_
   refine V.done rfl ?_
   exact ⟨(by first | rfl | simp only [List.length_set]), HG⟩
  ·
   try replace g3_11 := V.dec g3_11
   try simp only [V.mk0, V.mk1, V.mk2, V.mk3] at g3_11
   refine V.run T_ok 1 rfl ?_
   refine V.yes rfl rfl rfl ?_
   refine V.loadO T_ok Fk16 rfl rfl rfl rfl rfl ?_
   refine V.run T_ok 4 rfl ?_
   refine V.split (j := 17) (t := 32) rfl rfl (fun g3_17 => ?_) (fun g3_17 => ?_)
   ·
    try replace g3_17 := V.dec g3_17
    try simp only [V.mk0, V.mk1, V.mk2, V.mk3] at g3_17
    refine V.run T_ok 13 rfl ?_
    refine V.nil ?_
    refine V.tN ?_
    refine V.condY rfl rfl ?_
    refine V.seq ?_
    refine V.region ?_
    refine V.call (alive_spec) rfl rfl rfl ?_
    rintro _ w39 ⟨rfl, G40⟩
    have z41 := V.Fr.size G40
    try replace F_oe := F_oe.gr G40
    try replace F_od := F_od.gr G40
    try replace F_oc := F_oc.gr G40
    try replace F_op := F_op.gr G40
    try replace F_or := F_or.gr G40
    try replace F_qc := F_qc.gr G40
    try replace F_up := F_up.gr G40
    try replace F_ur := F_ur.gr G40
    try replace Fk2 := Fk2.gr G40
    try replace Fk9 := Fk9.gr G40
    try replace Fk16 := Fk16.gr G40
    replace HG := HG.grow G40
    clear G40
    refine V.run T_ok 1 rfl ?_
    refine V.nil ?_
    refine V.tN ?_
    refine V.ret ?_
    refine V.tR ?_
    refine V.done rfl ?_
    exact ⟨(by first | rfl | simp only [List.length_set]), HG⟩
   ·
    try replace g3_17 := V.dec g3_17
    try simp only [V.mk0, V.mk1, V.mk2, V.mk3] at g3_17
    refine V.run T_ok 2 rfl ?_
    refine V.yes rfl rfl rfl ?_
    refine V.loadO T_ok Fk16 rfl rfl rfl rfl rfl ?_
    refine V.run T_ok 4 rfl ?_
    refine V.split (j := 24) (t := 39) rfl rfl (fun g3_24 => ?_) (fun g3_24 => ?_)
    ·
     try replace g3_24 := V.dec g3_24
     try simp only [V.mk0, V.mk1, V.mk2, V.mk3] at g3_24
     refine V.run T_ok 6 rfl ?_
     refine V.nil ?_
     refine V.tN ?_
     refine V.condY rfl rfl ?_
     refine V.seq ?_
     refine V.region ?_
     refine V.call (alive_spec) rfl rfl rfl ?_
     rintro _ w42 ⟨rfl, G43⟩
     have z44 := V.Fr.size G43
     try replace F_oe := F_oe.gr G43
     try replace F_od := F_od.gr G43
     try replace F_oc := F_oc.gr G43
     try replace F_op := F_op.gr G43
     try replace F_or := F_or.gr G43
     try replace F_qc := F_qc.gr G43
     try replace F_up := F_up.gr G43
     try replace F_ur := F_ur.gr G43
     try replace Fk2 := Fk2.gr G43
     try replace Fk9 := Fk9.gr G43
     try replace Fk16 := Fk16.gr G43
     replace HG := HG.grow G43
     clear G43
     refine V.run T_ok 1 rfl ?_
     refine V.nil ?_
     refine V.tN ?_
     refine V.ret ?_
     refine V.tR ?_
     refine V.done rfl ?_
     exact ⟨(by first | rfl | simp only [List.length_set]), HG⟩
    ·
     try replace g3_24 := V.dec g3_24
     try simp only [V.mk0, V.mk1, V.mk2, V.mk3] at g3_24
     refine V.run T_ok 2 rfl ?_
     refine V.yes rfl rfl rfl ?_
     refine V.loadO T_ok Fk16 rfl rfl rfl rfl rfl ?_
     refine V.run T_ok 3 rfl ?_
     refine V.nil ?_
     refine V.tN ?_
     refine V.condT rfl (fun h3 => ?_) (fun h3 => ?_)
     ·
      try replace h3 := V.dec h3
      try simp only [V.mk0, V.mk1, V.mk2, V.mk3] at h3
      refine V.seq ?_
      refine V.region ?_
      refine V.call (alive_spec) rfl rfl rfl ?_
      rintro _ w45 ⟨rfl, G46⟩
      have z47 := V.Fr.size G46
      try replace F_oe := F_oe.gr G46
      try replace F_od := F_od.gr G46
      try replace F_oc := F_oc.gr G46
      try replace F_op := F_op.gr G46
      try replace F_or := F_or.gr G46
      try replace F_qc := F_qc.gr G46
      try replace F_up := F_up.gr G46
      try replace F_ur := F_ur.gr G46
      try replace Fk2 := Fk2.gr G46
      try replace Fk9 := Fk9.gr G46
      try replace Fk16 := Fk16.gr G46
      replace HG := HG.grow G46
      clear G46
      refine V.run T_ok 1 rfl ?_
      refine V.nil ?_
      refine V.tN ?_
      refine V.ret ?_
      refine V.tR ?_
      refine V.done rfl ?_
      exact ⟨(by first | rfl | simp only [List.length_set]), HG⟩
     ·
      try replace h3 := V.dec h3
      try simp only [V.mk0, V.mk1, V.mk2, V.mk3] at h3
      refine V.skip ?_
      refine V.tN ?_
      refine V.seq ?_
      refine V.region ?_
      refine V.loadO T_ok Fk2 rfl rfl rfl rfl rfl ?_
      refine V.alloc zero43 rfl rfl rfl ?_
      rintro k48 w50 s52 s53 G51 Fk49
      have z54 := V.Fr.size G51
      try replace F_oe := F_oe.gr G51
      try replace F_od := F_od.gr G51
      try replace F_oc := F_oc.gr G51
      try replace F_op := F_op.gr G51
      try replace F_or := F_or.gr G51
      try replace F_qc := F_qc.gr G51
      try replace F_up := F_up.gr G51
      try replace F_ur := F_ur.gr G51
      try replace Fk2 := Fk2.gr G51
      try replace Fk9 := Fk9.gr G51
      try replace Fk16 := Fk16.gr G51
      replace HG := HG.grow G51
      clear G51
      try simp only [V.cellsL, V.spliceL] at Fk49
      refine V.storeO Fk49 rfl rfl rfl rfl sz43 rfl rfl rfl rfl ?_
      rintro w55 G56 z58 Fs57
      clear Fk49
      have z59 := V.Fr.size G56
      try replace F_oe := F_oe.mb G56 hD_oe
      try replace F_od := F_od.mb G56 hD_od
      try replace F_oc := F_oc.mb G56 hD_oc
      try replace F_op := F_op.mb G56 hD_op
      try replace F_or := F_or.mb G56 hD_or
      try replace F_qc := F_qc.mb G56 hD_qc
      try replace F_up := F_up.mb G56 hD_up
      try replace F_ur := F_ur.mb G56 hD_ur
      try replace Fk2 := Fk2.ma G56
      try replace Fk9 := Fk9.ma G56
      try replace Fk16 := Fk16.ma G56
      replace HG := HG.n1 G56
      clear G56
      have Fk49 := Fs57; clear Fs57
      simp only [V.spliceL, V.cellsL] at Fk49
      refine V.nil ?_
      refine V.tN ?_
      refine V.seq ?_
      refine V.region ?_
      refine V.loadO T_ok Fk9 rfl rfl rfl rfl rfl ?_
      refine V.run T_ok 1 rfl ?_
      refine V.storeO Fk49 rfl rfl rfl rfl sz34 rfl rfl rfl rfl ?_
      rintro w60 G61 z63 Fs62
      clear Fk49
      have z64 := V.Fr.size G61
      try replace F_oe := F_oe.mb G61 hD_oe
      try replace F_od := F_od.mb G61 hD_od
      try replace F_oc := F_oc.mb G61 hD_oc
      try replace F_op := F_op.mb G61 hD_op
      try replace F_or := F_or.mb G61 hD_or
      try replace F_qc := F_qc.mb G61 hD_qc
      try replace F_up := F_up.mb G61 hD_up
      try replace F_ur := F_ur.mb G61 hD_ur
      try replace Fk2 := Fk2.ma G61
      try replace Fk9 := Fk9.ma G61
      try replace Fk16 := Fk16.ma G61
      replace HG := HG.n1 G61
      clear G61
      have Fk49 := Fs62; clear Fs62
      simp only [V.spliceL, V.cellsL] at Fk49
      refine V.nil ?_
      refine V.tN ?_
      refine V.seq ?_
      refine V.region ?_
      refine V.run T_ok 2 rfl ?_
      refine V.storeO Fk49 rfl rfl rfl rfl sz27 rfl rfl rfl rfl ?_
      rintro w65 G66 z68 Fs67
      clear Fk49
      have z69 := V.Fr.size G66
      try replace F_oe := F_oe.mb G66 hD_oe
      try replace F_od := F_od.mb G66 hD_od
      try replace F_oc := F_oc.mb G66 hD_oc
      try replace F_op := F_op.mb G66 hD_op
      try replace F_or := F_or.mb G66 hD_or
      try replace F_qc := F_qc.mb G66 hD_qc
      try replace F_up := F_up.mb G66 hD_up
      try replace F_ur := F_ur.mb G66 hD_ur
      try replace Fk2 := Fk2.ma G66
      try replace Fk9 := Fk9.ma G66
      try replace Fk16 := Fk16.ma G66
      replace HG := HG.n1 G66
      clear G66
      have Fk49 := Fs67; clear Fs67
      simp only [V.spliceL, V.cellsL] at Fk49
      refine V.nil ?_
      refine V.tN ?_
      refine V.seq ?_
      refine V.region ?_
      refine V.run T_ok 2 rfl ?_
      refine V.storeO Fk49 rfl rfl rfl rfl sz3 rfl rfl rfl rfl ?_
      rintro w70 G71 z73 Fs72
      clear Fk49
      have z74 := V.Fr.size G71
      try replace F_oe := F_oe.mb G71 hD_oe
      try replace F_od := F_od.mb G71 hD_od
      try replace F_oc := F_oc.mb G71 hD_oc
      try replace F_op := F_op.mb G71 hD_op
      try replace F_or := F_or.mb G71 hD_or
      try replace F_qc := F_qc.mb G71 hD_qc
      try replace F_up := F_up.mb G71 hD_up
      try replace F_ur := F_ur.mb G71 hD_ur
      try replace Fk2 := Fk2.ma G71
      try replace Fk9 := Fk9.ma G71
      try replace Fk16 := Fk16.ma G71
      replace HG := HG.n1 G71
      clear G71
      have Fk49 := Fs72; clear Fs72
      simp only [V.spliceL, V.cellsL] at Fk49
      refine V.nil ?_
      refine V.tN ?_
      refine V.seq ?_
      refine V.region ?_
      refine V.loadO T_ok Fk2 rfl rfl rfl rfl rfl ?_
      refine V.alloc zero43 rfl rfl rfl ?_
      rintro k75 w77 s79 s80 G78 Fk76
      have z81 := V.Fr.size G78
      try replace F_oe := F_oe.gr G78
      try replace F_od := F_od.gr G78
      try replace F_oc := F_oc.gr G78
      try replace F_op := F_op.gr G78
      try replace F_or := F_or.gr G78
      try replace F_qc := F_qc.gr G78
      try replace F_up := F_up.gr G78
      try replace F_ur := F_ur.gr G78
      try replace Fk2 := Fk2.gr G78
      try replace Fk9 := Fk9.gr G78
      try replace Fk16 := Fk16.gr G78
      try replace Fk49 := Fk49.gr G78
      replace HG := HG.grow G78
      clear G78
      try simp only [V.cellsL, V.spliceL] at Fk76
      refine V.storeO Fk76 rfl rfl rfl rfl sz43 rfl rfl rfl rfl ?_
      rintro w82 G83 z85 Fs84
      clear Fk76
      have z86 := V.Fr.size G83
      try replace F_oe := F_oe.mb G83 hD_oe
      try replace F_od := F_od.mb G83 hD_od
      try replace F_oc := F_oc.mb G83 hD_oc
      try replace F_op := F_op.mb G83 hD_op
      try replace F_or := F_or.mb G83 hD_or
      try replace F_qc := F_qc.mb G83 hD_qc
      try replace F_up := F_up.mb G83 hD_up
      try replace F_ur := F_ur.mb G83 hD_ur
      try replace Fk2 := Fk2.ma G83
      try replace Fk9 := Fk9.ma G83
      try replace Fk16 := Fk16.ma G83
      try replace Fk49 := Fk49.ma G83
      replace HG := HG.n1 G83
      clear G83
      have Fk76 := Fs84; clear Fs84
      simp only [V.spliceL, V.cellsL] at Fk76
      refine V.nil ?_
      refine V.tN ?_
      refine V.seq ?_
      refine V.region ?_
      refine V.loadO T_ok Fk16 rfl rfl rfl rfl rfl ?_
      refine V.run T_ok 1 rfl ?_
      refine V.storeO Fk76 rfl rfl rfl rfl sz41 rfl rfl rfl rfl ?_
      rintro w87 G88 z90 Fs89
      clear Fk76
      have z91 := V.Fr.size G88
      try replace F_oe := F_oe.mb G88 hD_oe
      try replace F_od := F_od.mb G88 hD_od
      try replace F_oc := F_oc.mb G88 hD_oc
      try replace F_op := F_op.mb G88 hD_op
      try replace F_or := F_or.mb G88 hD_or
      try replace F_qc := F_qc.mb G88 hD_qc
      try replace F_up := F_up.mb G88 hD_up
      try replace F_ur := F_ur.mb G88 hD_ur
      try replace Fk2 := Fk2.ma G88
      try replace Fk9 := Fk9.ma G88
      try replace Fk16 := Fk16.ma G88
      try replace Fk49 := Fk49.ma G88
      replace HG := HG.n1 G88
      clear G88
      have Fk76 := Fs89; clear Fs89
      simp only [V.spliceL, V.cellsL] at Fk76
      refine V.nil ?_
      refine V.tN ?_
      refine V.seq ?_
      refine V.region ?_
      refine V.run T_ok 2 rfl ?_
      refine V.storeO Fk76 rfl rfl rfl rfl sz35 rfl rfl rfl rfl ?_
      rintro w92 G93 z95 Fs94
      clear Fk76
      have z96 := V.Fr.size G93
      try replace F_oe := F_oe.mb G93 hD_oe
      try replace F_od := F_od.mb G93 hD_od
      try replace F_oc := F_oc.mb G93 hD_oc
      try replace F_op := F_op.mb G93 hD_op
      try replace F_or := F_or.mb G93 hD_or
      try replace F_qc := F_qc.mb G93 hD_qc
      try replace F_up := F_up.mb G93 hD_up
      try replace F_ur := F_ur.mb G93 hD_ur
      try replace Fk2 := Fk2.ma G93
      try replace Fk9 := Fk9.ma G93
      try replace Fk16 := Fk16.ma G93
      try replace Fk49 := Fk49.ma G93
      replace HG := HG.n1 G93
      clear G93
      have Fk76 := Fs94; clear Fs94
      simp only [V.spliceL, V.cellsL] at Fk76
      refine V.nil ?_
      refine V.tN ?_
      refine V.seq ?_
      have hz1 : SzM (⟨mm.kd, mm.fr, mm.to, mm.rg, mm.te, mm.ix, mm.lt, mm.co, mm.ok, mm.es, mm.da, mm.nw, mm.nl, ⟨1, c.id, -1, c.nd, c.ti, c.te, c.an, c.sw, c.sl, c.sq, c.fr, c.to, c.va, c.go, c.aw, c.al, c.lw, c.ll, c.cm, c.st, c.ws, c.pr⟩, mm.r⟩ : MsgV) := ⟨⟨hzc.an, hzc.fr, hzc.to, hzc.va, hzc.ws⟩, hz.r⟩
      have hz2 : SzM (⟨mm.kd, mm.fr, mm.to, mm.rg, mm.te, mm.ix, mm.lt, mm.co, mm.ok, mm.es, mm.da, mm.nw, mm.nl, mm.c, ⟨-1, x.aw, x.al, x.ps, x.fo, x.ti, x.te, x.an, x.sw, x.sl, x.rc⟩⟩ : MsgV) := ⟨hz.c, ⟨hzx.ps, hzx.an, hzx.ws⟩⟩
      refine V.region ?_
      refine V.call (alive_spec) rfl rfl rfl ?_
      rintro _ w97 ⟨rfl, G98⟩
      have z99 := V.Fr.size G98
      try replace F_oe := F_oe.gr G98
      try replace F_od := F_od.gr G98
      try replace F_oc := F_oc.gr G98
      try replace F_op := F_op.gr G98
      try replace F_or := F_or.gr G98
      try replace F_qc := F_qc.gr G98
      try replace F_up := F_up.gr G98
      try replace F_ur := F_ur.gr G98
      try replace Fk2 := Fk2.gr G98
      try replace Fk9 := Fk9.gr G98
      try replace Fk16 := Fk16.gr G98
      try replace Fk49 := Fk49.gr G98
      try replace Fk76 := Fk76.gr G98
      replace HG := HG.grow G98
      clear G98
      refine V.run T_ok 1 rfl ?_
      refine V.yes rfl rfl rfl ?_
      refine V.loadO T_ok Fk49 rfl rfl rfl rfl rfl ?_
      refine V.yes rfl rfl rfl ?_
      refine V.call (mright_spec (mm := (⟨mm.kd, mm.fr, mm.to, mm.rg, mm.te, mm.ix, mm.lt, mm.co, mm.ok, mm.es, mm.da, mm.nw, mm.nl, (⟨1, c.id, -1, c.nd, c.ti, c.te, c.an, c.sw, c.sl, c.sq, c.fr, c.to, c.va, c.go, c.aw, c.al, c.lw, c.ll, c.cm, c.st, c.ws, c.pr⟩ : CmdV), mm.r⟩ : MsgV)) F_oe (fun k hk => by have := hD_oe k hk; omega) F_od (fun k hk => by have := hD_od k hk; omega) F_qc (fun k hk => by have := hD_qc k hk; omega) F_op (fun k hk => by have := hD_op k hk; omega) F_or (fun k hk => by have := hD_or k hk; omega) (by first | (with_reducible assumption) | exact hz)) rfl rfl rfl ?_
      rintro _ w100 ⟨rfl, G101⟩
      have z102 := V.Fr.size G101
      try replace F_oe := F_oe.gr G101
      try replace F_od := F_od.gr G101
      try replace F_oc := F_oc.gr G101
      try replace F_op := F_op.gr G101
      try replace F_or := F_or.gr G101
      try replace F_qc := F_qc.gr G101
      try replace F_up := F_up.gr G101
      try replace F_ur := F_ur.gr G101
      try replace Fk2 := Fk2.gr G101
      try replace Fk9 := Fk9.gr G101
      try replace Fk16 := Fk16.gr G101
      try replace Fk49 := Fk49.gr G101
      try replace Fk76 := Fk76.gr G101
      replace HG := HG.grow G101
      clear G101
      refine V.run T_ok 3 rfl ?_
      refine V.splitT (j := 6) (t := 65) rfl rfl (by (rw [need_c mm rfl rfl]; rfl)) ?_
      refine V.yes rfl rfl rfl ?_
      refine V.loadO T_ok Fk76 rfl rfl rfl rfl rfl ?_
      refine V.yes rfl rfl rfl ?_
      refine V.call (mright_spec (mm := (⟨mm.kd, mm.fr, mm.to, mm.rg, mm.te, mm.ix, mm.lt, mm.co, mm.ok, mm.es, mm.da, mm.nw, mm.nl, mm.c, (⟨-1, x.aw, x.al, x.ps, x.fo, x.ti, x.te, x.an, x.sw, x.sl, x.rc⟩ : ResV)⟩ : MsgV)) F_oe (fun k hk => by have := hD_oe k hk; omega) F_od (fun k hk => by have := hD_od k hk; omega) F_oc (fun k hk => by have := hD_oc k hk; omega) F_up (fun k hk => by have := hD_up k hk; omega) F_ur (fun k hk => by have := hD_ur k hk; omega) (by first | (with_reducible assumption) | exact hz)) rfl rfl rfl ?_
      rintro _ w103 ⟨rfl, G104⟩
      have z105 := V.Fr.size G104
      try replace F_oe := F_oe.gr G104
      try replace F_od := F_od.gr G104
      try replace F_oc := F_oc.gr G104
      try replace F_op := F_op.gr G104
      try replace F_or := F_or.gr G104
      try replace F_qc := F_qc.gr G104
      try replace F_up := F_up.gr G104
      try replace F_ur := F_ur.gr G104
      try replace Fk2 := Fk2.gr G104
      try replace Fk9 := Fk9.gr G104
      try replace Fk16 := Fk16.gr G104
      try replace Fk49 := Fk49.gr G104
      try replace Fk76 := Fk76.gr G104
      replace HG := HG.grow G104
      clear G104
      refine V.run T_ok 3 rfl ?_
      refine V.nil ?_
      refine V.tN ?_
      refine V.ret ?_
      refine V.done rfl ?_
      exact ⟨congrArg Value.bool (by rw [need_r mm rfl]; rfl), HG⟩

end Go.Proofs.Ytooiimhcfgjbgaa
