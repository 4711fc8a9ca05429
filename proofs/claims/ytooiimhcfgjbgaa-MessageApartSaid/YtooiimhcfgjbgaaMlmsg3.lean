/- Proved here: walks: what functions of this seat's program return and what they leave of memory, each as a contract. Conditions: stated at each theorem. -/
import Derived.Test.YtooiimhcfgjbgaaMlmsg
namespace Go.Proofs.Ytooiimhcfgjbgaa
set_option linter.unusedVariables false
set_option linter.unusedSimpArgs false
open Go
open V (Bytes Meets Env Sl Own Gr Fr Cells S)
set_option maxHeartbeats 900000 in
set_option maxRecDepth 10000 in
theorem messageApart_walk {w : World} {a : MsgV} {D_pe : Nat → Prop} {c_pe : Nat} {a_pe : Option Addr} (F_pe : Sl V.Cod.ent w D_pe a_pe c_pe a.es) (hD_pe : ∀ k, D_pe k → k < w.heap.size) {D_pd : Nat → Prop} {c_pd : Nat} {a_pd : Option Addr} (F_pd : Sl V.Cod.byte w D_pd a_pd c_pd a.da) (hD_pd : ∀ k, D_pd k → k < w.heap.size) {D_pc : Nat → Prop} {c_pc : Nat} {a_pc : Option Addr} (F_pc : Sl V.Cod.write w D_pc a_pc c_pc a.c.ws) (hD_pc : ∀ k, D_pc k → k < w.heap.size) {D_pp : Nat → Prop} {c_pp : Nat} {a_pp : Option Addr} (F_pp : Sl (V.Cod.pair V.Cod.str V.Cod.str) w D_pp a_pp c_pp a.r.ps) (hD_pp : ∀ k, D_pp k → k < w.heap.size) {D_pr : Nat → Prop} {c_pr : Nat} {a_pr : Option Addr} (F_pr : Sl V.Cod.write w D_pr a_pr c_pr a.r.rc.ws) (hD_pr : ∀ k, D_pr k → k < w.heap.size) {b : MsgV} {D_qe : Nat → Prop} {c_qe : Nat} {a_qe : Option Addr} (F_qe : Sl V.Cod.ent w D_qe a_qe c_qe b.es) (hD_qe : ∀ k, D_qe k → k < w.heap.size) {D_qd : Nat → Prop} {c_qd : Nat} {a_qd : Option Addr} (F_qd : Sl V.Cod.byte w D_qd a_qd c_qd b.da) (hD_qd : ∀ k, D_qd k → k < w.heap.size) {D_qc : Nat → Prop} {c_qc : Nat} {a_qc : Option Addr} (F_qc : Sl V.Cod.write w D_qc a_qc c_qc b.c.ws) (hD_qc : ∀ k, D_qc k → k < w.heap.size) {D_qp : Nat → Prop} {c_qp : Nat} {a_qp : Option Addr} (F_qp : Sl (V.Cod.pair V.Cod.str V.Cod.str) w D_qp a_qp c_qp b.r.ps) (hD_qp : ∀ k, D_qp k → k < w.heap.size) {D_qr : Nat → Prop} {c_qr : Nat} {a_qr : Option Addr} (F_qr : Sl V.Cod.write w D_qr a_qr c_qr b.r.rc.ws) (hD_qr : ∀ k, D_qr k → k < w.heap.size)  (hz : SzM a) (hz2 : SzM b) :
    Meets Try.prog 4 [.agg #[.int .i64 a.kd, .int .i64 a.fr, .int .i64 a.to, .int .i64 a.rg, .int .i64 a.te, .int .i64 a.ix, .int .i64 a.lt, .int .i64 a.co, .bool a.ok, .slice a_pe a.es.length c_pe, .slice a_pd a.da.length c_pd, .int .i64 a.nw, .int .i64 a.nl, .int .i64 a.c.kd, .int .i64 a.c.id, .int .i64 a.c.le, .int .i64 a.c.nd, .int .i64 a.c.ti, .int .i64 a.c.te, .string a.c.an, .int .i64 a.c.sw, .int .i64 a.c.sl, .int .i64 a.c.sq, .string a.c.fr, .string a.c.to, .string a.c.va, .bool a.c.go, .int .i64 a.c.aw, .int .i64 a.c.al, .int .i64 a.c.lw, .int .i64 a.c.ll, .bool a.c.cm, .bool a.c.st, .slice a_pc a.c.ws.length c_pc, .int .i64 a.c.pr, .int .i64 a.r.er, .int .i64 a.r.aw, .int .i64 a.r.al, .slice a_pp a.r.ps.length c_pp, .bool a.r.fo, .int .i64 a.r.ti, .int .i64 a.r.te, .string a.r.an, .int .i64 a.r.sw, .int .i64 a.r.sl, .int .i64 a.r.rc.id, .int .i64 a.r.rc.ep, .int .i64 a.r.rc.st, .int .i64 a.r.rc.aw, .int .i64 a.r.rc.al, .int .i64 a.r.rc.bw, .int .i64 a.r.rc.bl, .slice a_pr a.r.rc.ws.length c_pr], .agg #[.int .i64 b.kd, .int .i64 b.fr, .int .i64 b.to, .int .i64 b.rg, .int .i64 b.te, .int .i64 b.ix, .int .i64 b.lt, .int .i64 b.co, .bool b.ok, .slice a_qe b.es.length c_qe, .slice a_qd b.da.length c_qd, .int .i64 b.nw, .int .i64 b.nl, .int .i64 b.c.kd, .int .i64 b.c.id, .int .i64 b.c.le, .int .i64 b.c.nd, .int .i64 b.c.ti, .int .i64 b.c.te, .string b.c.an, .int .i64 b.c.sw, .int .i64 b.c.sl, .int .i64 b.c.sq, .string b.c.fr, .string b.c.to, .string b.c.va, .bool b.c.go, .int .i64 b.c.aw, .int .i64 b.c.al, .int .i64 b.c.lw, .int .i64 b.c.ll, .bool b.c.cm, .bool b.c.st, .slice a_qc b.c.ws.length c_qc, .int .i64 b.c.pr, .int .i64 b.r.er, .int .i64 b.r.aw, .int .i64 b.r.al, .slice a_qp b.r.ps.length c_qp, .bool b.r.fo, .int .i64 b.r.ti, .int .i64 b.r.te, .string b.r.an, .int .i64 b.r.sw, .int .i64 b.r.sl, .int .i64 b.r.rc.id, .int .i64 b.r.rc.ep, .int .i64 b.r.rc.st, .int .i64 b.r.rc.aw, .int .i64 b.r.rc.al, .int .i64 b.r.rc.bw, .int .i64 b.r.rc.bl, .slice a_qr b.r.rc.ws.length c_qr]] w fun r w' => r = .bool true ∧ Gr w w' := by
 have HG := V.Fr.refl [] w
 refine V.enter (n := 66) Try.func4 rfl rfl (by decide) rfl ?_
 refine V.seq ?_
 refine V.region ?_
 refine V.box rfl rfl rfl rfl ?_
 rintro k1 w3 s5 s6 G4 Fk2
 have z7 := V.Fr.size G4
 try replace F_pe := F_pe.gr G4
 try replace F_pd := F_pd.gr G4
 try replace F_pc := F_pc.gr G4
 try replace F_pp := F_pp.gr G4
 try replace F_pr := F_pr.gr G4
 try replace F_qe := F_qe.gr G4
 try replace F_qd := F_qd.gr G4
 try replace F_qc := F_qc.gr G4
 try replace F_qp := F_qp.gr G4
 try replace F_qr := F_qr.gr G4
 replace HG := HG.grow G4
 clear G4
 try simp only [V.cellsL, V.spliceL] at Fk2
 refine V.box rfl rfl rfl rfl ?_
 rintro k8 w10 s12 s13 G11 Fk9
 have z14 := V.Fr.size G11
 try replace F_pe := F_pe.gr G11
 try replace F_pd := F_pd.gr G11
 try replace F_pc := F_pc.gr G11
 try replace F_pp := F_pp.gr G11
 try replace F_pr := F_pr.gr G11
 try replace F_qe := F_qe.gr G11
 try replace F_qd := F_qd.gr G11
 try replace F_qc := F_qc.gr G11
 try replace F_qp := F_qp.gr G11
 try replace F_qr := F_qr.gr G11
 try replace Fk2 := Fk2.gr G11
 replace HG := HG.grow G11
 clear G11
 try simp only [V.cellsL, V.spliceL] at Fk9
 refine V.run T_ok 1 rfl ?_
 refine V.nil ?_
 refine V.tN ?_
 refine V.seq ?_
 refine V.region ?_
 refine V.loadO T_ok Fk2 rfl rfl rfl rfl rfl ?_
 refine V.call (mfits_spec (mm := a) F_pe (fun k hk => by have := hD_pe k hk; omega) F_pd (fun k hk => by have := hD_pd k hk; omega) F_pc (fun k hk => by have := hD_pc k hk; omega) F_pp (fun k hk => by have := hD_pp k hk; omega) F_pr (fun k hk => by have := hD_pr k hk; omega)) rfl rfl rfl ?_
 rintro _ w16 ⟨v15, rfl, G17⟩
 have z18 := V.Fr.size G17
 try replace F_pe := F_pe.gr G17
 try replace F_pd := F_pd.gr G17
 try replace F_pc := F_pc.gr G17
 try replace F_pp := F_pp.gr G17
 try replace F_pr := F_pr.gr G17
 try replace F_qe := F_qe.gr G17
 try replace F_qd := F_qd.gr G17
 try replace F_qc := F_qc.gr G17
 try replace F_qp := F_qp.gr G17
 try replace F_qr := F_qr.gr G17
 try replace Fk2 := Fk2.gr G17
 try replace Fk9 := Fk9.gr G17
 replace HG := HG.grow G17
 clear G17
 refine V.run T_ok 1 rfl ?_
 refine V.nil ?_
 refine V.tN ?_
 refine V.seq ?_
 refine V.region ?_
 refine V.loadO T_ok Fk9 rfl rfl rfl rfl rfl ?_
 refine V.call (mfits_spec (mm := b) F_qe (fun k hk => by have := hD_qe k hk; omega) F_qd (fun k hk => by have := hD_qd k hk; omega) F_qc (fun k hk => by have := hD_qc k hk; omega) F_qp (fun k hk => by have := hD_qp k hk; omega) F_qr (fun k hk => by have := hD_qr k hk; omega)) rfl rfl rfl ?_
 rintro _ w20 ⟨v19, rfl, G21⟩
 have z22 := V.Fr.size G21
 try replace F_pe := F_pe.gr G21
 try replace F_pd := F_pd.gr G21
 try replace F_pc := F_pc.gr G21
 try replace F_pp := F_pp.gr G21
 try replace F_pr := F_pr.gr G21
 try replace F_qe := F_qe.gr G21
 try replace F_qd := F_qd.gr G21
 try replace F_qc := F_qc.gr G21
 try replace F_qp := F_qp.gr G21
 try replace F_qr := F_qr.gr G21
 try replace Fk2 := Fk2.gr G21
 try replace Fk9 := Fk9.gr G21
 replace HG := HG.grow G21
 clear G21
 refine V.run T_ok 1 rfl ?_
 refine V.nil ?_
 refine V.tN ?_
 refine V.seq ?_
 refine V.region ?_
 refine V.loadO T_ok Fk2 rfl rfl rfl rfl rfl ?_
 refine V.call (mencode_spec (mm := a) F_pe (fun k hk => by have := hD_pe k hk; omega) F_pd (fun k hk => by have := hD_pd k hk; omega) F_pc (fun k hk => by have := hD_pc k hk; omega) F_pp (fun k hk => by have := hD_pp k hk; omega) F_pr (fun k hk => by have := hD_pr k hk; omega) (by first | (with_reducible assumption) | exact hz)) rfl rfl rfl ?_
 rintro _ w26 ⟨a23, c24, rfl, F25, G27⟩
 have z28 := V.Fr.size G27
 try replace F_pe := F_pe.gr G27
 try replace F_pd := F_pd.gr G27
 try replace F_pc := F_pc.gr G27
 try replace F_pp := F_pp.gr G27
 try replace F_pr := F_pr.gr G27
 try replace F_qe := F_qe.gr G27
 try replace F_qd := F_qd.gr G27
 try replace F_qc := F_qc.gr G27
 try replace F_qp := F_qp.gr G27
 try replace F_qr := F_qr.gr G27
 try replace Fk2 := Fk2.gr G27
 try replace Fk9 := Fk9.gr G27
 replace HG := HG.grow G27
 clear G27
 refine V.run T_ok 5 rfl ?_
 refine V.nil ?_
 refine V.tN ?_
 refine V.seq ?_
 refine V.region ?_
 refine V.loadO T_ok Fk9 rfl rfl rfl rfl rfl ?_
 refine V.call (mencode_spec (mm := b) F_qe (fun k hk => by have := hD_qe k hk; omega) F_qd (fun k hk => by have := hD_qd k hk; omega) F_qc (fun k hk => by have := hD_qc k hk; omega) F_qp (fun k hk => by have := hD_qp k hk; omega) F_qr (fun k hk => by have := hD_qr k hk; omega) (by first | (with_reducible assumption) | exact hz)) rfl rfl rfl ?_
 rintro _ w32 ⟨a29, c30, rfl, F31, G33⟩
 have z34 := V.Fr.size G33
 try replace F_pe := F_pe.gr G33
 try replace F_pd := F_pd.gr G33
 try replace F_pc := F_pc.gr G33
 try replace F_pp := F_pp.gr G33
 try replace F_pr := F_pr.gr G33
 try replace F_qe := F_qe.gr G33
 try replace F_qd := F_qd.gr G33
 try replace F_qc := F_qc.gr G33
 try replace F_qp := F_qp.gr G33
 try replace F_qr := F_qr.gr G33
 try replace Fk2 := Fk2.gr G33
 try replace Fk9 := Fk9.gr G33
 try replace F25 := F25.gr G33
 replace HG := HG.grow G33
 clear G33
 refine V.run T_ok 5 rfl ?_
 refine V.nil ?_
 refine V.tN ?_
 refine V.seq ?_
 refine V.seq ?_
 refine V.region ?_
 refine V.run T_ok 3 rfl ?_
 refine V.orG T_ok 2 2 27 rfl rfl rfl rfl rfl rfl rfl rfl ?_
 refine V.run T_ok 1 rfl ?_
 refine V.orG T_ok 2 6 31 rfl rfl rfl rfl rfl rfl rfl rfl ?_
 refine V.run T_ok 1 rfl ?_
 refine V.orG T_ok 2 10 35 rfl rfl rfl rfl rfl rfl rfl rfl ?_
 refine V.nil ?_
 refine V.tN ?_
 refine V.condT rfl (fun h5 => ?_) (fun h5 => ?_)
 ·
  try replace h5 := V.dec h5
  try simp only [V.mk0, V.mk1, V.mk2, V.mk3] at h5
  refine V.seq ?_
  refine V.region ?_
  refine V.call (alive_spec) rfl rfl rfl ?_
  rintro _ w35 ⟨rfl, G36⟩
  have z37 := V.Fr.size G36
  try replace F_pe := F_pe.gr G36
  try replace F_pd := F_pd.gr G36
  try replace F_pc := F_pc.gr G36
  try replace F_pp := F_pp.gr G36
  try replace F_pr := F_pr.gr G36
  try replace F_qe := F_qe.gr G36
  try replace F_qd := F_qd.gr G36
  try replace F_qc := F_qc.gr G36
  try replace F_qp := F_qp.gr G36
  try replace F_qr := F_qr.gr G36
  try replace Fk2 := Fk2.gr G36
  try replace Fk9 := Fk9.gr G36
  try replace F25 := F25.gr G36
  try replace F31 := F31.gr G36
  replace HG := HG.grow G36
  clear G36
  refine V.run T_ok 1 rfl ?_
  refine V.nil ?_
  refine V.tN ?_
  refine V.ret ?_
  refine V.tR ?_
  refine V.done rfl ?_
  exact ⟨(by first | rfl | simp only [List.length_set]), HG⟩
 ·
  try replace h5 := V.dec h5
  try simp only [V.mk0, V.mk1, V.mk2, V.mk3] at h5
  have ha : encE a = 0 := by first | exact Decidable.not_not.1 g5_10 | exact g5_10 | (simp_all; done)
  have hb : encE b = 0 := by first | exact Decidable.not_not.1 h5 | exact h5 | (simp_all; done)
  refine V.skip ?_
  refine V.tN ?_
  refine V.seq ?_
  refine V.drawQ mixed (by kernel_rfl) ?_
  refine V.qcall V.clo (fun w1 g => (alive_spec)) rfl rfl rfl ?_
  refine V.qrun T_ok 2 rfl ?_
  refine V.qyes rfl rfl rfl ?_
  refine V.qtoStr F25.sl Try.underlying24 Try.underlying5 Try.underlying9 rfl rfl rfl rfl ?_
  refine V.qrun T_ok 1 rfl ?_
  refine V.qyes rfl rfl rfl ?_
  refine V.qtoStr F31.sl Try.underlying24 Try.underlying5 Try.underlying9 rfl rfl rfl rfl ?_
  refine V.qrun T_ok 1 rfl ?_
  refine V.qyes rfl rfl rfl ?_
  refine V.qloadO T_ok Fk2 rfl rfl rfl rfl rfl ?_
  refine V.qyes rfl rfl rfl ?_
  refine V.qloadO T_ok Fk9 rfl rfl rfl rfl rfl ?_
  refine V.qyes rfl rfl rfl ?_
  refine V.qcall V.clo (fun w1 g => (msame_spec (a := a) (b := b) (F_pe.gr g) (fun k hk => by have := Fr.size g; have := hD_pe k hk; omega) (F_pd.gr g) (fun k hk => by have := Fr.size g; have := hD_pd k hk; omega) (F_pc.gr g) (fun k hk => by have := Fr.size g; have := hD_pc k hk; omega) (F_pp.gr g) (fun k hk => by have := Fr.size g; have := hD_pp k hk; omega) (F_pr.gr g) (fun k hk => by have := Fr.size g; have := hD_pr k hk; omega) (F_qe.gr g) (fun k hk => by have := Fr.size g; have := hD_qe k hk; omega) (F_qd.gr g) (fun k hk => by have := Fr.size g; have := hD_qd k hk; omega) (F_qc.gr g) (fun k hk => by have := Fr.size g; have := hD_qc k hk; omega) (F_qp.gr g) (fun k hk => by have := Fr.size g; have := hD_qp k hk; omega) (F_qr.gr g) (fun k hk => by have := Fr.size g; have := hD_qr k hk; omega))) rfl rfl rfl ?_
  refine V.qrun T_ok 3 rfl ?_
  refine V.qsplitT (j := 12) (t := 52) rfl rfl (by (rw [encM_same ha hb]; simp)) ?_
  refine V.qyes rfl rfl rfl ?_
  refine V.qloadO T_ok Fk2 rfl rfl rfl rfl rfl ?_
  refine V.qyes rfl rfl rfl ?_
  refine V.qloadO T_ok Fk2 rfl rfl rfl rfl rfl ?_
  refine V.qyes rfl rfl rfl ?_
  refine V.qcall V.clo (fun w1 g => (msame_spec (a := a) (b := a) (F_pe.gr g) (fun k hk => by have := Fr.size g; have := hD_pe k hk; omega) (F_pd.gr g) (fun k hk => by have := Fr.size g; have := hD_pd k hk; omega) (F_pc.gr g) (fun k hk => by have := Fr.size g; have := hD_pc k hk; omega) (F_pp.gr g) (fun k hk => by have := Fr.size g; have := hD_pp k hk; omega) (F_pr.gr g) (fun k hk => by have := Fr.size g; have := hD_pr k hk; omega) (F_pe.gr g) (fun k hk => by have := Fr.size g; have := hD_pe k hk; omega) (F_pd.gr g) (fun k hk => by have := Fr.size g; have := hD_pd k hk; omega) (F_pc.gr g) (fun k hk => by have := Fr.size g; have := hD_pc k hk; omega) (F_pp.gr g) (fun k hk => by have := Fr.size g; have := hD_pp k hk; omega) (F_pr.gr g) (fun k hk => by have := Fr.size g; have := hD_pr k hk; omega))) rfl rfl rfl ?_
  refine V.qrun T_ok 2 rfl ?_
  refine V.qsplitT (j := 17) (t := 57) rfl rfl (by (exact smM_self a)) ?_
  refine V.qyes rfl rfl rfl ?_
  refine V.qloadO T_ok Fk2 rfl rfl rfl rfl rfl ?_
  refine V.qyes rfl rfl rfl ?_
  refine V.qloadO T_ok Fk9 rfl rfl rfl rfl rfl ?_
  refine V.qyes rfl rfl rfl ?_
  refine V.qcall V.clo (fun w1 g => (msame_spec (a := a) (b := b) (F_pe.gr g) (fun k hk => by have := Fr.size g; have := hD_pe k hk; omega) (F_pd.gr g) (fun k hk => by have := Fr.size g; have := hD_pd k hk; omega) (F_pc.gr g) (fun k hk => by have := Fr.size g; have := hD_pc k hk; omega) (F_pp.gr g) (fun k hk => by have := Fr.size g; have := hD_pp k hk; omega) (F_pr.gr g) (fun k hk => by have := Fr.size g; have := hD_pr k hk; omega) (F_qe.gr g) (fun k hk => by have := Fr.size g; have := hD_qe k hk; omega) (F_qd.gr g) (fun k hk => by have := Fr.size g; have := hD_qd k hk; omega) (F_qc.gr g) (fun k hk => by have := Fr.size g; have := hD_qc k hk; omega) (F_qp.gr g) (fun k hk => by have := Fr.size g; have := hD_qp k hk; omega) (F_qr.gr g) (fun k hk => by have := Fr.size g; have := hD_qr k hk; omega))) rfl rfl rfl ?_
  refine V.qyes rfl rfl rfl ?_
  refine V.qloadO T_ok Fk9 rfl rfl rfl rfl rfl ?_
  refine V.qyes rfl rfl rfl ?_
  refine V.qloadO T_ok Fk2 rfl rfl rfl rfl rfl ?_
  refine V.qyes rfl rfl rfl ?_
  refine V.qcall V.clo (fun w1 g => (msame_spec (a := b) (b := a) (F_qe.gr g) (fun k hk => by have := Fr.size g; have := hD_qe k hk; omega) (F_qd.gr g) (fun k hk => by have := Fr.size g; have := hD_qd k hk; omega) (F_qc.gr g) (fun k hk => by have := Fr.size g; have := hD_qc k hk; omega) (F_qp.gr g) (fun k hk => by have := Fr.size g; have := hD_qp k hk; omega) (F_qr.gr g) (fun k hk => by have := Fr.size g; have := hD_qr k hk; omega) (F_pe.gr g) (fun k hk => by have := Fr.size g; have := hD_pe k hk; omega) (F_pd.gr g) (fun k hk => by have := Fr.size g; have := hD_pd k hk; omega) (F_pc.gr g) (fun k hk => by have := Fr.size g; have := hD_pc k hk; omega) (F_pp.gr g) (fun k hk => by have := Fr.size g; have := hD_pp k hk; omega) (F_pr.gr g) (fun k hk => by have := Fr.size g; have := hD_pr k hk; omega))) rfl rfl rfl ?_
  refine V.qrun T_ok 3 rfl ?_
  refine V.qnil ?_
  rintro w38 G39
  have z40 := V.Fr.size G39
  try replace F_pe := F_pe.gr G39
  try replace F_pd := F_pd.gr G39
  try replace F_pc := F_pc.gr G39
  try replace F_pp := F_pp.gr G39
  try replace F_pr := F_pr.gr G39
  try replace F_qe := F_qe.gr G39
  try replace F_qd := F_qd.gr G39
  try replace F_qc := F_qc.gr G39
  try replace F_qp := F_qp.gr G39
  try replace F_qr := F_qr.gr G39
  try replace Fk2 := Fk2.gr G39
  try replace Fk9 := Fk9.gr G39
  try replace F25 := F25.gr G39
  try replace F31 := F31.gr G39
  replace HG := HG.grow G39
  clear G39
  refine V.tN ?_
  refine V.ret ?_
  refine V.done rfl ?_
  exact ⟨congrArg Value.bool (by rw [smM_comm a b]; simp), HG⟩

end Go.Proofs.Ytooiimhcfgjbgaa
