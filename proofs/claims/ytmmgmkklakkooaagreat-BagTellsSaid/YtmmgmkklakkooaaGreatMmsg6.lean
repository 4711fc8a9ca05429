/- Proved here: walks: what functions of this seat's program return and what they leave of memory, each as a contract. Conditions: stated at each theorem. -/
import Derived.Test.YtmmgmkklakkooaaGreatMmsg5
namespace Go.Proofs.YtmmgmkklakkooaaGreat
set_option linter.unusedVariables false
set_option linter.unusedSimpArgs false
open Go
open V (Bytes Meets Env Sl Own Gr Fr Cells S)

def smM (a b : MsgV) : Bool := decide (a.kd = b.kd ∧ a.fr = b.fr ∧ a.to = b.to ∧ a.rg = b.rg ∧ a.te = b.te ∧ a.ix = b.ix) && (decide (a.lt = b.lt ∧ a.co = b.co ∧ a.ok = b.ok) && decide (a.da = b.da) && decide (a.nw = b.nw ∧ a.nl = b.nl)) && decide (a.es = b.es) && smB a.c b.c && smR a.r b.r

set_option maxHeartbeats 900000 in
set_option maxRecDepth 10000 in
theorem msame_spec {w : World} {a : MsgV} {D_pe : Nat → Prop} {c_pe : Nat} {a_pe : Option Addr} (F_pe : Sl V.Cod.ent w D_pe a_pe c_pe a.es) (hD_pe : ∀ k, D_pe k → k < w.heap.size) {D_pd : Nat → Prop} {c_pd : Nat} {a_pd : Option Addr} (F_pd : Sl V.Cod.byte w D_pd a_pd c_pd a.da) (hD_pd : ∀ k, D_pd k → k < w.heap.size) {D_pc : Nat → Prop} {c_pc : Nat} {a_pc : Option Addr} (F_pc : Sl V.Cod.write w D_pc a_pc c_pc a.c.ws) (hD_pc : ∀ k, D_pc k → k < w.heap.size) {D_pp : Nat → Prop} {c_pp : Nat} {a_pp : Option Addr} (F_pp : Sl (V.Cod.pair V.Cod.str V.Cod.str) w D_pp a_pp c_pp a.r.ps) (hD_pp : ∀ k, D_pp k → k < w.heap.size) {D_pr : Nat → Prop} {c_pr : Nat} {a_pr : Option Addr} (F_pr : Sl V.Cod.write w D_pr a_pr c_pr a.r.rc.ws) (hD_pr : ∀ k, D_pr k → k < w.heap.size) {b : MsgV} {D_qe : Nat → Prop} {c_qe : Nat} {a_qe : Option Addr} (F_qe : Sl V.Cod.ent w D_qe a_qe c_qe b.es) (hD_qe : ∀ k, D_qe k → k < w.heap.size) {D_qd : Nat → Prop} {c_qd : Nat} {a_qd : Option Addr} (F_qd : Sl V.Cod.byte w D_qd a_qd c_qd b.da) (hD_qd : ∀ k, D_qd k → k < w.heap.size) {D_qc : Nat → Prop} {c_qc : Nat} {a_qc : Option Addr} (F_qc : Sl V.Cod.write w D_qc a_qc c_qc b.c.ws) (hD_qc : ∀ k, D_qc k → k < w.heap.size) {D_qp : Nat → Prop} {c_qp : Nat} {a_qp : Option Addr} (F_qp : Sl (V.Cod.pair V.Cod.str V.Cod.str) w D_qp a_qp c_qp b.r.ps) (hD_qp : ∀ k, D_qp k → k < w.heap.size) {D_qr : Nat → Prop} {c_qr : Nat} {a_qr : Option Addr} (F_qr : Sl V.Cod.write w D_qr a_qr c_qr b.r.rc.ws) (hD_qr : ∀ k, D_qr k → k < w.heap.size)   :
    Meets Tryz.prog 26 [.agg #[.int .i64 a.kd, .int .i64 a.fr, .int .i64 a.to, .int .i64 a.rg, .int .i64 a.te, .int .i64 a.ix, .int .i64 a.lt, .int .i64 a.co, .bool a.ok, .slice a_pe a.es.length c_pe, .slice a_pd a.da.length c_pd, .int .i64 a.nw, .int .i64 a.nl, .int .i64 a.c.kd, .int .i64 a.c.id, .int .i64 a.c.le, .int .i64 a.c.nd, .int .i64 a.c.ti, .int .i64 a.c.te, .string a.c.an, .int .i64 a.c.sw, .int .i64 a.c.sl, .int .i64 a.c.sq, .string a.c.fr, .string a.c.to, .string a.c.va, .bool a.c.go, .int .i64 a.c.aw, .int .i64 a.c.al, .int .i64 a.c.lw, .int .i64 a.c.ll, .bool a.c.cm, .bool a.c.st, .slice a_pc a.c.ws.length c_pc, .int .i64 a.c.pr, .int .i64 a.r.er, .int .i64 a.r.aw, .int .i64 a.r.al, .slice a_pp a.r.ps.length c_pp, .bool a.r.fo, .int .i64 a.r.ti, .int .i64 a.r.te, .string a.r.an, .int .i64 a.r.sw, .int .i64 a.r.sl, .int .i64 a.r.rc.id, .int .i64 a.r.rc.ep, .int .i64 a.r.rc.st, .int .i64 a.r.rc.aw, .int .i64 a.r.rc.al, .int .i64 a.r.rc.bw, .int .i64 a.r.rc.bl, .slice a_pr a.r.rc.ws.length c_pr], .agg #[.int .i64 b.kd, .int .i64 b.fr, .int .i64 b.to, .int .i64 b.rg, .int .i64 b.te, .int .i64 b.ix, .int .i64 b.lt, .int .i64 b.co, .bool b.ok, .slice a_qe b.es.length c_qe, .slice a_qd b.da.length c_qd, .int .i64 b.nw, .int .i64 b.nl, .int .i64 b.c.kd, .int .i64 b.c.id, .int .i64 b.c.le, .int .i64 b.c.nd, .int .i64 b.c.ti, .int .i64 b.c.te, .string b.c.an, .int .i64 b.c.sw, .int .i64 b.c.sl, .int .i64 b.c.sq, .string b.c.fr, .string b.c.to, .string b.c.va, .bool b.c.go, .int .i64 b.c.aw, .int .i64 b.c.al, .int .i64 b.c.lw, .int .i64 b.c.ll, .bool b.c.cm, .bool b.c.st, .slice a_qc b.c.ws.length c_qc, .int .i64 b.c.pr, .int .i64 b.r.er, .int .i64 b.r.aw, .int .i64 b.r.al, .slice a_qp b.r.ps.length c_qp, .bool b.r.fo, .int .i64 b.r.ti, .int .i64 b.r.te, .string b.r.an, .int .i64 b.r.sw, .int .i64 b.r.sl, .int .i64 b.r.rc.id, .int .i64 b.r.rc.ep, .int .i64 b.r.rc.st, .int .i64 b.r.rc.aw, .int .i64 b.r.rc.al, .int .i64 b.r.rc.bw, .int .i64 b.r.rc.bl, .slice a_qr b.r.rc.ws.length c_qr]] w fun r w' => r = .bool (smM a b) ∧ Gr w w' := by
 have HG := V.Fr.refl [] w
 refine V.enter (n := 105) Tryz.func26 rfl rfl (by decide) rfl ?_
 refine V.sr ?_
 refine V.box rfl rfl rfl rfl ?_
 rintro k1 w3 s5 s6 G4 Fk2
 have z7 := V.Fr.size G4
 try simp only [V.cellsL, V.spliceL] at Fk2
 refine V.box rfl rfl rfl rfl ?_
 rintro k8 w10 s12 s13 G11 Fk9
 have z14 := V.Fr.size G11
 try simp only [V.cellsL, V.spliceL] at Fk9
 refine V.ru 1 ?_
 refine V.nt ?_
 replace F_pe := F_pe.gr (G4.trans G11)
 replace F_pd := F_pd.gr (G4.trans G11)
 replace F_pc := F_pc.gr (G4.trans G11)
 replace F_pp := F_pp.gr (G4.trans G11)
 replace F_pr := F_pr.gr (G4.trans G11)
 replace F_qe := F_qe.gr (G4.trans G11)
 replace F_qd := F_qd.gr (G4.trans G11)
 replace F_qc := F_qc.gr (G4.trans G11)
 replace F_qp := F_qp.gr (G4.trans G11)
 replace F_qr := F_qr.gr (G4.trans G11)
 replace Fk2 := Fk2.gr G11
 replace HG := HG.grow (G4.trans G11)
 refine V.seqJ (fun e v16 => Fr [] w v16 ∧ w10.heap.size ≤ v16.heap.size ∧ Sl V.Cod.ent v16 D_pe a_pe c_pe a.es ∧ Sl V.Cod.byte v16 D_pd a_pd c_pd a.da ∧ Sl V.Cod.write v16 D_pc a_pc c_pc a.c.ws ∧ Sl (V.Cod.pair V.Cod.str V.Cod.str) v16 D_pp a_pp c_pp a.r.ps ∧ Sl V.Cod.write v16 D_pr a_pr c_pr a.r.rc.ws ∧ Sl V.Cod.ent v16 D_qe a_qe c_qe b.es ∧ Sl V.Cod.byte v16 D_qd a_qd c_qd b.da ∧ Sl V.Cod.write v16 D_qc a_qc c_qc b.c.ws ∧ Sl (V.Cod.pair V.Cod.str V.Cod.str) v16 D_qp a_qp c_qp b.r.ps ∧ Sl V.Cod.write v16 D_qr a_qr c_qr b.r.rc.ws ∧ Cells v16 k1 [.int .i64 a.kd, .int .i64 a.fr, .int .i64 a.to, .int .i64 a.rg, .int .i64 a.te, .int .i64 a.ix, .int .i64 a.lt, .int .i64 a.co, .bool a.ok, .slice a_pe a.es.length c_pe, .slice a_pd a.da.length c_pd, .int .i64 a.nw, .int .i64 a.nl, .int .i64 a.c.kd, .int .i64 a.c.id, .int .i64 a.c.le, .int .i64 a.c.nd, .int .i64 a.c.ti, .int .i64 a.c.te, .string a.c.an, .int .i64 a.c.sw, .int .i64 a.c.sl, .int .i64 a.c.sq, .string a.c.fr, .string a.c.to, .string a.c.va, .bool a.c.go, .int .i64 a.c.aw, .int .i64 a.c.al, .int .i64 a.c.lw, .int .i64 a.c.ll, .bool a.c.cm, .bool a.c.st, .slice a_pc a.c.ws.length c_pc, .int .i64 a.c.pr, .int .i64 a.r.er, .int .i64 a.r.aw, .int .i64 a.r.al, .slice a_pp a.r.ps.length c_pp, .bool a.r.fo, .int .i64 a.r.ti, .int .i64 a.r.te, .string a.r.an, .int .i64 a.r.sw, .int .i64 a.r.sl, .int .i64 a.r.rc.id, .int .i64 a.r.rc.ep, .int .i64 a.r.rc.st, .int .i64 a.r.rc.aw, .int .i64 a.r.rc.al, .int .i64 a.r.rc.bw, .int .i64 a.r.rc.bl, .slice a_pr a.r.rc.ws.length c_pr] 50 ∧ Cells v16 k8 [.int .i64 b.kd, .int .i64 b.fr, .int .i64 b.to, .int .i64 b.rg, .int .i64 b.te, .int .i64 b.ix, .int .i64 b.lt, .int .i64 b.co, .bool b.ok, .slice a_qe b.es.length c_qe, .slice a_qd b.da.length c_qd, .int .i64 b.nw, .int .i64 b.nl, .int .i64 b.c.kd, .int .i64 b.c.id, .int .i64 b.c.le, .int .i64 b.c.nd, .int .i64 b.c.ti, .int .i64 b.c.te, .string b.c.an, .int .i64 b.c.sw, .int .i64 b.c.sl, .int .i64 b.c.sq, .string b.c.fr, .string b.c.to, .string b.c.va, .bool b.c.go, .int .i64 b.c.aw, .int .i64 b.c.al, .int .i64 b.c.lw, .int .i64 b.c.ll, .bool b.c.cm, .bool b.c.st, .slice a_qc b.c.ws.length c_qc, .int .i64 b.c.pr, .int .i64 b.r.er, .int .i64 b.r.aw, .int .i64 b.r.al, .slice a_qp b.r.ps.length c_qp, .bool b.r.fo, .int .i64 b.r.ti, .int .i64 b.r.te, .string b.r.an, .int .i64 b.r.sw, .int .i64 b.r.sl, .int .i64 b.r.rc.id, .int .i64 b.r.rc.ep, .int .i64 b.r.rc.st, .int .i64 b.r.rc.aw, .int .i64 b.r.rc.al, .int .i64 b.r.rc.bw, .int .i64 b.r.rc.bl, .slice a_qr b.r.rc.ws.length c_qr] 50 ∧ e 2 = .pointer (some ⟨k1, 0, none⟩) ∧ e 3 = .pointer (some ⟨k8, 0, none⟩) ∧ e 5 = .bool (decide (a.kd = b.kd ∧ a.fr = b.fr ∧ a.to = b.to ∧ a.rg = b.rg ∧ a.te = b.te ∧ a.ix = b.ix)) ∧ True) ?_ ?_
 ·
  refine V.region ?_
  refine V.ru 1 ?_
  refine V.loadO T_ok Fk2 rfl rfl rfl rfl rfl ?_
  refine V.ru 1 ?_
  refine V.loadO T_ok Fk9 rfl rfl rfl rfl rfl ?_
  refine V.ru 2 ?_
  refine V.split (j := 5) (t := 12) rfl rfl (fun g1_5 => ?_) (fun g1_5 => ?_)
  ·
   try replace g1_5 := V.dec g1_5
   try simp only [V.mk] at g1_5
   refine V.ru 1 ?_
   refine V.yes rfl rfl rfl ?_
   refine V.loadO T_ok Fk2 rfl rfl rfl rfl rfl ?_
   refine V.ru 1 ?_
   refine V.yes rfl rfl rfl ?_
   refine V.loadO T_ok Fk9 rfl rfl rfl rfl rfl ?_
   refine V.ru 3 ?_
   refine V.split (j := 12) (t := 19) rfl rfl (fun g1_12 => ?_) (fun g1_12 => ?_)
   ·
    try replace g1_12 := V.dec g1_12
    try simp only [V.mk] at g1_12
    refine V.ru 1 ?_
    refine V.yes rfl rfl rfl ?_
    refine V.loadO T_ok Fk2 rfl rfl rfl rfl rfl ?_
    refine V.ru 1 ?_
    refine V.yes rfl rfl rfl ?_
    refine V.loadO T_ok Fk9 rfl rfl rfl rfl rfl ?_
    refine V.ru 3 ?_
    refine V.split (j := 19) (t := 26) rfl rfl (fun g1_19 => ?_) (fun g1_19 => ?_)
    ·
     try replace g1_19 := V.dec g1_19
     try simp only [V.mk] at g1_19
     refine V.ru 1 ?_
     refine V.yes rfl rfl rfl ?_
     refine V.loadO T_ok Fk2 rfl rfl rfl rfl rfl ?_
     refine V.ru 1 ?_
     refine V.yes rfl rfl rfl ?_
     refine V.loadO T_ok Fk9 rfl rfl rfl rfl rfl ?_
     refine V.ru 3 ?_
     refine V.split (j := 26) (t := 33) rfl rfl (fun g1_26 => ?_) (fun g1_26 => ?_)
     ·
      try replace g1_26 := V.dec g1_26
      try simp only [V.mk] at g1_26
      refine V.ru 1 ?_
      refine V.yes rfl rfl rfl ?_
      refine V.loadO T_ok Fk2 rfl rfl rfl rfl rfl ?_
      refine V.ru 1 ?_
      refine V.yes rfl rfl rfl ?_
      refine V.loadO T_ok Fk9 rfl rfl rfl rfl rfl ?_
      refine V.ru 3 ?_
      refine V.split (j := 33) (t := 40) rfl rfl (fun g1_33 => ?_) (fun g1_33 => ?_)
      ·
       try replace g1_33 := V.dec g1_33
       try simp only [V.mk] at g1_33
       refine V.ru 1 ?_
       refine V.yes rfl rfl rfl ?_
       refine V.loadO T_ok Fk2 rfl rfl rfl rfl rfl ?_
       refine V.ru 1 ?_
       refine V.yes rfl rfl rfl ?_
       refine V.loadO T_ok Fk9 rfl rfl rfl rfl rfl ?_
       refine V.ru 3 ?_
       refine V.nt ?_
       exact ⟨HG, (by omega), F_pe, F_pd, F_pc, F_pp, F_pr, F_qe, F_qd, F_qc, F_qp, F_qr, Fk2, Fk9, rfl, rfl, (congrArg Value.bool (by first | rfl | grind)), trivial⟩
      ·
       try replace g1_33 := V.dec g1_33
       try simp only [V.mk] at g1_33
       refine V.ru 7 ?_
       refine V.nt ?_
       exact ⟨HG, (by omega), F_pe, F_pd, F_pc, F_pp, F_pr, F_qe, F_qd, F_qc, F_qp, F_qr, Fk2, Fk9, rfl, rfl, (congrArg Value.bool (by first | rfl | grind)), trivial⟩
     ·
      try replace g1_26 := V.dec g1_26
      try simp only [V.mk] at g1_26
      refine V.ru 14 ?_
      refine V.nt ?_
      exact ⟨HG, (by omega), F_pe, F_pd, F_pc, F_pp, F_pr, F_qe, F_qd, F_qc, F_qp, F_qr, Fk2, Fk9, rfl, rfl, (congrArg Value.bool (by first | rfl | grind)), trivial⟩
    ·
     try replace g1_19 := V.dec g1_19
     try simp only [V.mk] at g1_19
     refine V.ru 21 ?_
     refine V.nt ?_
     exact ⟨HG, (by omega), F_pe, F_pd, F_pc, F_pp, F_pr, F_qe, F_qd, F_qc, F_qp, F_qr, Fk2, Fk9, rfl, rfl, (congrArg Value.bool (by first | rfl | grind)), trivial⟩
   ·
    try replace g1_12 := V.dec g1_12
    try simp only [V.mk] at g1_12
    refine V.ru 28 ?_
    refine V.nt ?_
    exact ⟨HG, (by omega), F_pe, F_pd, F_pc, F_pp, F_pr, F_qe, F_qd, F_qc, F_qp, F_qr, Fk2, Fk9, rfl, rfl, (congrArg Value.bool (by first | rfl | grind)), trivial⟩
  ·
   try replace g1_5 := V.dec g1_5
   try simp only [V.mk] at g1_5
   refine V.ru 35 ?_
   refine V.nt ?_
   exact ⟨HG, (by omega), F_pe, F_pd, F_pc, F_pp, F_pr, F_qe, F_qd, F_qc, F_qp, F_qr, Fk2, Fk9, rfl, rfl, (congrArg Value.bool (by first | rfl | grind)), trivial⟩
 clear HG F_pe F_pd F_pc F_pp F_pr F_qe F_qd F_qc F_qp F_qr Fk2 Fk9
 rintro e v16 ⟨HG, z17, F_pe, F_pd, F_pc, F_pp, F_pr, F_qe, F_qd, F_qc, F_qp, F_qr, Fk2, Fk9, hjn15_2, hjn15_3, hjn15_5, -⟩
 refine V.knownC (t := 2) hjn15_2 ?_
 refine V.knownC (t := 3) hjn15_3 ?_
 refine V.knownC (t := 5) hjn15_5 ?_
 refine V.seqJ (fun e v19 => Fr [] w v19 ∧ v16.heap.size ≤ v19.heap.size ∧ Sl V.Cod.ent v19 D_pe a_pe c_pe a.es ∧ Sl V.Cod.byte v19 D_pd a_pd c_pd a.da ∧ Sl V.Cod.write v19 D_pc a_pc c_pc a.c.ws ∧ Sl (V.Cod.pair V.Cod.str V.Cod.str) v19 D_pp a_pp c_pp a.r.ps ∧ Sl V.Cod.write v19 D_pr a_pr c_pr a.r.rc.ws ∧ Sl V.Cod.ent v19 D_qe a_qe c_qe b.es ∧ Sl V.Cod.byte v19 D_qd a_qd c_qd b.da ∧ Sl V.Cod.write v19 D_qc a_qc c_qc b.c.ws ∧ Sl (V.Cod.pair V.Cod.str V.Cod.str) v19 D_qp a_qp c_qp b.r.ps ∧ Sl V.Cod.write v19 D_qr a_qr c_qr b.r.rc.ws ∧ Cells v19 k1 [.int .i64 a.kd, .int .i64 a.fr, .int .i64 a.to, .int .i64 a.rg, .int .i64 a.te, .int .i64 a.ix, .int .i64 a.lt, .int .i64 a.co, .bool a.ok, .slice a_pe a.es.length c_pe, .slice a_pd a.da.length c_pd, .int .i64 a.nw, .int .i64 a.nl, .int .i64 a.c.kd, .int .i64 a.c.id, .int .i64 a.c.le, .int .i64 a.c.nd, .int .i64 a.c.ti, .int .i64 a.c.te, .string a.c.an, .int .i64 a.c.sw, .int .i64 a.c.sl, .int .i64 a.c.sq, .string a.c.fr, .string a.c.to, .string a.c.va, .bool a.c.go, .int .i64 a.c.aw, .int .i64 a.c.al, .int .i64 a.c.lw, .int .i64 a.c.ll, .bool a.c.cm, .bool a.c.st, .slice a_pc a.c.ws.length c_pc, .int .i64 a.c.pr, .int .i64 a.r.er, .int .i64 a.r.aw, .int .i64 a.r.al, .slice a_pp a.r.ps.length c_pp, .bool a.r.fo, .int .i64 a.r.ti, .int .i64 a.r.te, .string a.r.an, .int .i64 a.r.sw, .int .i64 a.r.sl, .int .i64 a.r.rc.id, .int .i64 a.r.rc.ep, .int .i64 a.r.rc.st, .int .i64 a.r.rc.aw, .int .i64 a.r.rc.al, .int .i64 a.r.rc.bw, .int .i64 a.r.rc.bl, .slice a_pr a.r.rc.ws.length c_pr] 50 ∧ Cells v19 k8 [.int .i64 b.kd, .int .i64 b.fr, .int .i64 b.to, .int .i64 b.rg, .int .i64 b.te, .int .i64 b.ix, .int .i64 b.lt, .int .i64 b.co, .bool b.ok, .slice a_qe b.es.length c_qe, .slice a_qd b.da.length c_qd, .int .i64 b.nw, .int .i64 b.nl, .int .i64 b.c.kd, .int .i64 b.c.id, .int .i64 b.c.le, .int .i64 b.c.nd, .int .i64 b.c.ti, .int .i64 b.c.te, .string b.c.an, .int .i64 b.c.sw, .int .i64 b.c.sl, .int .i64 b.c.sq, .string b.c.fr, .string b.c.to, .string b.c.va, .bool b.c.go, .int .i64 b.c.aw, .int .i64 b.c.al, .int .i64 b.c.lw, .int .i64 b.c.ll, .bool b.c.cm, .bool b.c.st, .slice a_qc b.c.ws.length c_qc, .int .i64 b.c.pr, .int .i64 b.r.er, .int .i64 b.r.aw, .int .i64 b.r.al, .slice a_qp b.r.ps.length c_qp, .bool b.r.fo, .int .i64 b.r.ti, .int .i64 b.r.te, .string b.r.an, .int .i64 b.r.sw, .int .i64 b.r.sl, .int .i64 b.r.rc.id, .int .i64 b.r.rc.ep, .int .i64 b.r.rc.st, .int .i64 b.r.rc.aw, .int .i64 b.r.rc.al, .int .i64 b.r.rc.bw, .int .i64 b.r.rc.bl, .slice a_qr b.r.rc.ws.length c_qr] 50 ∧ e 2 = .pointer (some ⟨k1, 0, none⟩) ∧ e 3 = .pointer (some ⟨k8, 0, none⟩) ∧ e 5 = .bool (decide (a.kd = b.kd ∧ a.fr = b.fr ∧ a.to = b.to ∧ a.rg = b.rg ∧ a.te = b.te ∧ a.ix = b.ix)) ∧ e 6 = .bool (decide (a.lt = b.lt ∧ a.co = b.co ∧ a.ok = b.ok) && decide (a.da = b.da) && decide (a.nw = b.nw ∧ a.nl = b.nl)) ∧ True) ?_ ?_
 ·
  refine V.region ?_
  refine V.ru 1 ?_
  refine V.loadO T_ok Fk2 rfl rfl rfl rfl rfl ?_
  refine V.ru 1 ?_
  refine V.loadO T_ok Fk9 rfl rfl rfl rfl rfl ?_
  refine V.ru 2 ?_
  refine V.split (j := 5) (t := 52) rfl rfl (fun g2_5 => ?_) (fun g2_5 => ?_)
  ·
   try replace g2_5 := V.dec g2_5
   try simp only [V.mk] at g2_5
   refine V.ru 1 ?_
   refine V.yes rfl rfl rfl ?_
   refine V.loadO T_ok Fk2 rfl rfl rfl rfl rfl ?_
   refine V.ru 1 ?_
   refine V.yes rfl rfl rfl ?_
   refine V.loadO T_ok Fk9 rfl rfl rfl rfl rfl ?_
   refine V.ru 3 ?_
   refine V.split (j := 12) (t := 59) rfl rfl (fun g2_12 => ?_) (fun g2_12 => ?_)
   ·
    try replace g2_12 := V.dec g2_12
    try simp only [V.mk] at g2_12
    refine V.ru 1 ?_
    refine V.yes rfl rfl rfl ?_
    refine V.loadO T_ok Fk2 rfl rfl rfl rfl rfl ?_
    refine V.ru 1 ?_
    refine V.yes rfl rfl rfl ?_
    refine V.loadO T_ok Fk9 rfl rfl rfl rfl rfl ?_
    refine V.ru 3 ?_
    refine V.split (j := 19) (t := 66) rfl rfl (fun g2_19 => ?_) (fun g2_19 => ?_)
    ·
     try replace g2_19 := V.dec g2_19
     try simp only [V.mk] at g2_19
     refine V.ru 1 ?_
     refine V.yes rfl rfl rfl ?_
     refine V.loadO T_ok Fk2 rfl rfl rfl rfl rfl ?_
     refine V.ru 1 ?_
     refine V.yes rfl rfl rfl ?_
     refine V.loadO T_ok Fk9 rfl rfl rfl rfl rfl ?_
     refine V.yes rfl rfl rfl ?_
     refine V.call (equal_spec F_pd F_qd) rfl rfl rfl ?_
     rintro _ v16_ ⟨rfl, rfl⟩
     refine V.ru 2 ?_
     refine V.split (j := 26) (t := 73) rfl rfl (fun g2_26 => ?_) (fun g2_26 => ?_)
     ·
      try replace g2_26 := V.dec g2_26
      try simp only [V.mk] at g2_26
      refine V.ru 1 ?_
      refine V.yes rfl rfl rfl ?_
      refine V.loadO T_ok Fk2 rfl rfl rfl rfl rfl ?_
      refine V.ru 1 ?_
      refine V.yes rfl rfl rfl ?_
      refine V.loadO T_ok Fk9 rfl rfl rfl rfl rfl ?_
      refine V.yes rfl rfl rfl ?_
      refine V.step rfl rfl (V.eqA_run rfl rfl rfl eqG33 (eqS33 _)) ?_
      refine V.ru 2 ?_
      refine V.nt ?_
      exact ⟨HG, (by omega), F_pe, F_pd, F_pc, F_pp, F_pr, F_qe, F_qd, F_qc, F_qp, F_qr, Fk2, Fk9, rfl, rfl, rfl, (congrArg Value.bool (by first | rfl | grind)), trivial⟩
     ·
      try replace g2_26 := V.dec g2_26
      try simp only [V.mk] at g2_26
      refine V.ru 7 ?_
      refine V.nt ?_
      exact ⟨HG, (by omega), F_pe, F_pd, F_pc, F_pp, F_pr, F_qe, F_qd, F_qc, F_qp, F_qr, Fk2, Fk9, rfl, rfl, rfl, (congrArg Value.bool (by first | rfl | grind)), trivial⟩
    ·
     try replace g2_19 := V.dec g2_19
     try simp only [V.mk] at g2_19
     refine V.ru 14 ?_
     refine V.nt ?_
     exact ⟨HG, (by omega), F_pe, F_pd, F_pc, F_pp, F_pr, F_qe, F_qd, F_qc, F_qp, F_qr, Fk2, Fk9, rfl, rfl, rfl, (congrArg Value.bool (by first | rfl | grind)), trivial⟩
   ·
    try replace g2_12 := V.dec g2_12
    try simp only [V.mk] at g2_12
    refine V.ru 21 ?_
    refine V.nt ?_
    exact ⟨HG, (by omega), F_pe, F_pd, F_pc, F_pp, F_pr, F_qe, F_qd, F_qc, F_qp, F_qr, Fk2, Fk9, rfl, rfl, rfl, (congrArg Value.bool (by first | rfl | grind)), trivial⟩
  ·
   try replace g2_5 := V.dec g2_5
   try simp only [V.mk] at g2_5
   refine V.ru 28 ?_
   refine V.nt ?_
   exact ⟨HG, (by omega), F_pe, F_pd, F_pc, F_pp, F_pr, F_qe, F_qd, F_qc, F_qp, F_qr, Fk2, Fk9, rfl, rfl, rfl, (congrArg Value.bool (by first | rfl | grind)), trivial⟩
 clear HG F_pe F_pd F_pc F_pp F_pr F_qe F_qd F_qc F_qp F_qr Fk2 Fk9
 rintro e v19 ⟨HG, z21, F_pe, F_pd, F_pc, F_pp, F_pr, F_qe, F_qd, F_qc, F_qp, F_qr, Fk2, Fk9, hjn18_2, hjn18_3, hjn18_5, hjn18_6, -⟩
 refine V.knownC (t := 2) hjn18_2 ?_
 refine V.knownC (t := 3) hjn18_3 ?_
 refine V.knownC (t := 5) hjn18_5 ?_
 refine V.knownC (t := 6) hjn18_6 ?_
 refine V.sr ?_
 refine V.ru 2 ?_
 refine V.andG T_ok 1 1 81 rfl rfl rfl rfl rfl rfl rfl rfl ?_
 refine V.ru 1 ?_
 refine V.split (j := 4) (t := 84) rfl rfl (fun g3_4 => ?_) (fun g3_4 => ?_)
 ·
  try replace g3_4 := V.dec g3_4
  try simp only [V.mk] at g3_4
  refine V.ru 1 ?_
  refine V.yes rfl rfl rfl ?_
  refine V.loadO T_ok Fk2 rfl rfl rfl rfl rfl ?_
  refine V.ru 1 ?_
  refine V.yes rfl rfl rfl ?_
  refine V.loadO T_ok Fk9 rfl rfl rfl rfl rfl ?_
  refine V.yes rfl rfl rfl ?_
  refine V.call (eqfun_spec F_pe (fun k hk => by have := hD_pe k hk; omega) F_qe (fun k hk => by have := hD_qe k hk; omega)) rfl rfl rfl ?_
  rintro _ w22 ⟨rfl, G23⟩
  have z24 := V.Fr.size G23
  refine V.ru 2 ?_
  refine V.split (j := 11) (t := 91) rfl rfl (fun g3_11 => ?_) (fun g3_11 => ?_)
  ·
   try replace g3_11 := V.dec g3_11
   try simp only [V.mk] at g3_11
   refine V.ru 1 ?_
   refine V.yes rfl rfl rfl ?_
   replace Fk2 := Fk2.gr G23
   refine V.loadO T_ok Fk2 rfl rfl rfl rfl rfl ?_
   refine V.ru 1 ?_
   refine V.yes rfl rfl rfl ?_
   replace Fk9 := Fk9.gr G23
   refine V.loadO T_ok Fk9 rfl rfl rfl rfl rfl ?_
   refine V.yes rfl rfl rfl ?_
   replace F_pc := F_pc.gr G23
   replace F_qc := F_qc.gr G23
   refine V.call (calike_spec (c := a.c) (d := b.c) F_pc (fun k hk => by have := hD_pc k hk; omega) F_qc (fun k hk => by have := hD_qc k hk; omega)) rfl rfl rfl ?_
   rintro _ w25 ⟨rfl, G26⟩
   have z27 := V.Fr.size G26
   refine V.ru 2 ?_
   refine V.split (j := 18) (t := 98) rfl rfl (fun g3_18 => ?_) (fun g3_18 => ?_)
   ·
    try replace g3_18 := V.dec g3_18
    try simp only [V.mk] at g3_18
    refine V.ru 1 ?_
    refine V.yes rfl rfl rfl ?_
    replace Fk2 := Fk2.gr G26
    refine V.loadO T_ok Fk2 rfl rfl rfl rfl rfl ?_
    refine V.ru 1 ?_
    refine V.yes rfl rfl rfl ?_
    replace Fk9 := Fk9.gr G26
    refine V.loadO T_ok Fk9 rfl rfl rfl rfl rfl ?_
    refine V.yes rfl rfl rfl ?_
    replace F_pp := F_pp.gr (G23.trans G26)
    replace F_pr := F_pr.gr (G23.trans G26)
    replace F_qp := F_qp.gr (G23.trans G26)
    replace F_qr := F_qr.gr (G23.trans G26)
    refine V.call (sameres_spec (a := a.r) (b := b.r) F_pp (fun k hk => by have := hD_pp k hk; omega) F_pr (fun k hk => by have := hD_pr k hk; omega) F_qp (fun k hk => by have := hD_qp k hk; omega) F_qr (fun k hk => by have := hD_qr k hk; omega)) rfl rfl rfl ?_
    rintro _ w25_ ⟨rfl, G29⟩
    have z30 := V.Fr.size G29
    refine V.ru 2 ?_
    refine V.nt ?_
    refine V.ret ?_
    refine V.done rfl ?_
    replace HG := HG.grow (G23.trans (G26.trans G29))
    exact ⟨(congrArg Value.bool (by first | rfl | (unfold smM; grind))), HG⟩
   ·
    try replace g3_18 := V.dec g3_18
    try simp only [V.mk] at g3_18
    refine V.ru 7 ?_
    refine V.nt ?_
    refine V.ret ?_
    refine V.done rfl ?_
    replace HG := HG.grow (G23.trans G26)
    exact ⟨(congrArg Value.bool (by first | rfl | (unfold smM; grind))), HG⟩
  ·
   try replace g3_11 := V.dec g3_11
   try simp only [V.mk] at g3_11
   refine V.ru 14 ?_
   refine V.nt ?_
   refine V.ret ?_
   refine V.done rfl ?_
   replace HG := HG.grow G23
   exact ⟨(congrArg Value.bool (by first | rfl | (unfold smM; grind))), HG⟩
 ·
  try replace g3_4 := V.dec g3_4
  try simp only [V.mk] at g3_4
  refine V.ru 21 ?_
  refine V.nt ?_
  refine V.ret ?_
  refine V.done rfl ?_
  exact ⟨(congrArg Value.bool (by first | rfl | (unfold smM; grind))), HG⟩

/-! ### The sum finds what is turned within 32 bits -/
theorem crc1_xor (a b : BitVec 32) : crc1 (a ^^^ b) = crc1 a ^^^ crc1 b := by
  rw [crc1_lsb, crc1_lsb, crc1_lsb, BitVec.getLsbD_xor, shr_xor]
  generalize a >>> 1 = x
  generalize b >>> 1 = y
  cases a.getLsbD 0 <;> cases b.getLsbD 0 <;> simp <;> ext i <;> simp <;> (generalize x[i] = p; generalize y[i] = q; generalize (poly)[i] = r; cases p <;> cases q <;> cases r <;> rfl)
theorem crc1_bit (a : BitVec 32) (i : Nat) (hi : i < 32) : (crc1 a).getLsbD i = (a.getLsbD (i + 1) ^^ (a.getLsbD 0 && poly.getLsbD i)) := by
  rw [crc1_lsb]
  cases h : a.getLsbD 0 <;> simp [hi, Nat.add_comm]
theorem crc1_inj0 {a : BitVec 32} (h : crc1 a = 0#32) : a = 0#32 := by
  have h0 : a.getLsbD 0 = false := by
    have := crc1_bit a 31 (by decide)
    rw [h] at this
    have hp : poly.getLsbD 31 = true := by decide +kernel
    have h32 : a.getLsbD 32 = false := BitVec.getLsbD_of_ge a 32 (by decide)
    rw [h32, hp] at this
    simpa using this.symm
  apply BitVec.eq_of_getLsbD_eq
  intro i hi
  rw [BitVec.getLsbD_zero]
  cases i with
  | zero => exact h0
  | succ i =>
    have := crc1_bit a i (by omega)
    rw [h, h0] at this
    simpa using this.symm
theorem crc1_inj {a b : BitVec 32} (h : crc1 a = crc1 b) : a = b := by
  have h1 : crc1 (a ^^^ b) = 0#32 := by rw [crc1_xor, h, BitVec.xor_self]
  exact BitVec.xor_eq_zero_iff.1 (crc1_inj0 h1)
theorem crcK_succ (n : Nat) (a : BitVec 32) : crcK (n + 1) a = crc1 (crcK n a) := by rw [crcK]
theorem crcK_succ' : ∀ (n : Nat) (a : BitVec 32), crcK (n + 1) a = crcK n (crc1 a)
  | 0, a => by rw [crcK_succ, crcK, crcK]
  | n + 1, a => by rw [crcK_succ, crcK_succ' n a, crcK_succ]
theorem crcK_inj {a b : BitVec 32} : ∀ {n : Nat}, crcK n a = crcK n b → a = b
  | 0, h => by simpa [crcK] using h
  | n + 1, h => crcK_inj (crc1_inj (by rw [crcK_succ, crcK_succ] at h; exact h))
def b2w (b : Bool) : BitVec 32 := if b then 1#32 else 0#32
def step1 (s : BitVec 32) (b : Bool) : BitVec 32 := crc1 (s ^^^ b2w b)
def ser (s : BitVec 32) (l : List Bool) : BitVec 32 := l.foldl step1 s
def wordB : List Bool → BitVec 32
  | [] => 0#32
  | b :: u => b2w b ^^^ (wordB u <<< 1)
theorem b2w_bit (b : Bool) (i : Nat) : (b2w b).getLsbD i = (decide (i = 0) && b) := by
  cases b
  · simp [b2w]
  · by_cases h : i = 0 <;> simp [b2w, BitVec.getLsbD_one, h]
theorem wordB_bit : ∀ (u : List Bool) (i : Nat), i < 32 → (wordB u).getLsbD i = u.getD i false
  | [], i, hi => by simp [wordB]
  | b :: u, i, hi => by
    rw [wordB, BitVec.getLsbD_xor, b2w_bit, BitVec.getLsbD_shiftLeft]
    cases i with
    | zero => simp
    | succ i => rw [Nat.add_sub_cancel, wordB_bit u i (by omega)]; simp [hi]
theorem crc1_shl (z : BitVec 32) (h : z.getLsbD 31 = false) : crc1 (z <<< 1) = z := by
  apply BitVec.eq_of_getLsbD_eq
  intro i hi
  rw [crc1_bit _ _ hi, BitVec.getLsbD_shiftLeft, BitVec.getLsbD_shiftLeft]
  by_cases h31 : i = 31
  · subst h31; simp; rw [← BitVec.getLsbD_eq_getElem]; exact h
  · have : i + 1 < 32 := by omega
    simp [this]
theorem ser_word : ∀ (u : List Bool) (s : BitVec 32), u.length ≤ 32 → ser s u = crcK u.length (s ^^^ wordB u)
  | [], s, _ => by simp [ser, wordB, crcK]
  | b :: u, s, h => by
    simp only [List.length_cons] at h
    have h31 : (wordB u).getLsbD 31 = false := by
      rw [wordB_bit u 31 (by decide), List.getD_eq_getElem?_getD, List.getElem?_eq_none (by omega)]; rfl
    have e1 : ser s (b :: u) = ser (step1 s b) u := rfl
    rw [e1, ser_word u _ (by omega), List.length_cons, crcK_succ', wordB, ← BitVec.xor_assoc, crc1_xor, crc1_shl _ h31]; rfl
theorem ser_inj : ∀ (t : List Bool) {a b : BitVec 32}, ser a t = ser b t → a = b
  | [], a, b, h => h
  | x :: t, a, b, h => by
    have := crc1_inj (ser_inj t (a := step1 a x) (b := step1 b x) h)
    have h2 := congrArg (· ^^^ b2w x) this
    simpa [BitVec.xor_assoc] using h2
theorem ser_append (s : BitVec 32) (a b : List Bool) : ser s (a ++ b) = ser (ser s a) b := by simp [ser]
theorem ser_window {p u u' t : List Bool} {s : BitVec 32} (hl : u.length = u'.length) (h32 : u.length ≤ 32) (h : ser s (p ++ u ++ t) = ser s (p ++ u' ++ t)) : u = u' := by
  rw [ser_append, ser_append, ser_append, ser_append] at h
  have h1 := ser_inj t h
  rw [ser_word u _ h32, ser_word u' _ (by omega), hl] at h1
  have h2 := crcK_inj h1
  have h3 : wordB u = wordB u' := by
    have := congrArg (ser s p ^^^ ·) h2
    simpa [← BitVec.xor_assoc] using this
  apply List.ext_getElem hl
  intro i h1 h2
  have e1 := wordB_bit u i (by omega)
  have e2 := wordB_bit u' i (by omega)
  rw [h3, e2] at e1
  rw [List.getD_eq_getElem?_getD, List.getD_eq_getElem?_getD, List.getElem?_eq_getElem h1, List.getElem?_eq_getElem h2] at e1
  simpa using e1.symm
/-! bytes as bits -/
def bits8 (c : UInt8) : List Bool := (List.range 8).map fun k => c.toNat.testBit k
def bitsL (l : List UInt8) : List Bool := l.flatMap bits8
theorem bits8_len (c : UInt8) : (bits8 c).length = 8 := by simp [bits8]
theorem bitsL_len : ∀ (l : List UInt8), (bitsL l).length = 8 * l.length
  | [] => rfl
  | c :: l => by
    have := bitsL_len l
    simp only [bitsL, List.flatMap_cons, List.length_append, bits8_len, List.length_cons] at this ⊢
    omega
theorem bOf_bit (c : UInt8) (k : Nat) : (bOf c >>> k).getLsbD 0 = c.toNat.testBit k := by
  rw [BitVec.getLsbD_ushiftRight, BitVec.getLsbD, bOf_toNat, Nat.add_zero]
theorem refS_step (s : BitVec 32) (c : UInt8) (k : Nat) : refS s c (k + 1) = step1 (refS s c k) (c.toNat.testBit k) := by
  have h1 : (b2w (c.toNat.testBit k)) >>> 1 = 0#32 := by cases c.toNat.testBit k <;> decide
  rw [refS_next, bOf_bit, step1, crc1_lsb, BitVec.getLsbD_xor, b2w_bit, shr_xor, h1, BitVec.xor_zero]
  cases (refS s c k).getLsbD 0 <;> cases c.toNat.testBit k <;> rfl
theorem ser_byte (s : BitVec 32) (c : UInt8) : crcB s c = ser s (bits8 c) := by
  have h : ∀ k, refS s c k = ser s ((List.range k).map fun k => c.toNat.testBit k) := by
    intro k
    induction k with
    | zero => rw [refS_zero]; rfl
    | succ k ih => rw [refS_step, ih, List.range_succ, List.map_append, ser_append]; rfl
  have h8 := h 8
  rw [refS_eight] at h8
  exact h8
theorem ser_bytes (s : BitVec 32) : ∀ (l : List UInt8), l.foldl crcB s = ser s (bitsL l) := by
  intro l
  induction l generalizing s with
  | nil => rfl
  | cons c l ih => simp only [List.foldl_cons, bitsL, List.flatMap_cons, ser_append]; rw [ser_byte, ih]; rfl
theorem crcL_bits (l : List UInt8) : crcL l = ser 0xFFFFFFFF#32 (bitsL l) := by
  unfold crcL; exact ser_bytes _ l
theorem sum_window {l l' : List UInt8} {p u u' t : List Bool} (h1 : bitsL l = p ++ u ++ t) (h2 : bitsL l' = p ++ u' ++ t) (hl : u.length = u'.length) (h32 : u.length ≤ 32) (h : sumB l = sumB l') : u = u' := by
  have h3 : crcL l = crcL l' := by
    unfold sumB at h
    have := congrArg (~~~ ·) h
    simpa using this
  rw [crcL_bits, crcL_bits, h1, h2] at h3
  exact ser_window hl h32 h3
theorem bits8_get (c : UInt8) (k : Nat) (hk : k < 8) : (bits8 c)[k]? = some (c.toNat.testBit k) := by
  simp [bits8, hk]
theorem bitsL_get : ∀ (l : List UInt8) (k : Nat), (bitsL l)[k]? = (l[k / 8]?).map fun c => c.toNat.testBit (k % 8)
  | [], k => by simp [bitsL]
  | c :: l, k => by
    simp only [bitsL, List.flatMap_cons]
    by_cases hk : k < 8
    · rw [List.getElem?_append_left (by rw [bits8_len]; exact hk), bits8_get c k hk, Nat.div_eq_of_lt hk, Nat.mod_eq_of_lt hk]; rfl
    · rw [List.getElem?_append_right (by rw [bits8_len]; omega), bits8_len]
      have := bitsL_get l (k - 8)
      simp only [bitsL] at this
      rw [this, show k / 8 = (k - 8) / 8 + 1 by omega, show k % 8 = (k - 8) % 8 by omega, List.getElem?_cons_succ]
theorem bitsL_inj {l l' : List UInt8} (hl : l.length = l'.length) (h : bitsL l = bitsL l') : l = l' := by
  apply List.ext_getElem hl
  intro i h1 h2
  apply UInt8.toNat_inj.1
  apply Nat.eq_of_testBit_eq
  intro j
  by_cases hj : j < 8
  · have e1 := bitsL_get l (8 * i + j)
    have e2 := bitsL_get l' (8 * i + j)
    rw [h, e2, show (8 * i + j) / 8 = i by omega, show (8 * i + j) % 8 = j by omega, List.getElem?_eq_getElem h1, List.getElem?_eq_getElem h2] at e1
    simpa using e1.symm
  · have hp : 2 ^ 8 ≤ 2 ^ j := Nat.pow_le_pow_right (by decide) (by omega)
    have l1 := l[i].toNat_lt
    have l2 := l'[i].toNat_lt
    rw [Nat.testBit_lt_two_pow (by omega), Nat.testBit_lt_two_pow (by omega)]
/-- bytes of which only bits from a on, 32 of them, differ, have another sum -/
theorem sum_burst {l l' : List UInt8} (a : Nat) (hl : l.length = l'.length) (h : ∀ k, ¬ (a ≤ k ∧ k < a + 32) → (bitsL l)[k]? = (bitsL l')[k]?) (hs : sumB l = sumB l') : l = l' := by
  have cut : ∀ b : List Bool, b = b.take a ++ (b.drop a).take 32 ++ b.drop (a + 32) := by
    intro b
    rw [List.append_assoc, ← List.drop_drop, List.take_append_drop, List.take_append_drop]
  have hlen : (bitsL l).length = (bitsL l').length := by rw [bitsL_len, bitsL_len, hl]
  have hp : (bitsL l).take a = (bitsL l').take a := by
    apply List.ext_getElem?
    intro k
    rw [List.getElem?_take, List.getElem?_take]
    split
    · exact h k (by omega)
    · rfl
  have ht : (bitsL l).drop (a + 32) = (bitsL l').drop (a + 32) := by
    apply List.ext_getElem?
    intro k
    rw [List.getElem?_drop, List.getElem?_drop]
    exact h _ (by omega)
  have h1 := cut (bitsL l)
  have h2 := cut (bitsL l')
  rw [← hp, ← ht] at h2
  have hu := sum_window h1 h2 (by simp [hlen]) (by simp; omega) hs
  apply bitsL_inj hl
  rw [h1, h2, hu]
/-! one bit turned -/
def flip1 (l : List UInt8) (k : Nat) : List UInt8 := l.set (k / 8) (l.getD (k / 8) 0 ^^^ UInt8.ofNat (2 ^ (k % 8)))
theorem flip1_len (l : List UInt8) (k : Nat) : (flip1 l k).length = l.length := by simp [flip1]
theorem flip1_bits (l : List UInt8) (k j : Nat) (hk : k < 8 * l.length) : (bitsL (flip1 l k))[j]? = if j = k then ((bitsL l)[j]?).map (!·) else (bitsL l)[j]? := by
  rw [bitsL_get, bitsL_get, flip1, List.getElem?_set]
  by_cases hb : k / 8 = j / 8
  · have hlt : j / 8 < l.length := by omega
    rw [if_pos hb, if_pos (show k / 8 < l.length by omega), List.getD_eq_getElem?_getD, hb, List.getElem?_eq_getElem hlt]
    simp only [Option.getD_some, Option.map_some]
    have hx : (l[j / 8] ^^^ UInt8.ofNat (2 ^ (k % 8))).toNat.testBit (j % 8) = (l[j / 8].toNat.testBit (j % 8) ^^ decide (k % 8 = j % 8)) := by
      have h2 : (UInt8.ofNat (2 ^ (k % 8))).toNat = 2 ^ (k % 8) := by
        have : 2 ^ (k % 8) ≤ 2 ^ 7 := Nat.pow_le_pow_right (by decide) (by omega)
        simp only [UInt8.toNat_ofNat']
        exact Nat.mod_eq_of_lt (by omega)
      rw [UInt8.toNat_xor, Nat.testBit_xor, h2, Nat.testBit_two_pow]
    rw [hx]
    by_cases hj : j = k
    · subst hj; simp
    · rw [if_neg hj, decide_eq_false (by omega)]; simp
  · rw [if_neg hb, if_neg (by omega)]
theorem flip1_sum {l : List UInt8} {k : Nat} (hk : k < 8 * l.length) : sumB (flip1 l k) ≠ sumB l := by
  intro hs
  have he := sum_burst (l := flip1 l k) (l' := l) k (flip1_len l k) (fun j hj => by rw [flip1_bits l k j hk, if_neg (by omega)]) hs
  have hb := flip1_bits l k k hk
  rw [he, if_pos rfl, List.getElem?_eq_getElem (by rw [bitsL_len]; omega)] at hb
  simp at hb
/-! frames -/
theorem fourI_be (n : Nat) (h : n < 4294967296) : beN (fourI (n : Int)) = BitVec.ofNat 32 n := by
  have e := of4 (b := fourI (n : Int)) (x := UInt8.ofNat (n / 16777216)) (y := UInt8.ofNat (n / 65536)) (z := UInt8.ofNat (n / 256)) (u := UInt8.ofNat n) (h := by simp [fourI]) rfl rfl rfl rfl
  have h4 : (fourI (n : Int)).take 4 = fourI (n : Int) := rfl
  rw [h4] at e
  apply BitVec.eq_of_toNat_eq
  simp only [BitVec.toNat_ofNat]
  simp only [UInt8.toNat_ofNat'] at e
  generalize (beN _).toNat = m at e ⊢
  rw [V.wrap_u32 (x := ((n / 16777216 % 2 ^ 8 : Nat) : Int) * 256) (by omega) (by omega), V.wrap_u32 (x := ((n / 16777216 % 2 ^ 8 : Nat) : Int) * 256 + ((n / 65536 % 2 ^ 8 : Nat) : Int)) (by omega) (by omega),
    V.wrap_u32 (x := (((n / 16777216 % 2 ^ 8 : Nat) : Int) * 256 + ((n / 65536 % 2 ^ 8 : Nat) : Int)) * 256) (by omega) (by omega),
    V.wrap_u32 (x := (((n / 16777216 % 2 ^ 8 : Nat) : Int) * 256 + ((n / 65536 % 2 ^ 8 : Nat) : Int)) * 256 + ((n / 256 % 2 ^ 8 : Nat) : Int)) (by omega) (by omega),
    V.wrap_u32 (x := ((((n / 16777216 % 2 ^ 8 : Nat) : Int) * 256 + ((n / 65536 % 2 ^ 8 : Nat) : Int)) * 256 + ((n / 256 % 2 ^ 8 : Nat) : Int)) * 256) (by omega) (by omega), V.wrap_u32 (by omega) (by omega)] at e
  omega
theorem firstB_mk (n : Nat) (s : BitVec 32) (r : List UInt8) (hn : n < 4294967296) : firstB (fourI (n : Int) ++ fourI (s.toNat : Int) ++ r) = if n ≠ 0 ∧ n ≤ 65536 ∧ n ≤ r.length ∧ sumB (r.take n) = s then some (r.take n) else none := by
  have e1 : (fourI (n : Int) ++ fourI (s.toNat : Int) ++ r).take 4 = fourI (n : Int) := rfl
  have e2 : ((fourI (n : Int) ++ fourI (s.toNat : Int) ++ r).drop 4).take 4 = fourI (s.toNat : Int) := rfl
  have e3 : (fourI (n : Int) ++ fourI (s.toNat : Int) ++ r).drop 8 = r := rfl
  have e4 : (fourI (n : Int) ++ fourI (s.toNat : Int) ++ r).length = r.length + 8 := by simp [fourI]
  have hs := s.isLt
  have e5 : beN (fourI (s.toNat : Int)) = s := by
    rw [fourI_be _ hs]; exact BitVec.ofNat_toNat _ _ |>.trans (by simp)
  have e6 : (beN (fourI (n : Int))).toNat = n := by
    rw [fourI_be _ hn, BitVec.toNat_ofNat]; omega
  unfold firstB secB
  rw [e1, e2, e3, e4, e5, e6]
  by_cases h : n ≠ 0 ∧ n ≤ 65536 ∧ n ≤ r.length ∧ sumB (r.take n) = s
  · rw [if_pos h, if_pos ⟨by omega, h.1, h.2.1, by omega, h.2.2.2⟩]
  · rw [if_neg h, if_neg (fun h2 => h ⟨h2.2.1, h2.2.2.1, by omega, h2.2.2.2.2⟩)]
def frm (b : List UInt8) : List UInt8 := fourI (b.length : Int) ++ fourI (sumB b).toNat ++ b
theorem frm_len (b : List UInt8) : (frm b).length = b.length + 8 := by simp [frm, fourI]
theorem frmB_ok {b : List UInt8} (h0 : 0 < b.length) (h : b.length ≤ 65536) : frmB b = (frm b, 0) := by unfold frmB frm; rw [if_neg (by omega)]
theorem first_frm {b r : List UInt8} (h0 : 0 < b.length) (h : b.length ≤ 65536) : firstB (frm b ++ r) = some b := by
  have := firstB_mk b.length (sumB b) (b ++ r) (by omega)
  unfold frm
  rw [List.append_assoc, this, List.take_left, if_pos ⟨by omega, h, by simp, rfl⟩]
theorem first_frm0 {b : List UInt8} (h0 : 0 < b.length) (h : b.length ≤ 65536) : firstB (frm b) = some b := by
  have := first_frm (r := []) h0 h
  rwa [List.append_nil] at this
theorem whole_frm {b : List UInt8} (h0 : 0 < b.length) (h : b.length ≤ 65536) : wholeB (frm b) = (b, 0) := whole_some (first_frm0 h0 h) (by rw [frm_len]; omega)
/-- a frame whose record has another sum is none -/
theorem first_other {b r : List UInt8} (h : b.length ≤ 65536) (hl : r.length = b.length) (hs : sumB r ≠ sumB b) (t : List UInt8) : firstB (fourI (b.length : Int) ++ fourI ((sumB b).toNat : Int) ++ (r ++ t)) = none := by
  rw [firstB_mk _ _ _ (by omega), if_neg (fun h2 => hs (by have := h2.2.2.2; rwa [← hl, List.take_left] at this))]
theorem flip1_app (h l : List UInt8) (k : Nat) : flip1 (h ++ l) (8 * h.length + k) = h ++ flip1 l k := by
  unfold flip1
  have e1 : (8 * h.length + k) / 8 = h.length + k / 8 := by omega
  have e2 : (8 * h.length + k) % 8 = k % 8 := by omega
  rw [e1, e2, List.set_append_right _ _ (by omega), Nat.add_sub_cancel_left]
  congr 3
  rw [List.getD_eq_getElem?_getD, List.getD_eq_getElem?_getD, List.getElem?_append_right (by omega), Nat.add_sub_cancel_left]
theorem first_flip {b t : List UInt8} (h : b.length ≤ 65536) {k : Nat} (hk : k < 8 * b.length) : firstB (flip1 (frm b) (64 + k) ++ t) = none := by
  have e := flip1_app (fourI (b.length : Int) ++ fourI ((sumB b).toNat : Int)) b k
  rw [show 8 * (fourI (b.length : Int) ++ fourI ((sumB b).toNat : Int)).length = 64 by simp [fourI]] at e
  unfold frm
  rw [e, List.append_assoc]
  exact first_other (b := b) (r := flip1 b k) h (flip1_len _ _) (flip1_sum hk) t
theorem S_of (s : ByteArray) : S s.data.toList = s := by
  show (⟨s.data.toList.toArray⟩ : ByteArray) = s
  simp
theorem kN_nb {α : Type} {b : Bool} {v : Int} {r : List UInt8} {k : Int → Bool → List UInt8 → α} (h0 : 0 ≤ v) (h1 : v ≤ 1099511627776) : kN b (nb v ++ r) k = k v b r := by
  have e := rdN_num (v := v.toNat) (most := 1099511627776) (by omega) (by omega) r
  rw [Int.toNat_of_nonneg h0] at e
  unfold kN nb; rw [e]; simp
theorem kT_tb {α : Type} {b : Bool} {s : ByteArray} {r : List UInt8} {k : ByteArray → Bool → List UInt8 → α} (h : s.size ≤ 65536) : kT b (tb s ++ r) k = k s b r := by
  have e := rdT_text (s := s.data.toList) (r := r) (most := 65536) (by rw [V.length_data]; omega) (by rw [V.length_data]; omega)
  unfold kT tb; rw [e]; simp [S_of]
theorem kS_st {α : Type} {b : Bool} {x y : Int} {r : List UInt8} {k : Int → Int → Bool → List UInt8 → α} (h : stR x y) : kS b (stB x y ++ r) k = k x y b r := by
  unfold kS; rw [rdS_stB h]; simp
theorem kF_fl {α : Type} {b f : Bool} {r : List UInt8} {k : Bool → Bool → List UInt8 → α} : kF b (flagB f ++ r) k = k f b r := by
  unfold kF; rw [rdF_flag]; simp
theorem wrL_ws : ∀ (ws acc : List (ByteArray × Int)) (r : List UInt8), (∀ x ∈ ws, x.1.size ≤ 65536 ∧ 0 ≤ x.2 ∧ x.2 ≤ 1099511627776) → wrL ws.length false (ws.flatMap wb ++ r) acc = (false, r, acc ++ ws)
  | [], acc, r, _ => by simp [wrL]
  | x :: ws, acc, r, h => by
    have hx := h x (by simp)
    rw [List.length_cons, List.flatMap_cons]
    unfold wrL
    rw [if_neg (by decide), show wb x ++ ws.flatMap wb ++ r = tb x.1 ++ (nb x.2 ++ (ws.flatMap wb ++ r)) by simp [wb, List.append_assoc], kT_tb hx.1, kN_nb hx.2.1 hx.2.2, wrL_ws ws _ r (fun y hy => h y (by simp [hy]))]
    simp
structure LoOk (d : CmdV) : Prop where
  kd : 0 ≤ d.kd
  id : 0 ≤ d.id
  le : 0 ≤ d.le
  nd : 0 ≤ d.nd
  ti : 0 ≤ d.ti
  te : 0 ≤ d.te
  sq : 0 ≤ d.sq
  pr : 0 ≤ d.pr
  s1 : stR d.sw d.sl
  s2 : stR d.aw d.al
  s3 : stR d.lw d.ll
  wn : ∀ x ∈ d.ws, 0 ≤ x.2
theorem cmd_low {d : CmdV} (h : cmdB d = true) : LoOk d := by
  unfold cmdB at h
  simp only [Bool.and_eq_true] at h
  have hk : nK d.kd = true := h.1.1.1.1.1
  have hf : fldB d = true := h.1.1.1.1.2
  unfold nK at hk
  unfold fldB at hf
  simp only [Bool.and_eq_true, Bool.or_eq_true, decide_eq_true_eq] at hf hk
  obtain ⟨⟨⟨⟨⟨⟨⟨h1, h2⟩, h3⟩, h4⟩, h5⟩, h6⟩, h7⟩, h8⟩ := hf
  simp [numsL, nmB] at h1
  simp [stsL, stB2] at h2
  refine ⟨by omega, by omega, by omega, by omega, by omega, by omega, by omega, by omega, ?_, ?_, ?_, ?_⟩
  · exact ⟨by omega, by omega, by omega, by omega⟩
  · exact ⟨by omega, by omega, by omega, by omega⟩
  · exact ⟨by omega, by omega, by omega, by omega⟩
  · intro x hx
    have := List.all_eq_true.1 h3 x hx
    unfold wkB nmB at this
    simp only [Bool.and_eq_true, decide_eq_true_eq] at this
    exact this.2.1
theorem enc_eq (d : CmdV) (r : List UInt8) : encB d ++ r = nb d.kd ++ (nb d.id ++ (nb d.le ++ (nb d.nd ++ (nb d.ti ++ (nb d.te ++ (tb d.an ++ (stB d.sw d.sl ++ (nb d.sq ++ (tb d.fr ++ (tb d.to ++ (tb d.va ++ (flagB d.go ++ (stB d.aw d.al ++ (stB d.lw d.ll ++ (flagB d.cm ++ (flagB d.st ++ (nb d.ws.length ++ (d.ws.flatMap wb ++ (nb d.pr ++ r))))))))))))))))))) := by
  simp [encB, part6, part5, part4, part3, part2, part1, hdL, txL, List.append_assoc]
/-- what is right is read as it was -/
theorem dec_enc {d : CmdV} (h : cmdB d = true) (r : List UInt8) : decAll (encB d ++ r) = (d, false, r) := by
  have hs := cmd_small h
  have hl := cmd_low h
  rw [enc_eq]
  unfold decAll
  rw [kN_nb hl.kd (by have := hs.kd; omega), kN_nb hl.id hs.id, kN_nb hl.le hs.le, kN_nb hl.nd (by have := hs.nd; omega), kN_nb hl.ti hs.ti, kN_nb hl.te hs.te, kT_tb (by have := hs.an; omega), kS_st hl.s1, kN_nb hl.sq hs.sq, kT_tb (by have := hs.fr; omega), kT_tb (by have := hs.to; omega), kT_tb (by have := hs.va; omega), kF_fl, kS_st hl.s2, kS_st hl.s3, kF_fl, kF_fl, kN_nb (by omega) (by have := hs.wl; omega), Int.toNat_natCast,
    wrL_ws d.ws [] _ (fun x hx => ⟨by have := (hs.wn x hx).1; omega, hl.wn x hx, (hs.wn x hx).2⟩)]
  unfold decEnd
  rw [kN_nb hl.pr hs.pr]
  simp
theorem decC_enc {c : CmdV} (h : cmdB c = true) : decC (encB c) = some c := by
  have e := dec_enc h []
  rw [List.append_nil] at e
  exact decC_yes e rfl rfl h
theorem smB_self (d : CmdV) : smB d d = true := by simp [smB]
theorem smB_eq {c d : CmdV} : smB c d = true ↔ c = d := by
  constructor
  · intro h
    simp only [smB, Bool.and_eq_true, decide_eq_true_eq] at h
    cases c; cases d; simp only [CmdV.mk.injEq] at *; simp_all
  · rintro rfl; exact smB_self c
theorem smR_eq {a b : ResV} : smR a b = true ↔ a = b := by
  constructor
  · intro h
    simp only [smR, Bool.and_eq_true, decide_eq_true_eq, sameR_eq] at h
    cases a; cases b; simp only [ResV.mk.injEq] at *; simp_all
  · rintro rfl; simp [smR, sameR_self]
theorem smM_eq {a b : MsgV} : smM a b = true ↔ a = b := by
  constructor
  · intro h
    simp only [smM, Bool.and_eq_true, decide_eq_true_eq, smB_eq, smR_eq] at h
    cases a; cases b; simp only [MsgV.mk.injEq] at *; simp_all
  · rintro rfl; simp [smM, smB_self, (smR_eq (a := a.r)).2 rfl]
theorem smM_self (a : MsgV) : smM a a = true := smM_eq.2 rfl
theorem kT_bytes {α : Type} {b : Bool} {l r : List UInt8} {k : ByteArray → Bool → List UInt8 → α} (h : l.length ≤ 65536) : kT b (textB l ++ r) k = k (S l) b r := by
  have e := kT_tb (b := b) (s := S l) (r := r) (k := k) (by rw [V.S_size]; omega)
  exact e
theorem enL_es : ∀ (es acc : List (Int × List UInt8)) (r : List UInt8), (∀ x ∈ es, (0 ≤ x.1 ∧ x.1 ≤ 1099511627776) ∧ x.2.length ≤ 32768) → enL es.length false (es.flatMap entb ++ r) acc = (false, r, acc ++ es)
  | [], acc, r, _ => by simp [enL]
  | x :: es, acc, r, h => by
    have hx := h x (by simp)
    rw [List.length_cons, List.flatMap_cons]
    unfold enL
    rw [if_neg (by decide), show entb x ++ es.flatMap entb ++ r = nb x.1 ++ (textB x.2 ++ (es.flatMap entb ++ r)) by simp [entb, List.append_assoc], kN_nb hx.1.1 hx.1.2, kT_bytes (by omega), enL_es es _ r (fun y hy => h y (by simp [hy]))]
    simp
theorem ents_es {es : List (Int × List UInt8)} {r : List UInt8} (hl : es.length ≤ 8) (h : ∀ x ∈ es, (0 ≤ x.1 ∧ x.1 ≤ 1099511627776) ∧ x.2.length ≤ 32768) : ents false (nb es.length ++ (es.flatMap entb ++ r)) = (false, r, es) := by
  unfold ents
  rw [kN_nb (by omega) (by omega), Int.toNat_natCast, enL_es es [] r h]; rfl
theorem kE_es {α : Type} {es : List (Int × List UInt8)} {r : List UInt8} {k : List (Int × List UInt8) → Bool → List UInt8 → α} (hl : es.length ≤ 8) (h : ∀ x ∈ es, (0 ≤ x.1 ∧ x.1 ≤ 1099511627776) ∧ x.2.length ≤ 32768) : kE false (nb es.length ++ (es.flatMap entb ++ r)) k = k es false r := by
  unfold kE; rw [ents_es hl h]
theorem kvL_ps : ∀ (ps acc : List (ByteArray × ByteArray)) (r : List UInt8), (∀ x ∈ ps, x.1.size ≤ 8 ∧ x.2.size ≤ 16) → kvL ps.length false (ps.flatMap kvb ++ r) acc = (false, r, acc ++ ps)
  | [], acc, r, _ => by simp [kvL]
  | x :: ps, acc, r, h => by
    have hx := h x (by simp)
    rw [List.length_cons, List.flatMap_cons]
    unfold kvL
    rw [if_neg (by decide), show kvb x ++ ps.flatMap kvb ++ r = tb x.1 ++ (tb x.2 ++ (ps.flatMap kvb ++ r)) by simp [kvb, List.append_assoc], kT_tb (by omega), kT_tb (by omega), kvL_ps ps _ r (fun y hy => h y (by simp [hy]))]
    simp
theorem kR_rec {α : Type} {b : Bool} {x : RecV} {r : List UInt8} {k : RecV → Bool → List UInt8 → α} (h : recB x = true) : kR b (recBy x ++ r) k = k x b r := by
  unfold kR; rw [rec_back h]; simp
structure LoR (x : ResV) : Prop where
  n : 0 ≤ x.er ∧ 0 ≤ x.ti ∧ 0 ≤ x.te
  s : stR x.aw x.al ∧ stR x.sw x.sl
  rc : recB x.rc = true
theorem res_low {x : ResV} (h : resB x = true) : LoR x := by
  unfold resB at h
  simp only [Bool.and_eq_true, Bool.or_eq_true, decide_eq_true_eq] at h
  obtain ⟨⟨⟨⟨⟨⟨⟨⟨h1, h2⟩, h3⟩, h4⟩, h5⟩, h6, h7⟩, h8⟩, h9⟩, h10⟩ := h
  unfold nmB at h1 h2
  unfold stB2 at h6 h7
  rw [decide_eq_true_eq] at h1 h2 h6 h7
  dsimp only at h6 h7
  exact ⟨⟨h3, h1.1, h2.1⟩, ⟨⟨by omega, by omega, by omega, by omega⟩, ⟨by omega, by omega, by omega, by omega⟩⟩, h9⟩
theorem res_eq (x : ResV) (r : List UInt8) : resBy x ++ r = nb x.er ++ (stB x.aw x.al ++ (nb x.ps.length ++ (x.ps.flatMap kvb ++ (flagB x.fo ++ (nb x.ti ++ (nb x.te ++ (tb x.an ++ (stB x.sw x.sl ++ (recBy x.rc ++ r))))))))) := by
  simp [resBy, rp3, rp2, rp1, List.append_assoc]
theorem resL_enc {x : ResV} (h : resB x = true) (r : List UInt8) : resL false (resBy x ++ r) = (x, false, r) := by
  have hs := res_small h
  have hl := res_low h
  obtain ⟨a1, a2, a3⟩ := hs.n
  obtain ⟨b1, b2, b3⟩ := hl.n
  rw [res_eq]
  unfold resL
  rw [kN_nb b1 a1, kS_st hl.s.1, kN_nb (by omega) (by have := hs.pl; omega), Int.toNat_natCast, kvL_ps x.ps [] _ hs.pw]
  unfold resEnd
  rw [kF_fl, kN_nb b2 a2, kN_nb b3 a3, kT_tb (by have := hs.an; omega), kS_st hl.s.2, kR_rec hl.rc]
  simp
theorem hd_of {m : MsgV} (h : SmM m) : ((0 ≤ m.kd ∧ m.kd ≤ 1099511627776) ∧ (0 ≤ m.fr ∧ m.fr ≤ 1099511627776) ∧ (0 ≤ m.to ∧ m.to ≤ 1099511627776) ∧ (0 ≤ m.rg ∧ m.rg ≤ 1099511627776)) ∧ (0 ≤ m.te ∧ m.te ≤ 1099511627776) ∧ (0 ≤ m.ix ∧ m.ix ≤ 1099511627776) ∧ (0 ≤ m.lt ∧ m.lt ≤ 1099511627776) ∧ (0 ≤ m.co ∧ m.co ≤ 1099511627776) := by
  have := h.h
  simp only [hdM, List.mem_cons, List.not_mem_nil, or_false, forall_eq_or_imp, forall_eq] at this
  exact ⟨⟨this.1, this.2.1, this.2.2.1, this.2.2.2.1⟩, this.2.2.2.2⟩
theorem mp4_eq (m : MsgV) (r : List UInt8) : mp4 m ++ r = nb m.kd ++ (nb m.fr ++ (nb m.to ++ (nb m.rg ++ (nb m.te ++ (nb m.ix ++ (nb m.lt ++ (nb m.co ++ (flagB m.ok ++ (nb m.es.length ++ (m.es.flatMap entb ++ (textB m.da ++ (stB m.nw m.nl ++ r)))))))))))) := by
  simp [mp4, mp3, mp2, mp1, hdM, List.append_assoc]
theorem msg_cr {m : MsgV} (h : msgB m = true) : (¬ m.kd = 6 → m.c = cmdZ) ∧ (¬ m.kd = 7 → m.r = resZ) := by
  unfold msgB at h
  rw [Bool.and_eq_true] at h
  have h12 := h.2
  unfold askB at h12
  rw [Bool.and_eq_true] at h12
  exact ⟨fun hk => smB_eq.1 (by have := h12.1; rwa [if_neg hk] at this), fun hk => smR_eq.1 (by have := h12.2; rwa [if_neg hk] at this)⟩
/-- what is right is read as it was -/
theorem dec_encM {m : MsgV} (h : msgB m = true) : decAllM (bodyM m) = (m, false, []) := by
  have hs := msg_small h
  obtain ⟨⟨a1, a2, a3, a4⟩, a5, a6, a7, a8⟩ := hd_of hs
  obtain ⟨c1, c2⟩ := msg_cr h
  have key : ∀ r, decAllM (mp4 m ++ r) = (if m.kd = 6 then kT false r fun s b d => kC s b d fun c b d => (⟨m.kd, m.fr, m.to, m.rg, m.te, m.ix, m.lt, m.co, m.ok, m.es, (S m.da).data.toList, m.nw, m.nl, c, resZ⟩, b, d)
      else if m.kd = 7 then kX false r fun x b d => (⟨m.kd, m.fr, m.to, m.rg, m.te, m.ix, m.lt, m.co, m.ok, m.es, (S m.da).data.toList, m.nw, m.nl, cmdZ, x⟩, b, d)
      else (⟨m.kd, m.fr, m.to, m.rg, m.te, m.ix, m.lt, m.co, m.ok, m.es, (S m.da).data.toList, m.nw, m.nl, cmdZ, resZ⟩, false, r)) := by
    intro r
    rw [mp4_eq]
    unfold decAllM
    rw [kN_nb a1.1 a1.2, kN_nb a2.1 a2.2, kN_nb a3.1 a3.2, kN_nb a4.1 a4.2, kN_nb a5.1 a5.2, kN_nb a6.1 a6.2, kN_nb a7.1 a7.2, kN_nb a8.1 a8.2, kF_fl, kE_es hs.el hs.ew, kT_bytes (by have := hs.dl; omega), kS_st hs.s]
  unfold bodyM
  by_cases k6 : m.kd = 6
  · have hc := hs.c k6
    have hr := c2 (by omega)
    have he := enc_len hc
    have e := key (textB (encB m.c) ++ [])
    rw [if_pos k6, kT_bytes (by omega)] at e
    unfold kC at e
    rw [show (S (encB m.c)).data.toList = encB m.c from rfl, decC_enc hc] at e
    rw [if_pos k6]
    rw [List.append_nil] at e
    rw [e]
    simp only [Option.getD_some, Option.isSome_some, ↓reduceIte]
    rw [← hr]; rfl
  · rw [if_neg k6]
    have hc := c1 k6
    by_cases k7 : m.kd = 7
    · have e := key (resBy m.r ++ [])
      rw [if_neg k6, if_pos k7] at e
      unfold kX at e
      rw [resL_enc (hs.r k7)] at e
      rw [if_pos k7]
      rw [List.append_nil] at e
      rw [e, ← hc]; rfl
    · have e := key []
      rw [if_neg k6, if_neg k7, List.append_nil] at e
      rw [if_neg k7, e, ← hc, ← c2 k7]; rfl
theorem encM_ok {m : MsgV} (h : encE m = 0) : msgB m = true ∧ (bodyM m).length ≤ 65536 ∧ encM m = frm (bodyM m) ∧ 0 < (bodyM m).length := by
  unfold encE at h
  by_cases hc : msgB m = true ∧ (bodyM m).length ≤ 65536
  · have hp := (msg_len (msg_small hc.1)).2.2.2.2
    refine ⟨hc.1, hc.2, ?_, hp⟩
    unfold encM; rw [if_pos hc, frmB_ok hp hc.2]
  · rw [if_neg hc] at h; simp at h
theorem decM_enc {m : MsgV} (h : encE m = 0) : decMsg (encM m) = some m := by
  obtain ⟨h1, h2, h3, h4⟩ := encM_ok h
  rw [h3]
  have hw := whole_frm h4 h2
  exact decM_yes (by rw [hw]) (by rw [hw]) (dec_encM h1) rfl rfl h1
end Go.Proofs.YtmmgmkklakkooaaGreat
