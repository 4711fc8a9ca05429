/- Proved here: walks: what functions of this seat's program return and what they leave of memory, each as a contract. Conditions: stated at each theorem. -/
import Derived.Test.YtmmgmkklakkooaaGreatMrec
namespace Go.Proofs.YtmmgmkklakkooaaGreat
set_option linter.unusedVariables false
set_option linter.unusedSimpArgs false
open Go
open V (Bytes Meets Env Sl Own Gr Fr Cells S)

def sameR (d e : RecV) : Bool := decide (d.id = e.id ∧ d.ep = e.ep ∧ d.st = e.st ∧ (d.aw = e.aw ∧ d.al = e.al) ∧ (d.bw = e.bw ∧ d.bl = e.bl) ∧ d.ws = e.ws)
theorem sameR_self (d : RecV) : sameR d d = true := by simp [sameR]
theorem sameR_eq {d e : RecV} : sameR d e = true ↔ d = e := by
  cases d; cases e
  simp only [sameR, decide_eq_true_eq, RecV.mk.injEq]
  constructor
  · rintro ⟨h1, h2, h3, ⟨h4, h5⟩, ⟨h6, h7⟩, h8⟩; exact ⟨h1, h2, h3, h4, h5, h6, h7, h8⟩
  · rintro ⟨h1, h2, h3, h4, h5, h6, h7, h8⟩; exact ⟨h1, h2, h3, ⟨h4, h5⟩, ⟨h6, h7⟩, h8⟩

set_option maxHeartbeats 900000 in
set_option maxRecDepth 10000 in
theorem same_spec {w : World} {d : RecV} {D_o : Nat → Prop} {c_o : Nat} {a_o : Option Addr} (F_o : Sl V.Cod.write w D_o a_o c_o d.ws) (hD_o : ∀ k, D_o k → k < w.heap.size) {x : RecV} {D_q : Nat → Prop} {c_q : Nat} {a_q : Option Addr} (F_q : Sl V.Cod.write w D_q a_q c_q x.ws) (hD_q : ∀ k, D_q k → k < w.heap.size)   :
    Meets Tryz.prog 83 [.agg #[.int .i64 d.id, .int .i64 d.ep, .int .i64 d.st, .int .i64 d.aw, .int .i64 d.al, .int .i64 d.bw, .int .i64 d.bl, .slice a_o d.ws.length c_o], .agg #[.int .i64 x.id, .int .i64 x.ep, .int .i64 x.st, .int .i64 x.aw, .int .i64 x.al, .int .i64 x.bw, .int .i64 x.bl, .slice a_q x.ws.length c_q]] w fun r w' => r = .bool (sameR d x) ∧ Gr w w' := by
 have HG := V.Fr.refl [] w
 refine V.enter (n := 45) Tryz.func83 rfl rfl (by decide) rfl ?_
 refine V.sr ?_
 refine V.box rfl rfl rfl rfl ?_
 rintro k1 w3 s5 s6 G4 Fk2
 have z7 := V.Fr.size G4
 try simp only [V.cellsL, V.spliceL] at Fk2
 refine V.box rfl rfl rfl rfl ?_
 rintro k8 w10 s12 s13 G11 Fk9
 have z14 := V.Fr.size G11
 try simp only [V.cellsL, V.spliceL] at Fk9
 refine V.ru 1 ?_
 refine V.nt ?_
 refine V.sr ?_
 refine V.ru 1 ?_
 replace Fk2 := Fk2.gr G11
 refine V.loadO T_ok Fk2 rfl rfl rfl rfl rfl ?_
 refine V.ru 1 ?_
 refine V.loadO T_ok Fk9 rfl rfl rfl rfl rfl ?_
 refine V.ru 2 ?_
 refine V.split (j := 5) (t := 10) rfl rfl (fun g1_5 => ?_) (fun g1_5 => ?_)
 ·
  try replace g1_5 := V.dec g1_5
  try simp only [V.mk] at g1_5
  refine V.ru 1 ?_
  refine V.yes rfl rfl rfl ?_
  refine V.loadO T_ok Fk2 rfl rfl rfl rfl rfl ?_
  refine V.ru 1 ?_
  refine V.yes rfl rfl rfl ?_
  refine V.loadO T_ok Fk9 rfl rfl rfl rfl rfl ?_
  refine V.ru 3 ?_
  refine V.split (j := 12) (t := 17) rfl rfl (fun g1_12 => ?_) (fun g1_12 => ?_)
  ·
   try replace g1_12 := V.dec g1_12
   try simp only [V.mk] at g1_12
   refine V.ru 1 ?_
   refine V.yes rfl rfl rfl ?_
   refine V.loadO T_ok Fk2 rfl rfl rfl rfl rfl ?_
   refine V.ru 1 ?_
   refine V.yes rfl rfl rfl ?_
   refine V.loadO T_ok Fk9 rfl rfl rfl rfl rfl ?_
   refine V.ru 3 ?_
   refine V.split (j := 19) (t := 24) rfl rfl (fun g1_19 => ?_) (fun g1_19 => ?_)
   ·
    try replace g1_19 := V.dec g1_19
    try simp only [V.mk] at g1_19
    refine V.ru 1 ?_
    refine V.yes rfl rfl rfl ?_
    refine V.loadO T_ok Fk2 rfl rfl rfl rfl rfl ?_
    refine V.ru 1 ?_
    refine V.yes rfl rfl rfl ?_
    refine V.loadO T_ok Fk9 rfl rfl rfl rfl rfl ?_
    refine V.yes rfl rfl rfl ?_
    refine V.step rfl rfl (V.eqA_run rfl rfl rfl eqG33 (eqS33 _)) ?_
    refine V.ru 2 ?_
    refine V.split (j := 26) (t := 31) rfl rfl (fun g1_26 => ?_) (fun g1_26 => ?_)
    ·
     try replace g1_26 := V.dec g1_26
     try simp only [V.mk] at g1_26
     refine V.ru 1 ?_
     refine V.yes rfl rfl rfl ?_
     refine V.loadO T_ok Fk2 rfl rfl rfl rfl rfl ?_
     refine V.ru 1 ?_
     refine V.yes rfl rfl rfl ?_
     refine V.loadO T_ok Fk9 rfl rfl rfl rfl rfl ?_
     refine V.yes rfl rfl rfl ?_
     refine V.step rfl rfl (V.eqA_run rfl rfl rfl eqG33 (eqS33 _)) ?_
     refine V.ru 2 ?_
     refine V.split (j := 33) (t := 38) rfl rfl (fun g1_33 => ?_) (fun g1_33 => ?_)
     ·
      try replace g1_33 := V.dec g1_33
      try simp only [V.mk] at g1_33
      refine V.ru 1 ?_
      refine V.yes rfl rfl rfl ?_
      refine V.loadO T_ok Fk2 rfl rfl rfl rfl rfl ?_
      refine V.ru 1 ?_
      refine V.yes rfl rfl rfl ?_
      refine V.loadO T_ok Fk9 rfl rfl rfl rfl rfl ?_
      refine V.yes rfl rfl rfl ?_
      replace F_o := F_o.gr (G4.trans G11)
      replace F_q := F_q.gr (G4.trans G11)
      refine V.call (equalW_spec F_o F_q) rfl rfl rfl ?_
      rintro _ w15 ⟨rfl, G16⟩
      have z17 := V.Fr.size G16
      refine V.ru 2 ?_
      refine V.nt ?_
      refine V.ret ?_
      refine V.done rfl ?_
      replace HG := HG.grow (G4.trans (G11.trans G16))
      exact ⟨(congrArg Value.bool (by first | rfl | (simp only [sameR]; grind))), HG⟩
     ·
      try replace g1_33 := V.dec g1_33
      try simp only [V.mk] at g1_33
      refine V.ru 7 ?_
      refine V.nt ?_
      refine V.ret ?_
      refine V.done rfl ?_
      replace HG := HG.grow (G4.trans G11)
      exact ⟨(congrArg Value.bool (by first | rfl | (simp only [sameR]; grind))), HG⟩
    ·
     try replace g1_26 := V.dec g1_26
     try simp only [V.mk] at g1_26
     refine V.ru 14 ?_
     refine V.nt ?_
     refine V.ret ?_
     refine V.done rfl ?_
     replace HG := HG.grow (G4.trans G11)
     exact ⟨(congrArg Value.bool (by first | rfl | (simp only [sameR]; grind))), HG⟩
   ·
    try replace g1_19 := V.dec g1_19
    try simp only [V.mk] at g1_19
    refine V.ru 21 ?_
    refine V.nt ?_
    refine V.ret ?_
    refine V.done rfl ?_
    replace HG := HG.grow (G4.trans G11)
    exact ⟨(congrArg Value.bool (by first | rfl | (simp only [sameR]; grind))), HG⟩
  ·
   try replace g1_12 := V.dec g1_12
   try simp only [V.mk] at g1_12
   refine V.ru 28 ?_
   refine V.nt ?_
   refine V.ret ?_
   refine V.done rfl ?_
   replace HG := HG.grow (G4.trans G11)
   exact ⟨(congrArg Value.bool (by first | rfl | (simp only [sameR]; grind))), HG⟩
 ·
  try replace g1_5 := V.dec g1_5
  try simp only [V.mk] at g1_5
  refine V.ru 35 ?_
  refine V.nt ?_
  refine V.ret ?_
  refine V.done rfl ?_
  replace HG := HG.grow (G4.trans G11)
  exact ⟨(congrArg Value.bool (by first | rfl | (simp only [sameR]; grind))), HG⟩

end Go.Proofs.YtmmgmkklakkooaaGreat
