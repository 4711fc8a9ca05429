/- Proved here: walks: what functions of this seat's program return and what they leave of memory, each as a contract. Conditions: stated at each theorem. -/
import Derived.Test.YtmmgmkklakkooaaGreatMcmd3
namespace Go.Proofs.YtmmgmkklakkooaaGreat
set_option linter.unusedVariables false
set_option linter.unusedSimpArgs false
open Go
open V (Bytes Meets Env Sl Own Gr Fr Cells S)
theorem eqG36 : Tryz.prog.eqGuardType Tryz.prog.depth 36 = false := by kernel_rfl
theorem eqD36 (d : Nat) (w : World) {x0 y0 : Int} {x1 y1 : Int} {x2 y2 : ByteArray} {x3 y3 : Int} {x4 y4 : Int} : (Op.equalIn (d + 3) 36 (.agg #[.int .i64 x0, .int .i64 x1, .string x2, .int .i64 x3, .int .i64 x4]) (.agg #[.int .i64 y0, .int .i64 y1, .string y2, .int .i64 y3, .int .i64 y4])).run Tryz.prog w = .ok ((decide (x0 = y0)) && ((decide (x1 = y1)) && ((decide (x2 = y2)) && (((decide (x3 = y3)) && ((decide (x4 = y4)) && (true))) && (true))))) w :=
  V.eqIn_struct _ Tryz.underlying36 (by kernel_rfl) (V.eqF_cons (agg := false) (by decide) sz3 (by kernel_rfl) (by kernel_rfl) rfl rfl (V.eqIn_int _ Tryz.underlying3) (V.eqF_cons (agg := false) (by decide) sz3 (by kernel_rfl) (by kernel_rfl) rfl rfl (V.eqIn_int _ Tryz.underlying3) (V.eqF_cons (agg := false) (by decide) sz9 (by kernel_rfl) (by kernel_rfl) rfl rfl (V.eqIn_str _ Tryz.underlying9) (V.eqF_cons (agg := true) (by decide) sz33 (by kernel_rfl) (by kernel_rfl) rfl rfl (eqD33 _ w) V.eqF_nil))))
theorem eqS36 (w : World) {x0 y0 : Int} {x1 y1 : Int} {x2 y2 : ByteArray} {x3 y3 : Int} {x4 y4 : Int} : (Op.equalIn 10000 36 (.agg #[.int .i64 x0, .int .i64 x1, .string x2, .int .i64 x3, .int .i64 x4]) (.agg #[.int .i64 y0, .int .i64 y1, .string y2, .int .i64 y3, .int .i64 y4])).run Tryz.prog w = .ok ((decide (x0 = y0)) && ((decide (x1 = y1)) && ((decide (x2 = y2)) && (((decide (x3 = y3)) && ((decide (x4 = y4)) && (true))) && (true))))) w := eqD36 9997 w


set_option maxHeartbeats 900000 in
set_option maxRecDepth 10000 in
theorem calike_spec {w : World} {c : CmdV} {D_p : Nat → Prop} {c_p : Nat} {a_p : Option Addr} (F_p : Sl V.Cod.write w D_p a_p c_p c.ws) (hD_p : ∀ k, D_p k → k < w.heap.size) {d : CmdV} {D_q : Nat → Prop} {c_q : Nat} {a_q : Option Addr} (F_q : Sl V.Cod.write w D_q a_q c_q d.ws) (hD_q : ∀ k, D_q k → k < w.heap.size)   :
    Meets Tryz.prog 43 [.agg #[.int .i64 c.kd, .int .i64 c.id, .int .i64 c.le, .int .i64 c.nd, .int .i64 c.ti, .int .i64 c.te, .string c.an, .int .i64 c.sw, .int .i64 c.sl, .int .i64 c.sq, .string c.fr, .string c.to, .string c.va, .bool c.go, .int .i64 c.aw, .int .i64 c.al, .int .i64 c.lw, .int .i64 c.ll, .bool c.cm, .bool c.st, .slice a_p c.ws.length c_p, .int .i64 c.pr], .agg #[.int .i64 d.kd, .int .i64 d.id, .int .i64 d.le, .int .i64 d.nd, .int .i64 d.ti, .int .i64 d.te, .string d.an, .int .i64 d.sw, .int .i64 d.sl, .int .i64 d.sq, .string d.fr, .string d.to, .string d.va, .bool d.go, .int .i64 d.aw, .int .i64 d.al, .int .i64 d.lw, .int .i64 d.ll, .bool d.cm, .bool d.st, .slice a_q d.ws.length c_q, .int .i64 d.pr]] w fun r w' => r = .bool (smB c d) ∧ Gr w w' := by
 have HG := V.Fr.refl [] w
 refine V.enter (n := 112) Tryz.func43 rfl rfl (by decide) rfl ?_
 refine V.sr ?_
 refine V.box rfl rfl rfl rfl ?_
 rintro k1 w3 s5 s6 G4 Fk2
 have z7 := V.Fr.size G4
 try simp only [V.cellsL, V.spliceL] at Fk2
 refine V.box rfl rfl rfl rfl ?_
 rintro k8 w10 s12 s13 G11 Fk9
 have z14 := V.Fr.size G11
 try simp only [V.cellsL, V.spliceL] at Fk9
 refine V.ru 1 ?_
 refine V.nt ?_
 refine V.sr ?_
 refine V.ru 1 ?_
 replace Fk2 := Fk2.gr G11
 refine V.loadO T_ok Fk2 rfl rfl rfl rfl rfl ?_
 refine V.ru 1 ?_
 refine V.loadO T_ok Fk9 rfl rfl rfl rfl rfl ?_
 refine V.ru 2 ?_
 refine V.split (j := 5) (t := 12) rfl rfl (fun g1_5 => ?_) (fun g1_5 => ?_)
 ·
  try replace g1_5 := V.dec g1_5
  try simp only [V.mk] at g1_5
  refine V.ru 1 ?_
  refine V.yes rfl rfl rfl ?_
  refine V.loadO T_ok Fk2 rfl rfl rfl rfl rfl ?_
  refine V.ru 1 ?_
  refine V.yes rfl rfl rfl ?_
  refine V.loadO T_ok Fk9 rfl rfl rfl rfl rfl ?_
  refine V.ru 3 ?_
  refine V.split (j := 12) (t := 19) rfl rfl (fun g1_12 => ?_) (fun g1_12 => ?_)
  ·
   try replace g1_12 := V.dec g1_12
   try simp only [V.mk] at g1_12
   refine V.ru 1 ?_
   refine V.yes rfl rfl rfl ?_
   refine V.loadO T_ok Fk2 rfl rfl rfl rfl rfl ?_
   refine V.ru 1 ?_
   refine V.yes rfl rfl rfl ?_
   refine V.loadO T_ok Fk9 rfl rfl rfl rfl rfl ?_
   refine V.ru 3 ?_
   refine V.split (j := 19) (t := 26) rfl rfl (fun g1_19 => ?_) (fun g1_19 => ?_)
   ·
    try replace g1_19 := V.dec g1_19
    try simp only [V.mk] at g1_19
    refine V.ru 1 ?_
    refine V.yes rfl rfl rfl ?_
    refine V.loadO T_ok Fk2 rfl rfl rfl rfl rfl ?_
    refine V.ru 1 ?_
    refine V.yes rfl rfl rfl ?_
    refine V.loadO T_ok Fk9 rfl rfl rfl rfl rfl ?_
    refine V.ru 3 ?_
    refine V.split (j := 26) (t := 33) rfl rfl (fun g1_26 => ?_) (fun g1_26 => ?_)
    ·
     try replace g1_26 := V.dec g1_26
     try simp only [V.mk] at g1_26
     refine V.ru 1 ?_
     refine V.yes rfl rfl rfl ?_
     refine V.loadO T_ok Fk2 rfl rfl rfl rfl rfl ?_
     refine V.ru 1 ?_
     refine V.yes rfl rfl rfl ?_
     refine V.loadO T_ok Fk9 rfl rfl rfl rfl rfl ?_
     refine V.yes rfl rfl rfl ?_
     refine V.step rfl rfl (V.eqA_run rfl rfl rfl eqG36 (eqS36 _)) ?_
     refine V.ru 2 ?_
     refine V.split (j := 33) (t := 40) rfl rfl (fun g1_33 => ?_) (fun g1_33 => ?_)
     ·
      try replace g1_33 := V.dec g1_33
      try simp only [V.mk] at g1_33
      refine V.ru 1 ?_
      refine V.yes rfl rfl rfl ?_
      refine V.loadO T_ok Fk2 rfl rfl rfl rfl rfl ?_
      refine V.ru 1 ?_
      refine V.yes rfl rfl rfl ?_
      refine V.loadO T_ok Fk9 rfl rfl rfl rfl rfl ?_
      refine V.ru 3 ?_
      refine V.split (j := 40) (t := 47) rfl rfl (fun g1_40 => ?_) (fun g1_40 => ?_)
      ·
       try replace g1_40 := V.dec g1_40
       try simp only [V.mk] at g1_40
       refine V.ru 1 ?_
       refine V.yes rfl rfl rfl ?_
       refine V.loadO T_ok Fk2 rfl rfl rfl rfl rfl ?_
       refine V.ru 1 ?_
       refine V.yes rfl rfl rfl ?_
       refine V.loadO T_ok Fk9 rfl rfl rfl rfl rfl ?_
       refine V.yes rfl rfl rfl ?_
       refine V.step rfl rfl (V.eqA_run rfl rfl rfl eqG38 (eqS38 _)) ?_
       refine V.ru 2 ?_
       refine V.nt ?_
       refine V.sr ?_
       refine V.ru 1 ?_
       refine V.loadO T_ok Fk2 rfl rfl rfl rfl rfl ?_
       refine V.ru 1 ?_
       refine V.loadO T_ok Fk9 rfl rfl rfl rfl rfl ?_
       refine V.ru 2 ?_
       refine V.split (j := 5) (t := 59) rfl rfl (fun g2_5 => ?_) (fun g2_5 => ?_)
       ·
        try replace g2_5 := V.dec g2_5
        try simp only [V.mk] at g2_5
        refine V.ru 1 ?_
        refine V.yes rfl rfl rfl ?_
        refine V.loadO T_ok Fk2 rfl rfl rfl rfl rfl ?_
        refine V.ru 1 ?_
        refine V.yes rfl rfl rfl ?_
        refine V.loadO T_ok Fk9 rfl rfl rfl rfl rfl ?_
        refine V.ru 3 ?_
        refine V.split (j := 12) (t := 66) rfl rfl (fun g2_12 => ?_) (fun g2_12 => ?_)
        ·
         try replace g2_12 := V.dec g2_12
         try simp only [V.mk] at g2_12
         refine V.ru 1 ?_
         refine V.yes rfl rfl rfl ?_
         refine V.loadO T_ok Fk2 rfl rfl rfl rfl rfl ?_
         refine V.ru 1 ?_
         refine V.yes rfl rfl rfl ?_
         refine V.loadO T_ok Fk9 rfl rfl rfl rfl rfl ?_
         refine V.yes rfl rfl rfl ?_
         refine V.step rfl rfl (V.eqA_run rfl rfl rfl eqG33 (eqS33 _)) ?_
         refine V.ru 2 ?_
         refine V.split (j := 19) (t := 73) rfl rfl (fun g2_19 => ?_) (fun g2_19 => ?_)
         ·
          try replace g2_19 := V.dec g2_19
          try simp only [V.mk] at g2_19
          refine V.ru 1 ?_
          refine V.yes rfl rfl rfl ?_
          refine V.loadO T_ok Fk2 rfl rfl rfl rfl rfl ?_
          refine V.ru 1 ?_
          refine V.yes rfl rfl rfl ?_
          refine V.loadO T_ok Fk9 rfl rfl rfl rfl rfl ?_
          refine V.yes rfl rfl rfl ?_
          refine V.step rfl rfl (V.eqA_run rfl rfl rfl eqG33 (eqS33 _)) ?_
          refine V.ru 2 ?_
          refine V.split (j := 26) (t := 80) rfl rfl (fun g2_26 => ?_) (fun g2_26 => ?_)
          ·
           try replace g2_26 := V.dec g2_26
           try simp only [V.mk] at g2_26
           refine V.ru 1 ?_
           refine V.yes rfl rfl rfl ?_
           refine V.loadO T_ok Fk2 rfl rfl rfl rfl rfl ?_
           refine V.ru 1 ?_
           refine V.yes rfl rfl rfl ?_
           refine V.loadO T_ok Fk9 rfl rfl rfl rfl rfl ?_
           refine V.ru 3 ?_
           refine V.split (j := 33) (t := 87) rfl rfl (fun g2_33 => ?_) (fun g2_33 => ?_)
           ·
            try replace g2_33 := V.dec g2_33
            try simp only [V.mk] at g2_33
            refine V.ru 1 ?_
            refine V.yes rfl rfl rfl ?_
            refine V.loadO T_ok Fk2 rfl rfl rfl rfl rfl ?_
            refine V.ru 1 ?_
            refine V.yes rfl rfl rfl ?_
            refine V.loadO T_ok Fk9 rfl rfl rfl rfl rfl ?_
            refine V.ru 3 ?_
            refine V.split (j := 40) (t := 94) rfl rfl (fun g2_40 => ?_) (fun g2_40 => ?_)
            ·
             try replace g2_40 := V.dec g2_40
             try simp only [V.mk] at g2_40
             refine V.ru 1 ?_
             refine V.yes rfl rfl rfl ?_
             refine V.loadO T_ok Fk2 rfl rfl rfl rfl rfl ?_
             refine V.ru 1 ?_
             refine V.yes rfl rfl rfl ?_
             refine V.loadO T_ok Fk9 rfl rfl rfl rfl rfl ?_
             refine V.ru 3 ?_
             refine V.nt ?_
             refine V.sr ?_
             refine V.ru 2 ?_
             refine V.andG T_ok 1 1 102 rfl rfl rfl rfl rfl rfl rfl rfl ?_
             refine V.ru 1 ?_
             refine V.split (j := 4) (t := 105) rfl rfl (fun g3_4 => ?_) (fun g3_4 => ?_)
             ·
              try replace g3_4 := V.dec g3_4
              try simp only [V.mk] at g3_4
              refine V.ru 1 ?_
              refine V.yes rfl rfl rfl ?_
              refine V.loadO T_ok Fk2 rfl rfl rfl rfl rfl ?_
              refine V.ru 1 ?_
              refine V.yes rfl rfl rfl ?_
              refine V.loadO T_ok Fk9 rfl rfl rfl rfl rfl ?_
              refine V.yes rfl rfl rfl ?_
              replace F_p := F_p.gr (G4.trans G11)
              replace F_q := F_q.gr (G4.trans G11)
              refine V.call (equalW_spec F_p F_q) rfl rfl rfl ?_
              rintro _ w15 ⟨rfl, G16⟩
              have z17 := V.Fr.size G16
              refine V.ru 2 ?_
              refine V.nt ?_
              refine V.ret ?_
              refine V.done rfl ?_
              replace HG := HG.grow (G4.trans (G11.trans G16))
              exact ⟨(congrArg Value.bool (by first | rfl | (unfold smB; grind))), HG⟩
             ·
              try replace g3_4 := V.dec g3_4
              try simp only [V.mk] at g3_4
              refine V.ru 7 ?_
              refine V.nt ?_
              refine V.ret ?_
              refine V.done rfl ?_
              replace HG := HG.grow (G4.trans G11)
              exact ⟨(congrArg Value.bool (by first | rfl | (unfold smB; grind))), HG⟩
            ·
             try replace g2_40 := V.dec g2_40
             try simp only [V.mk] at g2_40
             refine V.ru 7 ?_
             refine V.nt ?_
             refine V.sr ?_
             refine V.ru 2 ?_
             refine V.andG T_ok 1 1 102 rfl rfl rfl rfl rfl rfl rfl rfl ?_
             refine V.ru 1 ?_
             refine V.split (j := 4) (t := 105) rfl rfl (fun g3_4 => ?_) (fun g3_4 => ?_)
             ·
              try replace g3_4 := V.dec g3_4
              try simp only [V.mk] at g3_4
              refine V.ru 1 ?_
              refine V.yes rfl rfl rfl ?_
              refine V.loadO T_ok Fk2 rfl rfl rfl rfl rfl ?_
              refine V.ru 1 ?_
              refine V.yes rfl rfl rfl ?_
              refine V.loadO T_ok Fk9 rfl rfl rfl rfl rfl ?_
              refine V.yes rfl rfl rfl ?_
              replace F_p := F_p.gr (G4.trans G11)
              replace F_q := F_q.gr (G4.trans G11)
              refine V.call (equalW_spec F_p F_q) rfl rfl rfl ?_
              rintro _ w18 ⟨rfl, G19⟩
              have z20 := V.Fr.size G19
              refine V.ru 2 ?_
              refine V.nt ?_
              refine V.ret ?_
              refine V.done rfl ?_
              replace HG := HG.grow (G4.trans (G11.trans G19))
              exact ⟨(congrArg Value.bool (by first | rfl | (unfold smB; grind))), HG⟩
             ·
              try replace g3_4 := V.dec g3_4
              try simp only [V.mk] at g3_4
              refine V.ru 7 ?_
              refine V.nt ?_
              refine V.ret ?_
              refine V.done rfl ?_
              replace HG := HG.grow (G4.trans G11)
              exact ⟨(congrArg Value.bool (by first | rfl | (unfold smB; grind))), HG⟩
           ·
            try replace g2_33 := V.dec g2_33
            try simp only [V.mk] at g2_33
            refine V.ru 14 ?_
            refine V.nt ?_
            refine V.sr ?_
            refine V.ru 2 ?_
            refine V.andG T_ok 1 1 102 rfl rfl rfl rfl rfl rfl rfl rfl ?_
            refine V.ru 1 ?_
            refine V.split (j := 4) (t := 105) rfl rfl (fun g3_4 => ?_) (fun g3_4 => ?_)
            ·
             try replace g3_4 := V.dec g3_4
             try simp only [V.mk] at g3_4
             refine V.ru 1 ?_
             refine V.yes rfl rfl rfl ?_
             refine V.loadO T_ok Fk2 rfl rfl rfl rfl rfl ?_
             refine V.ru 1 ?_
             refine V.yes rfl rfl rfl ?_
             refine V.loadO T_ok Fk9 rfl rfl rfl rfl rfl ?_
             refine V.yes rfl rfl rfl ?_
             replace F_p := F_p.gr (G4.trans G11)
             replace F_q := F_q.gr (G4.trans G11)
             refine V.call (equalW_spec F_p F_q) rfl rfl rfl ?_
             rintro _ w21 ⟨rfl, G22⟩
             have z23 := V.Fr.size G22
             refine V.ru 2 ?_
             refine V.nt ?_
             refine V.ret ?_
             refine V.done rfl ?_
             replace HG := HG.grow (G4.trans (G11.trans G22))
             exact ⟨(congrArg Value.bool (by first | rfl | (unfold smB; grind))), HG⟩
            ·
             try replace g3_4 := V.dec g3_4
             try simp only [V.mk] at g3_4
             refine V.ru 7 ?_
             refine V.nt ?_
             refine V.ret ?_
             refine V.done rfl ?_
             replace HG := HG.grow (G4.trans G11)
             exact ⟨(congrArg Value.bool (by first | rfl | (unfold smB; grind))), HG⟩
          ·
           try replace g2_26 := V.dec g2_26
           try simp only [V.mk] at g2_26
           refine V.ru 21 ?_
           refine V.nt ?_
           refine V.sr ?_
           refine V.ru 2 ?_
           refine V.andG T_ok 1 1 102 rfl rfl rfl rfl rfl rfl rfl rfl ?_
           refine V.ru 1 ?_
           refine V.split (j := 4) (t := 105) rfl rfl (fun g3_4 => ?_) (fun g3_4 => ?_)
           ·
            try replace g3_4 := V.dec g3_4
            try simp only [V.mk] at g3_4
            refine V.ru 1 ?_
            refine V.yes rfl rfl rfl ?_
            refine V.loadO T_ok Fk2 rfl rfl rfl rfl rfl ?_
            refine V.ru 1 ?_
            refine V.yes rfl rfl rfl ?_
            refine V.loadO T_ok Fk9 rfl rfl rfl rfl rfl ?_
            refine V.yes rfl rfl rfl ?_
            replace F_p := F_p.gr (G4.trans G11)
            replace F_q := F_q.gr (G4.trans G11)
            refine V.call (equalW_spec F_p F_q) rfl rfl rfl ?_
            rintro _ w24 ⟨rfl, G25⟩
            have z26 := V.Fr.size G25
            refine V.ru 2 ?_
            refine V.nt ?_
            refine V.ret ?_
            refine V.done rfl ?_
            replace HG := HG.grow (G4.trans (G11.trans G25))
            exact ⟨(congrArg Value.bool (by first | rfl | (unfold smB; grind))), HG⟩
           ·
            try replace g3_4 := V.dec g3_4
            try simp only [V.mk] at g3_4
            refine V.ru 7 ?_
            refine V.nt ?_
            refine V.ret ?_
            refine V.done rfl ?_
            replace HG := HG.grow (G4.trans G11)
            exact ⟨(congrArg Value.bool (by first | rfl | (unfold smB; grind))), HG⟩
         ·
          try replace g2_19 := V.dec g2_19
          try simp only [V.mk] at g2_19
          refine V.ru 28 ?_
          refine V.nt ?_
          refine V.sr ?_
          refine V.ru 2 ?_
          refine V.andG T_ok 1 1 102 rfl rfl rfl rfl rfl rfl rfl rfl ?_
          refine V.ru 1 ?_
          refine V.split (j := 4) (t := 105) rfl rfl (fun g3_4 => ?_) (fun g3_4 => ?_)
          ·
           try replace g3_4 := V.dec g3_4
           try simp only [V.mk] at g3_4
           refine V.ru 1 ?_
           refine V.yes rfl rfl rfl ?_
           refine V.loadO T_ok Fk2 rfl rfl rfl rfl rfl ?_
           refine V.ru 1 ?_
           refine V.yes rfl rfl rfl ?_
           refine V.loadO T_ok Fk9 rfl rfl rfl rfl rfl ?_
           refine V.yes rfl rfl rfl ?_
           replace F_p := F_p.gr (G4.trans G11)
           replace F_q := F_q.gr (G4.trans G11)
           refine V.call (equalW_spec F_p F_q) rfl rfl rfl ?_
           rintro _ w27 ⟨rfl, G28⟩
           have z29 := V.Fr.size G28
           refine V.ru 2 ?_
           refine V.nt ?_
           refine V.ret ?_
           refine V.done rfl ?_
           replace HG := HG.grow (G4.trans (G11.trans G28))
           exact ⟨(congrArg Value.bool (by first | rfl | (unfold smB; grind))), HG⟩
          ·
           try replace g3_4 := V.dec g3_4
           try simp only [V.mk] at g3_4
           refine V.ru 7 ?_
           refine V.nt ?_
           refine V.ret ?_
           refine V.done rfl ?_
           replace HG := HG.grow (G4.trans G11)
           exact ⟨(congrArg Value.bool (by first | rfl | (unfold smB; grind))), HG⟩
        ·
         try replace g2_12 := V.dec g2_12
         try simp only [V.mk] at g2_12
         refine V.ru 35 ?_
         refine V.nt ?_
         refine V.sr ?_
         refine V.ru 2 ?_
         refine V.andG T_ok 1 1 102 rfl rfl rfl rfl rfl rfl rfl rfl ?_
         refine V.ru 1 ?_
         refine V.split (j := 4) (t := 105) rfl rfl (fun g3_4 => ?_) (fun g3_4 => ?_)
         ·
          try replace g3_4 := V.dec g3_4
          try simp only [V.mk] at g3_4
          refine V.ru 1 ?_
          refine V.yes rfl rfl rfl ?_
          refine V.loadO T_ok Fk2 rfl rfl rfl rfl rfl ?_
          refine V.ru 1 ?_
          refine V.yes rfl rfl rfl ?_
          refine V.loadO T_ok Fk9 rfl rfl rfl rfl rfl ?_
          refine V.yes rfl rfl rfl ?_
          replace F_p := F_p.gr (G4.trans G11)
          replace F_q := F_q.gr (G4.trans G11)
          refine V.call (equalW_spec F_p F_q) rfl rfl rfl ?_
          rintro _ w30 ⟨rfl, G31⟩
          have z32 := V.Fr.size G31
          refine V.ru 2 ?_
          refine V.nt ?_
          refine V.ret ?_
          refine V.done rfl ?_
          replace HG := HG.grow (G4.trans (G11.trans G31))
          exact ⟨(congrArg Value.bool (by first | rfl | (unfold smB; grind))), HG⟩
         ·
          try replace g3_4 := V.dec g3_4
          try simp only [V.mk] at g3_4
          refine V.ru 7 ?_
          refine V.nt ?_
          refine V.ret ?_
          refine V.done rfl ?_
          replace HG := HG.grow (G4.trans G11)
          exact ⟨(congrArg Value.bool (by first | rfl | (unfold smB; grind))), HG⟩
       ·
        try replace g2_5 := V.dec g2_5
        try simp only [V.mk] at g2_5
        refine V.ru 42 ?_
        refine V.nt ?_
        refine V.sr ?_
        refine V.ru 2 ?_
        refine V.andG T_ok 1 1 102 rfl rfl rfl rfl rfl rfl rfl rfl ?_
        refine V.ru 1 ?_
        refine V.split (j := 4) (t := 105) rfl rfl (fun g3_4 => ?_) (fun g3_4 => ?_)
        ·
         try replace g3_4 := V.dec g3_4
         try simp only [V.mk] at g3_4
         refine V.ru 1 ?_
         refine V.yes rfl rfl rfl ?_
         refine V.loadO T_ok Fk2 rfl rfl rfl rfl rfl ?_
         refine V.ru 1 ?_
         refine V.yes rfl rfl rfl ?_
         refine V.loadO T_ok Fk9 rfl rfl rfl rfl rfl ?_
         refine V.yes rfl rfl rfl ?_
         replace F_p := F_p.gr (G4.trans G11)
         replace F_q := F_q.gr (G4.trans G11)
         refine V.call (equalW_spec F_p F_q) rfl rfl rfl ?_
         rintro _ w33 ⟨rfl, G34⟩
         have z35 := V.Fr.size G34
         refine V.ru 2 ?_
         refine V.nt ?_
         refine V.ret ?_
         refine V.done rfl ?_
         replace HG := HG.grow (G4.trans (G11.trans G34))
         exact ⟨(congrArg Value.bool (by first | rfl | (unfold smB; grind))), HG⟩
        ·
         try replace g3_4 := V.dec g3_4
         try simp only [V.mk] at g3_4
         refine V.ru 7 ?_
         refine V.nt ?_
         refine V.ret ?_
         refine V.done rfl ?_
         replace HG := HG.grow (G4.trans G11)
         exact ⟨(congrArg Value.bool (by first | rfl | (unfold smB; grind))), HG⟩
      ·
       try replace g1_40 := V.dec g1_40
       try simp only [V.mk] at g1_40
       refine V.ru 7 ?_
       refine V.nt ?_
       refine V.sr ?_
       refine V.ru 1 ?_
       refine V.loadO T_ok Fk2 rfl rfl rfl rfl rfl ?_
       refine V.ru 1 ?_
       refine V.loadO T_ok Fk9 rfl rfl rfl rfl rfl ?_
       refine V.ru 2 ?_
       refine V.split (j := 5) (t := 59) rfl rfl (fun g2_5 => ?_) (fun g2_5 => ?_)
       ·
        try replace g2_5 := V.dec g2_5
        try simp only [V.mk] at g2_5
        refine V.ru 1 ?_
        refine V.yes rfl rfl rfl ?_
        refine V.loadO T_ok Fk2 rfl rfl rfl rfl rfl ?_
        refine V.ru 1 ?_
        refine V.yes rfl rfl rfl ?_
        refine V.loadO T_ok Fk9 rfl rfl rfl rfl rfl ?_
        refine V.ru 3 ?_
        refine V.split (j := 12) (t := 66) rfl rfl (fun g2_12 => ?_) (fun g2_12 => ?_)
        ·
         try replace g2_12 := V.dec g2_12
         try simp only [V.mk] at g2_12
         refine V.ru 1 ?_
         refine V.yes rfl rfl rfl ?_
         refine V.loadO T_ok Fk2 rfl rfl rfl rfl rfl ?_
         refine V.ru 1 ?_
         refine V.yes rfl rfl rfl ?_
         refine V.loadO T_ok Fk9 rfl rfl rfl rfl rfl ?_
         refine V.yes rfl rfl rfl ?_
         refine V.step rfl rfl (V.eqA_run rfl rfl rfl eqG33 (eqS33 _)) ?_
         refine V.ru 2 ?_
         refine V.split (j := 19) (t := 73) rfl rfl (fun g2_19 => ?_) (fun g2_19 => ?_)
         ·
          try replace g2_19 := V.dec g2_19
          try simp only [V.mk] at g2_19
          refine V.ru 1 ?_
          refine V.yes rfl rfl rfl ?_
          refine V.loadO T_ok Fk2 rfl rfl rfl rfl rfl ?_
          refine V.ru 1 ?_
          refine V.yes rfl rfl rfl ?_
          refine V.loadO T_ok Fk9 rfl rfl rfl rfl rfl ?_
          refine V.yes rfl rfl rfl ?_
          refine V.step rfl rfl (V.eqA_run rfl rfl rfl eqG33 (eqS33 _)) ?_
          refine V.ru 2 ?_
          refine V.split (j := 26) (t := 80) rfl rfl (fun g2_26 => ?_) (fun g2_26 => ?_)
          ·
           try replace g2_26 := V.dec g2_26
           try simp only [V.mk] at g2_26
           refine V.ru 1 ?_
           refine V.yes rfl rfl rfl ?_
           refine V.loadO T_ok Fk2 rfl rfl rfl rfl rfl ?_
           refine V.ru 1 ?_
           refine V.yes rfl rfl rfl ?_
           refine V.loadO T_ok Fk9 rfl rfl rfl rfl rfl ?_
           refine V.ru 3 ?_
           refine V.split (j := 33) (t := 87) rfl rfl (fun g2_33 => ?_) (fun g2_33 => ?_)
           ·
            try replace g2_33 := V.dec g2_33
            try simp only [V.mk] at g2_33
            refine V.ru 1 ?_
            refine V.yes rfl rfl rfl ?_
            refine V.loadO T_ok Fk2 rfl rfl rfl rfl rfl ?_
            refine V.ru 1 ?_
            refine V.yes rfl rfl rfl ?_
            refine V.loadO T_ok Fk9 rfl rfl rfl rfl rfl ?_
            refine V.ru 3 ?_
            refine V.split (j := 40) (t := 94) rfl rfl (fun g2_40 => ?_) (fun g2_40 => ?_)
            ·
             try replace g2_40 := V.dec g2_40
             try simp only [V.mk] at g2_40
             refine V.ru 1 ?_
             refine V.yes rfl rfl rfl ?_
             refine V.loadO T_ok Fk2 rfl rfl rfl rfl rfl ?_
             refine V.ru 1 ?_
             refine V.yes rfl rfl rfl ?_
             refine V.loadO T_ok Fk9 rfl rfl rfl rfl rfl ?_
             refine V.ru 3 ?_
             refine V.nt ?_
             refine V.sr ?_
             refine V.ru 12 ?_
             refine V.nt ?_
             refine V.ret ?_
             refine V.done rfl ?_
             replace HG := HG.grow (G4.trans G11)
             exact ⟨(congrArg Value.bool (by first | rfl | (unfold smB; grind))), HG⟩
            ·
             try replace g2_40 := V.dec g2_40
             try simp only [V.mk] at g2_40
             refine V.ru 7 ?_
             refine V.nt ?_
             refine V.sr ?_
             refine V.ru 12 ?_
             refine V.nt ?_
             refine V.ret ?_
             refine V.done rfl ?_
             replace HG := HG.grow (G4.trans G11)
             exact ⟨(congrArg Value.bool (by first | rfl | (unfold smB; grind))), HG⟩
           ·
            try replace g2_33 := V.dec g2_33
            try simp only [V.mk] at g2_33
            refine V.ru 14 ?_
            refine V.nt ?_
            refine V.sr ?_
            refine V.ru 12 ?_
            refine V.nt ?_
            refine V.ret ?_
            refine V.done rfl ?_
            replace HG := HG.grow (G4.trans G11)
            exact ⟨(congrArg Value.bool (by first | rfl | (unfold smB; grind))), HG⟩
          ·
           try replace g2_26 := V.dec g2_26
           try simp only [V.mk] at g2_26
           refine V.ru 21 ?_
           refine V.nt ?_
           refine V.sr ?_
           refine V.ru 12 ?_
           refine V.nt ?_
           refine V.ret ?_
           refine V.done rfl ?_
           replace HG := HG.grow (G4.trans G11)
           exact ⟨(congrArg Value.bool (by first | rfl | (unfold smB; grind))), HG⟩
         ·
          try replace g2_19 := V.dec g2_19
          try simp only [V.mk] at g2_19
          refine V.ru 28 ?_
          refine V.nt ?_
          refine V.sr ?_
          refine V.ru 12 ?_
          refine V.nt ?_
          refine V.ret ?_
          refine V.done rfl ?_
          replace HG := HG.grow (G4.trans G11)
          exact ⟨(congrArg Value.bool (by first | rfl | (unfold smB; grind))), HG⟩
        ·
         try replace g2_12 := V.dec g2_12
         try simp only [V.mk] at g2_12
         refine V.ru 35 ?_
         refine V.nt ?_
         refine V.sr ?_
         refine V.ru 12 ?_
         refine V.nt ?_
         refine V.ret ?_
         refine V.done rfl ?_
         replace HG := HG.grow (G4.trans G11)
         exact ⟨(congrArg Value.bool (by first | rfl | (unfold smB; grind))), HG⟩
       ·
        try replace g2_5 := V.dec g2_5
        try simp only [V.mk] at g2_5
        refine V.ru 42 ?_
        refine V.nt ?_
        refine V.sr ?_
        refine V.ru 12 ?_
        refine V.nt ?_
        refine V.ret ?_
        refine V.done rfl ?_
        replace HG := HG.grow (G4.trans G11)
        exact ⟨(congrArg Value.bool (by first | rfl | (unfold smB; grind))), HG⟩
     ·
      try replace g1_33 := V.dec g1_33
      try simp only [V.mk] at g1_33
      refine V.ru 14 ?_
      refine V.nt ?_
      refine V.sr ?_
      refine V.ru 1 ?_
      refine V.loadO T_ok Fk2 rfl rfl rfl rfl rfl ?_
      refine V.ru 1 ?_
      refine V.loadO T_ok Fk9 rfl rfl rfl rfl rfl ?_
      refine V.ru 2 ?_
      refine V.split (j := 5) (t := 59) rfl rfl (fun g2_5 => ?_) (fun g2_5 => ?_)
      ·
       try replace g2_5 := V.dec g2_5
       try simp only [V.mk] at g2_5
       refine V.ru 1 ?_
       refine V.yes rfl rfl rfl ?_
       refine V.loadO T_ok Fk2 rfl rfl rfl rfl rfl ?_
       refine V.ru 1 ?_
       refine V.yes rfl rfl rfl ?_
       refine V.loadO T_ok Fk9 rfl rfl rfl rfl rfl ?_
       refine V.ru 3 ?_
       refine V.split (j := 12) (t := 66) rfl rfl (fun g2_12 => ?_) (fun g2_12 => ?_)
       ·
        try replace g2_12 := V.dec g2_12
        try simp only [V.mk] at g2_12
        refine V.ru 1 ?_
        refine V.yes rfl rfl rfl ?_
        refine V.loadO T_ok Fk2 rfl rfl rfl rfl rfl ?_
        refine V.ru 1 ?_
        refine V.yes rfl rfl rfl ?_
        refine V.loadO T_ok Fk9 rfl rfl rfl rfl rfl ?_
        refine V.yes rfl rfl rfl ?_
        refine V.step rfl rfl (V.eqA_run rfl rfl rfl eqG33 (eqS33 _)) ?_
        refine V.ru 2 ?_
        refine V.split (j := 19) (t := 73) rfl rfl (fun g2_19 => ?_) (fun g2_19 => ?_)
        ·
         try replace g2_19 := V.dec g2_19
         try simp only [V.mk] at g2_19
         refine V.ru 1 ?_
         refine V.yes rfl rfl rfl ?_
         refine V.loadO T_ok Fk2 rfl rfl rfl rfl rfl ?_
         refine V.ru 1 ?_
         refine V.yes rfl rfl rfl ?_
         refine V.loadO T_ok Fk9 rfl rfl rfl rfl rfl ?_
         refine V.yes rfl rfl rfl ?_
         refine V.step rfl rfl (V.eqA_run rfl rfl rfl eqG33 (eqS33 _)) ?_
         refine V.ru 2 ?_
         refine V.split (j := 26) (t := 80) rfl rfl (fun g2_26 => ?_) (fun g2_26 => ?_)
         ·
          try replace g2_26 := V.dec g2_26
          try simp only [V.mk] at g2_26
          refine V.ru 1 ?_
          refine V.yes rfl rfl rfl ?_
          refine V.loadO T_ok Fk2 rfl rfl rfl rfl rfl ?_
          refine V.ru 1 ?_
          refine V.yes rfl rfl rfl ?_
          refine V.loadO T_ok Fk9 rfl rfl rfl rfl rfl ?_
          refine V.ru 3 ?_
          refine V.split (j := 33) (t := 87) rfl rfl (fun g2_33 => ?_) (fun g2_33 => ?_)
          ·
           try replace g2_33 := V.dec g2_33
           try simp only [V.mk] at g2_33
           refine V.ru 1 ?_
           refine V.yes rfl rfl rfl ?_
           refine V.loadO T_ok Fk2 rfl rfl rfl rfl rfl ?_
           refine V.ru 1 ?_
           refine V.yes rfl rfl rfl ?_
           refine V.loadO T_ok Fk9 rfl rfl rfl rfl rfl ?_
           refine V.ru 3 ?_
           refine V.split (j := 40) (t := 94) rfl rfl (fun g2_40 => ?_) (fun g2_40 => ?_)
           ·
            try replace g2_40 := V.dec g2_40
            try simp only [V.mk] at g2_40
            refine V.ru 1 ?_
            refine V.yes rfl rfl rfl ?_
            refine V.loadO T_ok Fk2 rfl rfl rfl rfl rfl ?_
            refine V.ru 1 ?_
            refine V.yes rfl rfl rfl ?_
            refine V.loadO T_ok Fk9 rfl rfl rfl rfl rfl ?_
            refine V.ru 3 ?_
            refine V.nt ?_
            refine V.sr ?_
            refine V.ru 12 ?_
            refine V.nt ?_
            refine V.ret ?_
            refine V.done rfl ?_
            replace HG := HG.grow (G4.trans G11)
            exact ⟨(congrArg Value.bool (by first | rfl | (unfold smB; grind))), HG⟩
           ·
            try replace g2_40 := V.dec g2_40
            try simp only [V.mk] at g2_40
            refine V.ru 7 ?_
            refine V.nt ?_
            refine V.sr ?_
            refine V.ru 12 ?_
            refine V.nt ?_
            refine V.ret ?_
            refine V.done rfl ?_
            replace HG := HG.grow (G4.trans G11)
            exact ⟨(congrArg Value.bool (by first | rfl | (unfold smB; grind))), HG⟩
          ·
           try replace g2_33 := V.dec g2_33
           try simp only [V.mk] at g2_33
           refine V.ru 14 ?_
           refine V.nt ?_
           refine V.sr ?_
           refine V.ru 12 ?_
           refine V.nt ?_
           refine V.ret ?_
           refine V.done rfl ?_
           replace HG := HG.grow (G4.trans G11)
           exact ⟨(congrArg Value.bool (by first | rfl | (unfold smB; grind))), HG⟩
         ·
          try replace g2_26 := V.dec g2_26
          try simp only [V.mk] at g2_26
          refine V.ru 21 ?_
          refine V.nt ?_
          refine V.sr ?_
          refine V.ru 12 ?_
          refine V.nt ?_
          refine V.ret ?_
          refine V.done rfl ?_
          replace HG := HG.grow (G4.trans G11)
          exact ⟨(congrArg Value.bool (by first | rfl | (unfold smB; grind))), HG⟩
        ·
         try replace g2_19 := V.dec g2_19
         try simp only [V.mk] at g2_19
         refine V.ru 28 ?_
         refine V.nt ?_
         refine V.sr ?_
         refine V.ru 12 ?_
         refine V.nt ?_
         refine V.ret ?_
         refine V.done rfl ?_
         replace HG := HG.grow (G4.trans G11)
         exact ⟨(congrArg Value.bool (by first | rfl | (unfold smB; grind))), HG⟩
       ·
        try replace g2_12 := V.dec g2_12
        try simp only [V.mk] at g2_12
        refine V.ru 35 ?_
        refine V.nt ?_
        refine V.sr ?_
        refine V.ru 12 ?_
        refine V.nt ?_
        refine V.ret ?_
        refine V.done rfl ?_
        replace HG := HG.grow (G4.trans G11)
        exact ⟨(congrArg Value.bool (by first | rfl | (unfold smB; grind))), HG⟩
      ·
       try replace g2_5 := V.dec g2_5
       try simp only [V.mk] at g2_5
       refine V.ru 42 ?_
       refine V.nt ?_
       refine V.sr ?_
       refine V.ru 12 ?_
       refine V.nt ?_
       refine V.ret ?_
       refine V.done rfl ?_
       replace HG := HG.grow (G4.trans G11)
       exact ⟨(congrArg Value.bool (by first | rfl | (unfold smB; grind))), HG⟩
    ·
     try replace g1_26 := V.dec g1_26
     try simp only [V.mk] at g1_26
     refine V.ru 21 ?_
     refine V.nt ?_
     refine V.sr ?_
     refine V.ru 1 ?_
     refine V.loadO T_ok Fk2 rfl rfl rfl rfl rfl ?_
     refine V.ru 1 ?_
     refine V.loadO T_ok Fk9 rfl rfl rfl rfl rfl ?_
     refine V.ru 2 ?_
     refine V.split (j := 5) (t := 59) rfl rfl (fun g2_5 => ?_) (fun g2_5 => ?_)
     ·
      try replace g2_5 := V.dec g2_5
      try simp only [V.mk] at g2_5
      refine V.ru 1 ?_
      refine V.yes rfl rfl rfl ?_
      refine V.loadO T_ok Fk2 rfl rfl rfl rfl rfl ?_
      refine V.ru 1 ?_
      refine V.yes rfl rfl rfl ?_
      refine V.loadO T_ok Fk9 rfl rfl rfl rfl rfl ?_
      refine V.ru 3 ?_
      refine V.split (j := 12) (t := 66) rfl rfl (fun g2_12 => ?_) (fun g2_12 => ?_)
      ·
       try replace g2_12 := V.dec g2_12
       try simp only [V.mk] at g2_12
       refine V.ru 1 ?_
       refine V.yes rfl rfl rfl ?_
       refine V.loadO T_ok Fk2 rfl rfl rfl rfl rfl ?_
       refine V.ru 1 ?_
       refine V.yes rfl rfl rfl ?_
       refine V.loadO T_ok Fk9 rfl rfl rfl rfl rfl ?_
       refine V.yes rfl rfl rfl ?_
       refine V.step rfl rfl (V.eqA_run rfl rfl rfl eqG33 (eqS33 _)) ?_
       refine V.ru 2 ?_
       refine V.split (j := 19) (t := 73) rfl rfl (fun g2_19 => ?_) (fun g2_19 => ?_)
       ·
        try replace g2_19 := V.dec g2_19
        try simp only [V.mk] at g2_19
        refine V.ru 1 ?_
        refine V.yes rfl rfl rfl ?_
        refine V.loadO T_ok Fk2 rfl rfl rfl rfl rfl ?_
        refine V.ru 1 ?_
        refine V.yes rfl rfl rfl ?_
        refine V.loadO T_ok Fk9 rfl rfl rfl rfl rfl ?_
        refine V.yes rfl rfl rfl ?_
        refine V.step rfl rfl (V.eqA_run rfl rfl rfl eqG33 (eqS33 _)) ?_
        refine V.ru 2 ?_
        refine V.split (j := 26) (t := 80) rfl rfl (fun g2_26 => ?_) (fun g2_26 => ?_)
        ·
         try replace g2_26 := V.dec g2_26
         try simp only [V.mk] at g2_26
         refine V.ru 1 ?_
         refine V.yes rfl rfl rfl ?_
         refine V.loadO T_ok Fk2 rfl rfl rfl rfl rfl ?_
         refine V.ru 1 ?_
         refine V.yes rfl rfl rfl ?_
         refine V.loadO T_ok Fk9 rfl rfl rfl rfl rfl ?_
         refine V.ru 3 ?_
         refine V.split (j := 33) (t := 87) rfl rfl (fun g2_33 => ?_) (fun g2_33 => ?_)
         ·
          try replace g2_33 := V.dec g2_33
          try simp only [V.mk] at g2_33
          refine V.ru 1 ?_
          refine V.yes rfl rfl rfl ?_
          refine V.loadO T_ok Fk2 rfl rfl rfl rfl rfl ?_
          refine V.ru 1 ?_
          refine V.yes rfl rfl rfl ?_
          refine V.loadO T_ok Fk9 rfl rfl rfl rfl rfl ?_
          refine V.ru 3 ?_
          refine V.split (j := 40) (t := 94) rfl rfl (fun g2_40 => ?_) (fun g2_40 => ?_)
          ·
           try replace g2_40 := V.dec g2_40
           try simp only [V.mk] at g2_40
           refine V.ru 1 ?_
           refine V.yes rfl rfl rfl ?_
           refine V.loadO T_ok Fk2 rfl rfl rfl rfl rfl ?_
           refine V.ru 1 ?_
           refine V.yes rfl rfl rfl ?_
           refine V.loadO T_ok Fk9 rfl rfl rfl rfl rfl ?_
           refine V.ru 3 ?_
           refine V.nt ?_
           refine V.sr ?_
           refine V.ru 12 ?_
           refine V.nt ?_
           refine V.ret ?_
           refine V.done rfl ?_
           replace HG := HG.grow (G4.trans G11)
           exact ⟨(congrArg Value.bool (by first | rfl | (unfold smB; grind))), HG⟩
          ·
           try replace g2_40 := V.dec g2_40
           try simp only [V.mk] at g2_40
           refine V.ru 7 ?_
           refine V.nt ?_
           refine V.sr ?_
           refine V.ru 12 ?_
           refine V.nt ?_
           refine V.ret ?_
           refine V.done rfl ?_
           replace HG := HG.grow (G4.trans G11)
           exact ⟨(congrArg Value.bool (by first | rfl | (unfold smB; grind))), HG⟩
         ·
          try replace g2_33 := V.dec g2_33
          try simp only [V.mk] at g2_33
          refine V.ru 14 ?_
          refine V.nt ?_
          refine V.sr ?_
          refine V.ru 12 ?_
          refine V.nt ?_
          refine V.ret ?_
          refine V.done rfl ?_
          replace HG := HG.grow (G4.trans G11)
          exact ⟨(congrArg Value.bool (by first | rfl | (unfold smB; grind))), HG⟩
        ·
         try replace g2_26 := V.dec g2_26
         try simp only [V.mk] at g2_26
         refine V.ru 21 ?_
         refine V.nt ?_
         refine V.sr ?_
         refine V.ru 12 ?_
         refine V.nt ?_
         refine V.ret ?_
         refine V.done rfl ?_
         replace HG := HG.grow (G4.trans G11)
         exact ⟨(congrArg Value.bool (by first | rfl | (unfold smB; grind))), HG⟩
       ·
        try replace g2_19 := V.dec g2_19
        try simp only [V.mk] at g2_19
        refine V.ru 28 ?_
        refine V.nt ?_
        refine V.sr ?_
        refine V.ru 12 ?_
        refine V.nt ?_
        refine V.ret ?_
        refine V.done rfl ?_
        replace HG := HG.grow (G4.trans G11)
        exact ⟨(congrArg Value.bool (by first | rfl | (unfold smB; grind))), HG⟩
      ·
       try replace g2_12 := V.dec g2_12
       try simp only [V.mk] at g2_12
       refine V.ru 35 ?_
       refine V.nt ?_
       refine V.sr ?_
       refine V.ru 12 ?_
       refine V.nt ?_
       refine V.ret ?_
       refine V.done rfl ?_
       replace HG := HG.grow (G4.trans G11)
       exact ⟨(congrArg Value.bool (by first | rfl | (unfold smB; grind))), HG⟩
     ·
      try replace g2_5 := V.dec g2_5
      try simp only [V.mk] at g2_5
      refine V.ru 42 ?_
      refine V.nt ?_
      refine V.sr ?_
      refine V.ru 12 ?_
      refine V.nt ?_
      refine V.ret ?_
      refine V.done rfl ?_
      replace HG := HG.grow (G4.trans G11)
      exact ⟨(congrArg Value.bool (by first | rfl | (unfold smB; grind))), HG⟩
   ·
    try replace g1_19 := V.dec g1_19
    try simp only [V.mk] at g1_19
    refine V.ru 28 ?_
    refine V.nt ?_
    refine V.sr ?_
    refine V.ru 1 ?_
    refine V.loadO T_ok Fk2 rfl rfl rfl rfl rfl ?_
    refine V.ru 1 ?_
    refine V.loadO T_ok Fk9 rfl rfl rfl rfl rfl ?_
    refine V.ru 2 ?_
    refine V.split (j := 5) (t := 59) rfl rfl (fun g2_5 => ?_) (fun g2_5 => ?_)
    ·
     try replace g2_5 := V.dec g2_5
     try simp only [V.mk] at g2_5
     refine V.ru 1 ?_
     refine V.yes rfl rfl rfl ?_
     refine V.loadO T_ok Fk2 rfl rfl rfl rfl rfl ?_
     refine V.ru 1 ?_
     refine V.yes rfl rfl rfl ?_
     refine V.loadO T_ok Fk9 rfl rfl rfl rfl rfl ?_
     refine V.ru 3 ?_
     refine V.split (j := 12) (t := 66) rfl rfl (fun g2_12 => ?_) (fun g2_12 => ?_)
     ·
      try replace g2_12 := V.dec g2_12
      try simp only [V.mk] at g2_12
      refine V.ru 1 ?_
      refine V.yes rfl rfl rfl ?_
      refine V.loadO T_ok Fk2 rfl rfl rfl rfl rfl ?_
      refine V.ru 1 ?_
      refine V.yes rfl rfl rfl ?_
      refine V.loadO T_ok Fk9 rfl rfl rfl rfl rfl ?_
      refine V.yes rfl rfl rfl ?_
      refine V.step rfl rfl (V.eqA_run rfl rfl rfl eqG33 (eqS33 _)) ?_
      refine V.ru 2 ?_
      refine V.split (j := 19) (t := 73) rfl rfl (fun g2_19 => ?_) (fun g2_19 => ?_)
      ·
       try replace g2_19 := V.dec g2_19
       try simp only [V.mk] at g2_19
       refine V.ru 1 ?_
       refine V.yes rfl rfl rfl ?_
       refine V.loadO T_ok Fk2 rfl rfl rfl rfl rfl ?_
       refine V.ru 1 ?_
       refine V.yes rfl rfl rfl ?_
       refine V.loadO T_ok Fk9 rfl rfl rfl rfl rfl ?_
       refine V.yes rfl rfl rfl ?_
       refine V.step rfl rfl (V.eqA_run rfl rfl rfl eqG33 (eqS33 _)) ?_
       refine V.ru 2 ?_
       refine V.split (j := 26) (t := 80) rfl rfl (fun g2_26 => ?_) (fun g2_26 => ?_)
       ·
        try replace g2_26 := V.dec g2_26
        try simp only [V.mk] at g2_26
        refine V.ru 1 ?_
        refine V.yes rfl rfl rfl ?_
        refine V.loadO T_ok Fk2 rfl rfl rfl rfl rfl ?_
        refine V.ru 1 ?_
        refine V.yes rfl rfl rfl ?_
        refine V.loadO T_ok Fk9 rfl rfl rfl rfl rfl ?_
        refine V.ru 3 ?_
        refine V.split (j := 33) (t := 87) rfl rfl (fun g2_33 => ?_) (fun g2_33 => ?_)
        ·
         try replace g2_33 := V.dec g2_33
         try simp only [V.mk] at g2_33
         refine V.ru 1 ?_
         refine V.yes rfl rfl rfl ?_
         refine V.loadO T_ok Fk2 rfl rfl rfl rfl rfl ?_
         refine V.ru 1 ?_
         refine V.yes rfl rfl rfl ?_
         refine V.loadO T_ok Fk9 rfl rfl rfl rfl rfl ?_
         refine V.ru 3 ?_
         refine V.split (j := 40) (t := 94) rfl rfl (fun g2_40 => ?_) (fun g2_40 => ?_)
         ·
          try replace g2_40 := V.dec g2_40
          try simp only [V.mk] at g2_40
          refine V.ru 1 ?_
          refine V.yes rfl rfl rfl ?_
          refine V.loadO T_ok Fk2 rfl rfl rfl rfl rfl ?_
          refine V.ru 1 ?_
          refine V.yes rfl rfl rfl ?_
          refine V.loadO T_ok Fk9 rfl rfl rfl rfl rfl ?_
          refine V.ru 3 ?_
          refine V.nt ?_
          refine V.sr ?_
          refine V.ru 12 ?_
          refine V.nt ?_
          refine V.ret ?_
          refine V.done rfl ?_
          replace HG := HG.grow (G4.trans G11)
          exact ⟨(congrArg Value.bool (by first | rfl | (unfold smB; grind))), HG⟩
         ·
          try replace g2_40 := V.dec g2_40
          try simp only [V.mk] at g2_40
          refine V.ru 7 ?_
          refine V.nt ?_
          refine V.sr ?_
          refine V.ru 12 ?_
          refine V.nt ?_
          refine V.ret ?_
          refine V.done rfl ?_
          replace HG := HG.grow (G4.trans G11)
          exact ⟨(congrArg Value.bool (by first | rfl | (unfold smB; grind))), HG⟩
        ·
         try replace g2_33 := V.dec g2_33
         try simp only [V.mk] at g2_33
         refine V.ru 14 ?_
         refine V.nt ?_
         refine V.sr ?_
         refine V.ru 12 ?_
         refine V.nt ?_
         refine V.ret ?_
         refine V.done rfl ?_
         replace HG := HG.grow (G4.trans G11)
         exact ⟨(congrArg Value.bool (by first | rfl | (unfold smB; grind))), HG⟩
       ·
        try replace g2_26 := V.dec g2_26
        try simp only [V.mk] at g2_26
        refine V.ru 21 ?_
        refine V.nt ?_
        refine V.sr ?_
        refine V.ru 12 ?_
        refine V.nt ?_
        refine V.ret ?_
        refine V.done rfl ?_
        replace HG := HG.grow (G4.trans G11)
        exact ⟨(congrArg Value.bool (by first | rfl | (unfold smB; grind))), HG⟩
      ·
       try replace g2_19 := V.dec g2_19
       try simp only [V.mk] at g2_19
       refine V.ru 28 ?_
       refine V.nt ?_
       refine V.sr ?_
       refine V.ru 12 ?_
       refine V.nt ?_
       refine V.ret ?_
       refine V.done rfl ?_
       replace HG := HG.grow (G4.trans G11)
       exact ⟨(congrArg Value.bool (by first | rfl | (unfold smB; grind))), HG⟩
     ·
      try replace g2_12 := V.dec g2_12
      try simp only [V.mk] at g2_12
      refine V.ru 35 ?_
      refine V.nt ?_
      refine V.sr ?_
      refine V.ru 12 ?_
      refine V.nt ?_
      refine V.ret ?_
      refine V.done rfl ?_
      replace HG := HG.grow (G4.trans G11)
      exact ⟨(congrArg Value.bool (by first | rfl | (unfold smB; grind))), HG⟩
    ·
     try replace g2_5 := V.dec g2_5
     try simp only [V.mk] at g2_5
     refine V.ru 42 ?_
     refine V.nt ?_
     refine V.sr ?_
     refine V.ru 12 ?_
     refine V.nt ?_
     refine V.ret ?_
     refine V.done rfl ?_
     replace HG := HG.grow (G4.trans G11)
     exact ⟨(congrArg Value.bool (by first | rfl | (unfold smB; grind))), HG⟩
  ·
   try replace g1_12 := V.dec g1_12
   try simp only [V.mk] at g1_12
   refine V.ru 35 ?_
   refine V.nt ?_
   refine V.sr ?_
   refine V.ru 1 ?_
   refine V.loadO T_ok Fk2 rfl rfl rfl rfl rfl ?_
   refine V.ru 1 ?_
   refine V.loadO T_ok Fk9 rfl rfl rfl rfl rfl ?_
   refine V.ru 2 ?_
   refine V.split (j := 5) (t := 59) rfl rfl (fun g2_5 => ?_) (fun g2_5 => ?_)
   ·
    try replace g2_5 := V.dec g2_5
    try simp only [V.mk] at g2_5
    refine V.ru 1 ?_
    refine V.yes rfl rfl rfl ?_
    refine V.loadO T_ok Fk2 rfl rfl rfl rfl rfl ?_
    refine V.ru 1 ?_
    refine V.yes rfl rfl rfl ?_
    refine V.loadO T_ok Fk9 rfl rfl rfl rfl rfl ?_
    refine V.ru 3 ?_
    refine V.split (j := 12) (t := 66) rfl rfl (fun g2_12 => ?_) (fun g2_12 => ?_)
    ·
     try replace g2_12 := V.dec g2_12
     try simp only [V.mk] at g2_12
     refine V.ru 1 ?_
     refine V.yes rfl rfl rfl ?_
     refine V.loadO T_ok Fk2 rfl rfl rfl rfl rfl ?_
     refine V.ru 1 ?_
     refine V.yes rfl rfl rfl ?_
     refine V.loadO T_ok Fk9 rfl rfl rfl rfl rfl ?_
     refine V.yes rfl rfl rfl ?_
     refine V.step rfl rfl (V.eqA_run rfl rfl rfl eqG33 (eqS33 _)) ?_
     refine V.ru 2 ?_
     refine V.split (j := 19) (t := 73) rfl rfl (fun g2_19 => ?_) (fun g2_19 => ?_)
     ·
      try replace g2_19 := V.dec g2_19
      try simp only [V.mk] at g2_19
      refine V.ru 1 ?_
      refine V.yes rfl rfl rfl ?_
      refine V.loadO T_ok Fk2 rfl rfl rfl rfl rfl ?_
      refine V.ru 1 ?_
      refine V.yes rfl rfl rfl ?_
      refine V.loadO T_ok Fk9 rfl rfl rfl rfl rfl ?_
      refine V.yes rfl rfl rfl ?_
      refine V.step rfl rfl (V.eqA_run rfl rfl rfl eqG33 (eqS33 _)) ?_
      refine V.ru 2 ?_
      refine V.split (j := 26) (t := 80) rfl rfl (fun g2_26 => ?_) (fun g2_26 => ?_)
      ·
       try replace g2_26 := V.dec g2_26
       try simp only [V.mk] at g2_26
       refine V.ru 1 ?_
       refine V.yes rfl rfl rfl ?_
       refine V.loadO T_ok Fk2 rfl rfl rfl rfl rfl ?_
       refine V.ru 1 ?_
       refine V.yes rfl rfl rfl ?_
       refine V.loadO T_ok Fk9 rfl rfl rfl rfl rfl ?_
       refine V.ru 3 ?_
       refine V.split (j := 33) (t := 87) rfl rfl (fun g2_33 => ?_) (fun g2_33 => ?_)
       ·
        try replace g2_33 := V.dec g2_33
        try simp only [V.mk] at g2_33
        refine V.ru 1 ?_
        refine V.yes rfl rfl rfl ?_
        refine V.loadO T_ok Fk2 rfl rfl rfl rfl rfl ?_
        refine V.ru 1 ?_
        refine V.yes rfl rfl rfl ?_
        refine V.loadO T_ok Fk9 rfl rfl rfl rfl rfl ?_
        refine V.ru 3 ?_
        refine V.split (j := 40) (t := 94) rfl rfl (fun g2_40 => ?_) (fun g2_40 => ?_)
        ·
         try replace g2_40 := V.dec g2_40
         try simp only [V.mk] at g2_40
         refine V.ru 1 ?_
         refine V.yes rfl rfl rfl ?_
         refine V.loadO T_ok Fk2 rfl rfl rfl rfl rfl ?_
         refine V.ru 1 ?_
         refine V.yes rfl rfl rfl ?_
         refine V.loadO T_ok Fk9 rfl rfl rfl rfl rfl ?_
         refine V.ru 3 ?_
         refine V.nt ?_
         refine V.sr ?_
         refine V.ru 12 ?_
         refine V.nt ?_
         refine V.ret ?_
         refine V.done rfl ?_
         replace HG := HG.grow (G4.trans G11)
         exact ⟨(congrArg Value.bool (by first | rfl | (unfold smB; grind))), HG⟩
        ·
         try replace g2_40 := V.dec g2_40
         try simp only [V.mk] at g2_40
         refine V.ru 7 ?_
         refine V.nt ?_
         refine V.sr ?_
         refine V.ru 12 ?_
         refine V.nt ?_
         refine V.ret ?_
         refine V.done rfl ?_
         replace HG := HG.grow (G4.trans G11)
         exact ⟨(congrArg Value.bool (by first | rfl | (unfold smB; grind))), HG⟩
       ·
        try replace g2_33 := V.dec g2_33
        try simp only [V.mk] at g2_33
        refine V.ru 14 ?_
        refine V.nt ?_
        refine V.sr ?_
        refine V.ru 12 ?_
        refine V.nt ?_
        refine V.ret ?_
        refine V.done rfl ?_
        replace HG := HG.grow (G4.trans G11)
        exact ⟨(congrArg Value.bool (by first | rfl | (unfold smB; grind))), HG⟩
      ·
       try replace g2_26 := V.dec g2_26
       try simp only [V.mk] at g2_26
       refine V.ru 21 ?_
       refine V.nt ?_
       refine V.sr ?_
       refine V.ru 12 ?_
       refine V.nt ?_
       refine V.ret ?_
       refine V.done rfl ?_
       replace HG := HG.grow (G4.trans G11)
       exact ⟨(congrArg Value.bool (by first | rfl | (unfold smB; grind))), HG⟩
     ·
      try replace g2_19 := V.dec g2_19
      try simp only [V.mk] at g2_19
      refine V.ru 28 ?_
      refine V.nt ?_
      refine V.sr ?_
      refine V.ru 12 ?_
      refine V.nt ?_
      refine V.ret ?_
      refine V.done rfl ?_
      replace HG := HG.grow (G4.trans G11)
      exact ⟨(congrArg Value.bool (by first | rfl | (unfold smB; grind))), HG⟩
    ·
     try replace g2_12 := V.dec g2_12
     try simp only [V.mk] at g2_12
     refine V.ru 35 ?_
     refine V.nt ?_
     refine V.sr ?_
     refine V.ru 12 ?_
     refine V.nt ?_
     refine V.ret ?_
     refine V.done rfl ?_
     replace HG := HG.grow (G4.trans G11)
     exact ⟨(congrArg Value.bool (by first | rfl | (unfold smB; grind))), HG⟩
   ·
    try replace g2_5 := V.dec g2_5
    try simp only [V.mk] at g2_5
    refine V.ru 42 ?_
    refine V.nt ?_
    refine V.sr ?_
    refine V.ru 12 ?_
    refine V.nt ?_
    refine V.ret ?_
    refine V.done rfl ?_
    replace HG := HG.grow (G4.trans G11)
    exact ⟨(congrArg Value.bool (by first | rfl | (unfold smB; grind))), HG⟩
 ·
  try replace g1_5 := V.dec g1_5
  try simp only [V.mk] at g1_5
  refine V.ru 42 ?_
  refine V.nt ?_
  refine V.sr ?_
  refine V.ru 1 ?_
  refine V.loadO T_ok Fk2 rfl rfl rfl rfl rfl ?_
  refine V.ru 1 ?_
  refine V.loadO T_ok Fk9 rfl rfl rfl rfl rfl ?_
  refine V.ru 2 ?_
  refine V.split (j := 5) (t := 59) rfl rfl (fun g2_5 => ?_) (fun g2_5 => ?_)
  ·
   try replace g2_5 := V.dec g2_5
   try simp only [V.mk] at g2_5
   refine V.ru 1 ?_
   refine V.yes rfl rfl rfl ?_
   refine V.loadO T_ok Fk2 rfl rfl rfl rfl rfl ?_
   refine V.ru 1 ?_
   refine V.yes rfl rfl rfl ?_
   refine V.loadO T_ok Fk9 rfl rfl rfl rfl rfl ?_
   refine V.ru 3 ?_
   refine V.split (j := 12) (t := 66) rfl rfl (fun g2_12 => ?_) (fun g2_12 => ?_)
   ·
    try replace g2_12 := V.dec g2_12
    try simp only [V.mk] at g2_12
    refine V.ru 1 ?_
    refine V.yes rfl rfl rfl ?_
    refine V.loadO T_ok Fk2 rfl rfl rfl rfl rfl ?_
    refine V.ru 1 ?_
    refine V.yes rfl rfl rfl ?_
    refine V.loadO T_ok Fk9 rfl rfl rfl rfl rfl ?_
    refine V.yes rfl rfl rfl ?_
    refine V.step rfl rfl (V.eqA_run rfl rfl rfl eqG33 (eqS33 _)) ?_
    refine V.ru 2 ?_
    refine V.split (j := 19) (t := 73) rfl rfl (fun g2_19 => ?_) (fun g2_19 => ?_)
    ·
     try replace g2_19 := V.dec g2_19
     try simp only [V.mk] at g2_19
     refine V.ru 1 ?_
     refine V.yes rfl rfl rfl ?_
     refine V.loadO T_ok Fk2 rfl rfl rfl rfl rfl ?_
     refine V.ru 1 ?_
     refine V.yes rfl rfl rfl ?_
     refine V.loadO T_ok Fk9 rfl rfl rfl rfl rfl ?_
     refine V.yes rfl rfl rfl ?_
     refine V.step rfl rfl (V.eqA_run rfl rfl rfl eqG33 (eqS33 _)) ?_
     refine V.ru 2 ?_
     refine V.split (j := 26) (t := 80) rfl rfl (fun g2_26 => ?_) (fun g2_26 => ?_)
     ·
      try replace g2_26 := V.dec g2_26
      try simp only [V.mk] at g2_26
      refine V.ru 1 ?_
      refine V.yes rfl rfl rfl ?_
      refine V.loadO T_ok Fk2 rfl rfl rfl rfl rfl ?_
      refine V.ru 1 ?_
      refine V.yes rfl rfl rfl ?_
      refine V.loadO T_ok Fk9 rfl rfl rfl rfl rfl ?_
      refine V.ru 3 ?_
      refine V.split (j := 33) (t := 87) rfl rfl (fun g2_33 => ?_) (fun g2_33 => ?_)
      ·
       try replace g2_33 := V.dec g2_33
       try simp only [V.mk] at g2_33
       refine V.ru 1 ?_
       refine V.yes rfl rfl rfl ?_
       refine V.loadO T_ok Fk2 rfl rfl rfl rfl rfl ?_
       refine V.ru 1 ?_
       refine V.yes rfl rfl rfl ?_
       refine V.loadO T_ok Fk9 rfl rfl rfl rfl rfl ?_
       refine V.ru 3 ?_
       refine V.split (j := 40) (t := 94) rfl rfl (fun g2_40 => ?_) (fun g2_40 => ?_)
       ·
        try replace g2_40 := V.dec g2_40
        try simp only [V.mk] at g2_40
        refine V.ru 1 ?_
        refine V.yes rfl rfl rfl ?_
        refine V.loadO T_ok Fk2 rfl rfl rfl rfl rfl ?_
        refine V.ru 1 ?_
        refine V.yes rfl rfl rfl ?_
        refine V.loadO T_ok Fk9 rfl rfl rfl rfl rfl ?_
        refine V.ru 3 ?_
        refine V.nt ?_
        refine V.sr ?_
        refine V.ru 12 ?_
        refine V.nt ?_
        refine V.ret ?_
        refine V.done rfl ?_
        replace HG := HG.grow (G4.trans G11)
        exact ⟨(congrArg Value.bool (by first | rfl | (unfold smB; grind))), HG⟩
       ·
        try replace g2_40 := V.dec g2_40
        try simp only [V.mk] at g2_40
        refine V.ru 7 ?_
        refine V.nt ?_
        refine V.sr ?_
        refine V.ru 12 ?_
        refine V.nt ?_
        refine V.ret ?_
        refine V.done rfl ?_
        replace HG := HG.grow (G4.trans G11)
        exact ⟨(congrArg Value.bool (by first | rfl | (unfold smB; grind))), HG⟩
      ·
       try replace g2_33 := V.dec g2_33
       try simp only [V.mk] at g2_33
       refine V.ru 14 ?_
       refine V.nt ?_
       refine V.sr ?_
       refine V.ru 12 ?_
       refine V.nt ?_
       refine V.ret ?_
       refine V.done rfl ?_
       replace HG := HG.grow (G4.trans G11)
       exact ⟨(congrArg Value.bool (by first | rfl | (unfold smB; grind))), HG⟩
     ·
      try replace g2_26 := V.dec g2_26
      try simp only [V.mk] at g2_26
      refine V.ru 21 ?_
      refine V.nt ?_
      refine V.sr ?_
      refine V.ru 12 ?_
      refine V.nt ?_
      refine V.ret ?_
      refine V.done rfl ?_
      replace HG := HG.grow (G4.trans G11)
      exact ⟨(congrArg Value.bool (by first | rfl | (unfold smB; grind))), HG⟩
    ·
     try replace g2_19 := V.dec g2_19
     try simp only [V.mk] at g2_19
     refine V.ru 28 ?_
     refine V.nt ?_
     refine V.sr ?_
     refine V.ru 12 ?_
     refine V.nt ?_
     refine V.ret ?_
     refine V.done rfl ?_
     replace HG := HG.grow (G4.trans G11)
     exact ⟨(congrArg Value.bool (by first | rfl | (unfold smB; grind))), HG⟩
   ·
    try replace g2_12 := V.dec g2_12
    try simp only [V.mk] at g2_12
    refine V.ru 35 ?_
    refine V.nt ?_
    refine V.sr ?_
    refine V.ru 12 ?_
    refine V.nt ?_
    refine V.ret ?_
    refine V.done rfl ?_
    replace HG := HG.grow (G4.trans G11)
    exact ⟨(congrArg Value.bool (by first | rfl | (unfold smB; grind))), HG⟩
  ·
   try replace g2_5 := V.dec g2_5
   try simp only [V.mk] at g2_5
   refine V.ru 42 ?_
   refine V.nt ?_
   refine V.sr ?_
   refine V.ru 12 ?_
   refine V.nt ?_
   refine V.ret ?_
   refine V.done rfl ?_
   replace HG := HG.grow (G4.trans G11)
   exact ⟨(congrArg Value.bool (by first | rfl | (unfold smB; grind))), HG⟩

end Go.Proofs.YtmmgmkklakkooaaGreat
