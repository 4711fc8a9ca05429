/- Proved here: walks: what functions of this seat's program return and what they leave of memory, each as a contract. Conditions: stated at each theorem. -/
import Derived.Test.YtmmgmkklakkooaaGreatMmsg6
namespace Go.Proofs.YtmmgmkklakkooaaGreat
set_option linter.unusedVariables false
set_option linter.unusedSimpArgs false
open Go
open V (Bytes Meets Env Sl Own Gr Fr Cells S)

abbrev m1 : MsgV := ⟨7, 2, 0, 0, 0, 0, 0, 0, false, [], [], 0, 0, cmdZ, ⟨0, 0, 0, [(V.S [107], V.S [118])], true, 0, 0, S [], 0, 0, recZ0⟩⟩
set_option maxHeartbeats 900000 in
set_option maxRecDepth 10000 in
theorem cfits_spec {w : World} {d : CmdV} {D_o : Nat → Prop} {c_o : Nat} {a_o : Option Addr} (F_o : Sl V.Cod.write w D_o a_o c_o d.ws) (hD_o : ∀ k, D_o k → k < w.heap.size)   :
    Meets Tryz.prog 27 [.agg #[.int .i64 d.kd, .int .i64 d.id, .int .i64 d.le, .int .i64 d.nd, .int .i64 d.ti, .int .i64 d.te, .string d.an, .int .i64 d.sw, .int .i64 d.sl, .int .i64 d.sq, .string d.fr, .string d.to, .string d.va, .bool d.go, .int .i64 d.aw, .int .i64 d.al, .int .i64 d.lw, .int .i64 d.ll, .bool d.cm, .bool d.st, .slice a_o d.ws.length c_o, .int .i64 d.pr]] w fun r w' => ∃ (rv1 : Bool), r = .bool rv1 ∧ Gr w w' := by
 have HG := V.Fr.refl [] w
 refine V.enter (n := 48) Tryz.func27 rfl rfl (by decide) rfl ?_
 refine V.sr ?_
 refine V.box rfl rfl rfl rfl ?_
 rintro k1 w3 s5 s6 G4 Fk2
 have z7 := V.Fr.size G4
 try simp only [V.cellsL, V.spliceL] at Fk2
 refine V.ru 1 ?_
 refine V.nt ?_
 refine V.seq ?_
 refine V.sr ?_
 refine V.ru 1 ?_
 refine V.nt ?_
 refine V.block ?_
 replace F_o := F_o.gr G4
 have hl63a := F_o.len63
 replace HG := HG.grow G4
 refine V.loopM (fun m e v9 => Fr [] w v9 ∧ w3.heap.size ≤ v9.heap.size ∧ Sl V.Cod.write v9 D_o a_o c_o d.ws ∧ Cells v9 k1 [.int .i64 d.kd, .int .i64 d.id, .int .i64 d.le, .int .i64 d.nd, .int .i64 d.ti, .int .i64 d.te, .string d.an, .int .i64 d.sw, .int .i64 d.sl, .int .i64 d.sq, .string d.fr, .string d.to, .string d.va, .bool d.go, .int .i64 d.aw, .int .i64 d.al, .int .i64 d.lw, .int .i64 d.ll, .bool d.cm, .bool d.st, .slice a_o d.ws.length c_o, .int .i64 d.pr] 41 ∧ ∃ (i : Nat) , m = (d.ws).length - i ∧ i ≤ (d.ws).length ∧ e 1 = .pointer (some ⟨k1, 0, none⟩) ∧ e 3 = .int .i64 (i : Int)) ?_ ?_
 ·
  exact ⟨_, HG, (by omega), F_o, Fk2, (0), rfl, (Nat.zero_le _), rfl, rfl⟩
 clear HG F_o Fk2
 rintro _ e v9 ⟨HG, z10, F_o, Fk2, i, rfl, hia, he0_1, he0_3⟩
 refine V.knownC (t := 1) he0_1 ?_
 refine V.knownC (t := 3) he0_3 ?_
 refine V.seq ?_
 refine V.sr ?_
 refine V.ru 2 ?_
 refine V.loadO T_ok Fk2 rfl rfl rfl rfl rfl ?_
 refine V.ru 2 ?_
 refine V.nt ?_
 refine V.condT rfl (fun h2 => ?_) (fun h2 => ?_)
 ·
  try replace h2 := V.dec h2
  try simp only [V.mk] at h2
  refine V.skip ?_
  refine V.tN ?_
  refine V.seq ?_
  refine V.block ?_
  refine V.sr ?_
  refine V.ru 3 ?_
  refine V.split (j := 2) (t := 13) rfl rfl (fun g4_2 => ?_) (fun g4_2 => ?_)
  ·
   try replace g4_2 := V.dec g4_2
   try simp only [V.mk] at g4_2
   refine V.ru 9 ?_
   refine V.nt ?_
   refine V.condY rfl rfl ?_
   refine V.sr ?_
   refine V.ru 1 ?_
   refine V.nt ?_
   refine V.ret ?_
   refine V.bR ?_
   refine V.tR ?_
   refine V.tR ?_
   refine V.bR ?_
   refine V.tR ?_
   refine V.done rfl ?_
   exact ⟨_, (by first | rfl | simp only [List.length_set]), HG⟩
  ·
   try replace g4_2 := V.dec g4_2
   try simp only [V.mk] at g4_2
   refine V.ru 1 ?_
   refine V.yes rfl rfl rfl ?_
   refine V.loadO T_ok Fk2 rfl rfl rfl rfl rfl ?_
   refine V.ru 1 ?_
   refine V.yes rfl rfl rfl ?_
   refine V.elem T_ok F_o rfl rfl sz78 rfl rfl rfl rfl V.lenA V.lenA ?_
   rintro b11 o12 cs13 hx14 hb15 hR18 hA16
   obtain ⟨x17, hx17⟩ : ∃ z', d.ws[((i : Int)).toNat] = z' := ⟨_, rfl⟩
   rw [hx17] at hR18
   obtain ⟨_, _, rfl, rfl, rfl⟩ := hR18
   try simp only [Int.toNat_natCast] at hx17 hx14
   refine V.ru 1 ?_
   refine V.yes rfl rfl rfl ?_
   refine V.loadA T_ok (o0 := o12) (off := 0) hA16 rfl rfl rfl rfl rfl ?_
   refine V.ru 3 ?_
   refine V.nt ?_
   refine V.condT rfl (fun h4 => ?_) (fun h4 => ?_)
   ·
    try replace h4 := V.dec h4
    try simp only [V.mk] at h4
    refine V.sr ?_
    refine V.ru 1 ?_
    refine V.nt ?_
    refine V.ret ?_
    refine V.bR ?_
    refine V.tR ?_
    refine V.tR ?_
    refine V.bR ?_
    refine V.tR ?_
    refine V.done rfl ?_
    exact ⟨_, (by first | rfl | simp only [List.length_set]), HG⟩
   ·
    try replace h4 := V.dec h4
    try simp only [V.mk] at h4
    refine V.skip ?_
    refine V.bN ?_
    refine V.tN ?_
    refine V.region ?_
    refine V.ru 1 ?_
    refine V.addN rfl rfl rfl rfl rfl V.lenA V.lenA ?_
    refine V.ru 1 ?_
    refine V.nt ?_
    exact ⟨_, (by omega), HG, (by omega), F_o, Fk2, (i + 1), rfl, (by omega), rfl, rfl⟩
 ·
  try replace h2 := V.dec h2
  try simp only [V.mk] at h2
  refine V.exit ?_
  refine V.tX ?_
  refine V.tX ?_
  refine V.bE ?_
  refine V.tN ?_
  refine V.sr ?_
  refine V.ru 2 ?_
  refine V.loadO T_ok Fk2 rfl rfl rfl rfl rfl ?_
  refine V.ru 3 ?_
  refine V.split (j := 5) (t := 28) rfl rfl (fun g6_5 => ?_) (fun g6_5 => ?_)
  ·
   try replace g6_5 := V.dec g6_5
   try simp only [V.mk] at g6_5
   refine V.ru 2 ?_
   refine V.yes rfl rfl rfl ?_
   refine V.loadO T_ok Fk2 rfl rfl rfl rfl rfl ?_
   refine V.ru 4 ?_
   refine V.split (j := 12) (t := 35) rfl rfl (fun g6_12 => ?_) (fun g6_12 => ?_)
   ·
    try replace g6_12 := V.dec g6_12
    try simp only [V.mk] at g6_12
    refine V.ru 2 ?_
    refine V.yes rfl rfl rfl ?_
    refine V.loadO T_ok Fk2 rfl rfl rfl rfl rfl ?_
    refine V.ru 4 ?_
    refine V.split (j := 19) (t := 42) rfl rfl (fun g6_19 => ?_) (fun g6_19 => ?_)
    ·
     try replace g6_19 := V.dec g6_19
     try simp only [V.mk] at g6_19
     refine V.ru 1 ?_
     refine V.yes rfl rfl rfl ?_
     refine V.loadO T_ok Fk2 rfl rfl rfl rfl rfl ?_
     refine V.ru 4 ?_
     refine V.nt ?_
     refine V.ret ?_
     refine V.done rfl ?_
     exact ⟨_, (by first | rfl | simp only [List.length_set]), HG⟩
    ·
     try replace g6_19 := V.dec g6_19
     try simp only [V.mk] at g6_19
     refine V.ru 6 ?_
     refine V.nt ?_
     refine V.ret ?_
     refine V.done rfl ?_
     exact ⟨_, (by first | rfl | simp only [List.length_set]), HG⟩
   ·
    try replace g6_12 := V.dec g6_12
    try simp only [V.mk] at g6_12
    refine V.ru 13 ?_
    refine V.nt ?_
    refine V.ret ?_
    refine V.done rfl ?_
    exact ⟨_, (by first | rfl | simp only [List.length_set]), HG⟩
  ·
   try replace g6_5 := V.dec g6_5
   try simp only [V.mk] at g6_5
   refine V.ru 20 ?_
   refine V.nt ?_
   refine V.ret ?_
   refine V.done rfl ?_
   exact ⟨_, (by first | rfl | simp only [List.length_set]), HG⟩

end Go.Proofs.YtmmgmkklakkooaaGreat
