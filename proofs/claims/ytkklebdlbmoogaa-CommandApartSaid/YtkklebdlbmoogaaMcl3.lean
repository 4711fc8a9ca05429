/- Proved here: walks: what functions of this seat's program return and what they leave of memory, each as a contract. Conditions: stated at each theorem. -/
import Derived.Test.YtkklebdlbmoogaaMcl2
namespace Go.Proofs.Ytkklebdlbmoogaa
set_option linter.unusedVariables false
set_option linter.unusedSimpArgs false
open Go
open V (Bytes Meets Env Sl Own Gr Fr Cells S)

section
open V
theorem V.remT {P : Program} {n : Nat} {ops : Array Oper} {w : World} {Q : Post} {e : Env} {rest : List Oper} {o : Oper} {d : Nat} {t t' : Nat} {x y : Operand} {a b : Int} (ho : o.op = .binOp .rem t x y t') (hx : evn n e x = some (.int .i64 a)) (hy : evn n e y = some (.int .i64 b)) (hg : o.guard = none) (hd : o.dst = some d) (h1 : 0 < b)
    (K : VL P n ops Q rest (e.set d (.int .i64 (a.tmod b))) w) : VL P n ops Q (o :: rest) e w := by
  refine step hg hd ?_ K
  simp only [execOp, ho, evn_eval hx, evn_eval hy]
  refine run_pure_value (bin1_run ?_)
  have hb : ¬ b = 0 := by omega
  simp [bin1, bin2, hb]
end
theorem tmod_abs (a : Int) (n : Nat) (h : 0 < n) : -(n : Int) < a.tmod n ∧ a.tmod n < n := by
  have := Int.natAbs_tmod a n
  have h2 : a.natAbs % n < n := Nat.mod_lt _ h
  simp only [Int.natAbs_natCast] at this
  omega
theorem sz_cmd {d : CmdV} (h : cmdB d = true) : SzOk d := by
  have hs := cmd_small h
  have := hs.an; have := hs.fr; have := hs.to; have := hs.va
  exact ⟨by omega, by omega, by omega, by omega, fun x hx => by have := (hs.wn x hx).1; omega⟩
theorem enc_pos (d : CmdV) : 0 < (encB d).length := by
  unfold encB nb numB
  rw [List.length_append]
  split <;> simp <;> omega
theorem dec_cases (b : List UInt8) (h : (if (decC b).isSome = true then (0 : Int) else 131) = 0) : ∃ x, decC b = some x ∧ cmdB x = true ∧ b = encB x ∧ SzOk x := by
  cases hx : decC b with
  | none => rw [hx] at h; simp at h
  | some x => obtain ⟨h1, h2⟩ := decC_some hx; exact ⟨x, rfl, h1, h2, sz_cmd h1⟩
theorem err_no {d : CmdV} (h : ¬ (if cmdB d = true then (0 : Int) else 131) = 0) : cmdB d = false := by
  cases hq : cmdB d
  · rfl
  · rw [hq] at h; simp at h
theorem err_ok {d : CmdV} (h : (if cmdB d = true then (0 : Int) else 131) = 0) : cmdB d = true := by
  cases hq : cmdB d
  · rw [hq] at h; simp at h
  · rfl
theorem enc_same {c d : CmdV} (h : cmdB c = true) (h' : cmdB d = true) : decide (S (encB c) = S (encB d)) = smB c d := by
  rw [Bool.eq_iff_iff, decide_eq_true_eq, smB_eq, V.S_inj]
  exact ⟨enc_inj h h', fun e => by rw [e]⟩
theorem smB_comm (c d : CmdV) : smB c d = smB d c := by
  rw [Bool.eq_iff_iff, smB_eq, smB_eq]; exact eq_comm

set_option maxHeartbeats 900000 in
set_option maxRecDepth 10000 in
theorem commandBack_walk {w : World} {d : CmdV} {D_o : Nat → Prop} {c_o : Nat} {a_o : Option Addr} (F_o : Sl V.Cod.write w D_o a_o c_o d.ws) (hD_o : ∀ k, D_o k → k < w.heap.size) {D_b : Nat → Prop} {c_b : Nat} {a_b : Option Addr} {b : List UInt8} (F_b : Sl V.Cod.byte w D_b a_b c_b b) (hD_b : ∀ k, D_b k → k < w.heap.size) {at_ : Int} (hz : SzOk d) :
    Meets Try.prog 4 [.agg #[.int .i64 d.kd, .int .i64 d.id, .int .i64 d.le, .int .i64 d.nd, .int .i64 d.ti, .int .i64 d.te, .string d.an, .int .i64 d.sw, .int .i64 d.sl, .int .i64 d.sq, .string d.fr, .string d.to, .string d.va, .bool d.go, .int .i64 d.aw, .int .i64 d.al, .int .i64 d.lw, .int .i64 d.ll, .bool d.cm, .bool d.st, .slice a_o d.ws.length c_o, .int .i64 d.pr], .slice a_b b.length c_b, .int .i64 at_] w fun r w' => r = .bool true ∧ Gr w w' := by
 have HG := V.Fr.refl [] w
 refine V.enter (n := 124) Try.func4 rfl rfl (by decide) rfl ?_
 refine V.seq ?_
 refine V.region ?_
 refine V.box rfl rfl rfl rfl ?_
 rintro k1 w3 s5 s6 G4 Fk2
 have z7 := V.Fr.size G4
 try replace F_o := F_o.gr G4
 try replace F_b := F_b.gr G4
 replace HG := HG.grow G4
 clear G4
 try simp only [V.cellsL, V.spliceL] at Fk2
 refine V.run T_ok 1 rfl ?_
 refine V.nil ?_
 refine V.tN ?_
 refine V.seq ?_
 refine V.region ?_
 refine V.loadO T_ok Fk2 rfl rfl rfl rfl rfl ?_
 refine V.call (fitsC_spec (d := d) F_o (fun k hk => by have := hD_o k hk; omega)) rfl rfl rfl ?_
 rintro _ w8 ⟨rfl, G9⟩
 have z10 := V.Fr.size G9
 try replace F_o := F_o.gr G9
 try replace F_b := F_b.gr G9
 try replace Fk2 := Fk2.gr G9
 replace HG := HG.grow G9
 clear G9
 refine V.run T_ok 1 rfl ?_
 refine V.nil ?_
 refine V.tN ?_
 refine V.seq ?_
 refine V.seq ?_
 refine V.region ?_
 refine V.run T_ok 3 rfl ?_
 refine V.orG T_ok 3 2 25 rfl rfl rfl rfl rfl rfl rfl rfl ?_
 refine V.nil ?_
 refine V.tN ?_
 refine V.condT rfl (fun h2 => ?_) (fun h2 => ?_)
 ·
  try replace h2 := V.dec h2
  try simp only [V.mk0, V.mk1, V.mk2, V.mk3] at h2
  refine V.seq ?_
  refine V.region ?_
  refine V.call (alive_spec) rfl rfl rfl ?_
  rintro _ w11 ⟨rfl, G12⟩
  have z13 := V.Fr.size G12
  try replace F_o := F_o.gr G12
  try replace F_b := F_b.gr G12
  try replace Fk2 := Fk2.gr G12
  replace HG := HG.grow G12
  clear G12
  refine V.run T_ok 1 rfl ?_
  refine V.nil ?_
  refine V.tN ?_
  refine V.ret ?_
  refine V.tR ?_
  refine V.done rfl ?_
  exact ⟨(by first | rfl | simp only [List.length_set]), HG⟩
 ·
  try replace h2 := V.dec h2
  try simp only [V.mk0, V.mk1, V.mk2, V.mk3] at h2
  refine V.skip ?_
  refine V.tN ?_
  refine V.seq ?_
  refine V.region ?_
  refine V.run T_ok 1 rfl ?_
  refine V.call (decode_spec F_b (fun k hk => by have := hD_b k hk; omega) (by first | omega | (simp only [List.length_take, List.length_drop, List.length_append, List.length_cons, List.length_nil, List.length_replicate, List.length_set, V.length_data, V.S_size]; omega))) rfl rfl rfl ?_
  rintro _ w17 ⟨a14, c15, rfl, F16, G18⟩
  have z19 := V.Fr.size G18
  try replace F_o := F_o.gr G18
  try replace F_b := F_b.gr G18
  try replace Fk2 := Fk2.gr G18
  replace HG := HG.grow G18
  clear G18
  refine V.run T_ok 3 rfl ?_
  refine V.alloc zero33 rfl rfl rfl ?_
  rintro k20 w22 s24 s25 G23 Fk21
  have z26 := V.Fr.size G23
  try replace F_o := F_o.gr G23
  try replace F_b := F_b.gr G23
  try replace Fk2 := Fk2.gr G23
  try replace F16 := F16.gr G23
  replace HG := HG.grow G23
  clear G23
  try simp only [V.cellsL, V.spliceL] at Fk21
  refine V.storeO Fk21 rfl rfl rfl rfl sz33 rfl rfl rfl rfl ?_
  rintro w27 G28 z30 Fs29
  clear Fk21
  have z31 := V.Fr.size G28
  first | replace F_o := F_o.mb G28 hD_o | clear F_o | skip
  first | replace F_b := F_b.mb G28 hD_b | clear F_b | skip
  first | replace Fk2 := Fk2.mv1 G28 (by omega) | clear Fk2 | skip
  first | replace F16 := F16.ma G28 | clear F16 | skip
  replace HG := HG.n1 G28
  clear G28
  have Fk21 := Fs29; clear Fs29
  simp only [V.spliceL, V.cellsL] at Fk21
  refine V.run T_ok 1 rfl ?_
  refine V.nil ?_
  refine V.tN ?_
  refine V.seq ?_
  refine V.seq ?_
  refine V.region ?_
  refine V.run T_ok 2 rfl ?_
  refine V.nil ?_
  refine V.tN ?_
  refine V.condT rfl (fun h5 => ?_) (fun h5 => ?_)
  ·
   try replace h5 := V.dec h5
   try simp only [V.mk0, V.mk1, V.mk2, V.mk3] at h5
   obtain ⟨x, hx, hxb, hxe, hxs⟩ := dec_cases b h5
   have hz8 : SzOk ((decC b).getD cmdZ) := by rw [hx]; exact hxs
   refine V.seq ?_
   refine V.region ?_
   refine V.loadO T_ok Fk21 rfl rfl rfl rfl rfl ?_
   refine V.call (encode_spec (d := ((decC b).getD cmdZ)) F16.sl (fun k hk => by have := hk.2; omega) (by first | (with_reducible assumption) | exact hz | (constructor <;> first | exact hz.an | exact hz.fr | exact hz.to | exact hz.va | exact hz.ws | exact (by decide : (S []).size ≤ 9223372036854775807) | exact (fun x hx => nomatch (show x ∈ ([] : List (ByteArray × Int)) from hx))))) rfl rfl rfl ?_
   rintro _ w35 ⟨a32, c33, rfl, F34, G36⟩
   have z37 := V.Fr.size G36
   try replace F_o := F_o.gr G36
   try replace F_b := F_b.gr G36
   try replace Fk2 := Fk2.gr G36
   try replace F16 := F16.gr G36
   try replace Fk21 := Fk21.gr G36
   replace HG := HG.grow G36
   clear G36
   refine V.run T_ok 5 rfl ?_
   refine V.nil ?_
   refine V.tN ?_
   refine V.seq ?_
   refine V.region ?_
   refine V.run T_ok 3 rfl ?_
   refine V.splitF (j := 2) (t := 45) rfl rfl (by (rw [hx]; simp [hxb])) ?_
   refine V.run T_ok 1 rfl ?_
   refine V.yes rfl rfl rfl ?_
   refine V.toStr F34.sl Try.underlying22 Try.underlying5 Try.underlying9 rfl rfl rfl rfl ?_
   refine V.run T_ok 1 rfl ?_
   refine V.yes rfl rfl rfl ?_
   refine V.toStr F_b Try.underlying22 Try.underlying5 Try.underlying9 rfl rfl rfl rfl ?_
   refine V.run T_ok 3 rfl ?_
   refine V.splitF (j := 9) (t := 52) rfl rfl (by (rw [hx]; simp [hxb, ← hxe])) ?_
   refine V.yes rfl rfl rfl ?_
   refine V.loadO T_ok Fk21 rfl rfl rfl rfl rfl ?_
   refine V.yes rfl rfl rfl ?_
   refine V.call (cright_spec (d := ((decC b).getD cmdZ)) F16.sl (fun k hk => by have := hk.2; omega) (by first | (with_reducible assumption) | exact hz | (constructor <;> first | exact hz.an | exact hz.fr | exact hz.to | exact hz.va | exact hz.ws | exact (by decide : (S []).size ≤ 9223372036854775807) | exact (fun x hx => nomatch (show x ∈ ([] : List (ByteArray × Int)) from hx))))) rfl rfl rfl ?_
   rintro _ w38 ⟨rfl, G39⟩
   have z40 := V.Fr.size G39
   try replace F_o := F_o.gr G39
   try replace F_b := F_b.gr G39
   try replace Fk2 := Fk2.gr G39
   try replace F16 := F16.gr G39
   try replace Fk21 := Fk21.gr G39
   try replace F34 := F34.gr G39
   replace HG := HG.grow G39
   clear G39
   refine V.run T_ok 2 rfl ?_
   refine V.nil ?_
   refine V.tN ?_
   refine V.condN rfl (by (rw [hx]; simp [hxb])) ?_
   refine V.skip ?_
   refine V.tN ?_
   refine V.seq ?_
   refine V.region ?_
   refine V.loadO T_ok Fk2 rfl rfl rfl rfl rfl ?_
   refine V.call (encode_spec (d := d) F_o (fun k hk => by have := hD_o k hk; omega) (by first | (with_reducible assumption) | exact hz | (constructor <;> first | exact hz.an | exact hz.fr | exact hz.to | exact hz.va | exact hz.ws | exact (by decide : (S []).size ≤ 9223372036854775807) | exact (fun x hx => nomatch (show x ∈ ([] : List (ByteArray × Int)) from hx))))) rfl rfl rfl ?_
   rintro _ w44 ⟨a41, c42, rfl, F43, G45⟩
   have z46 := V.Fr.size G45
   try replace F_o := F_o.gr G45
   try replace F_b := F_b.gr G45
   try replace Fk2 := Fk2.gr G45
   try replace F16 := F16.gr G45
   try replace Fk21 := Fk21.gr G45
   try replace F34 := F34.gr G45
   replace HG := HG.grow G45
   clear G45
   refine V.run T_ok 5 rfl ?_
   refine V.nil ?_
   refine V.tN ?_
   refine V.seq ?_
   refine V.seq ?_
   refine V.region ?_
   refine V.run T_ok 2 rfl ?_
   refine V.nil ?_
   refine V.tN ?_
   refine V.condT rfl (fun h10 => ?_) (fun h10 => ?_)
   ·
    try replace h10 := V.dec h10
    try simp only [V.mk0, V.mk1, V.mk2, V.mk3] at h10
    have hnr := err_no h10
    refine V.seq ?_
    refine V.region ?_
    refine V.call (alive_spec) rfl rfl rfl ?_
    rintro _ w47 ⟨rfl, G48⟩
    have z49 := V.Fr.size G48
    try replace F_o := F_o.gr G48
    try replace F_b := F_b.gr G48
    try replace Fk2 := Fk2.gr G48
    try replace F16 := F16.gr G48
    try replace Fk21 := Fk21.gr G48
    try replace F34 := F34.gr G48
    try replace F43 := F43.gr G48
    replace HG := HG.grow G48
    clear G48
    refine V.run T_ok 5 rfl ?_
    refine V.splitT (j := 5) (t := 69) rfl rfl (by (rw [hnr]; rfl)) ?_
    refine V.yes rfl rfl rfl ?_
    refine V.loadO T_ok Fk2 rfl rfl rfl rfl rfl ?_
    refine V.yes rfl rfl rfl ?_
    refine V.call (cright_spec (d := d) F_o (fun k hk => by have := hD_o k hk; omega) (by first | (with_reducible assumption) | exact hz | (constructor <;> first | exact hz.an | exact hz.fr | exact hz.to | exact hz.va | exact hz.ws | exact (by decide : (S []).size ≤ 9223372036854775807) | exact (fun x hx => nomatch (show x ∈ ([] : List (ByteArray × Int)) from hx))))) rfl rfl rfl ?_
    rintro _ w50 ⟨rfl, G51⟩
    have z52 := V.Fr.size G51
    try replace F_o := F_o.gr G51
    try replace F_b := F_b.gr G51
    try replace Fk2 := Fk2.gr G51
    try replace F16 := F16.gr G51
    try replace Fk21 := Fk21.gr G51
    try replace F34 := F34.gr G51
    try replace F43 := F43.gr G51
    replace HG := HG.grow G51
    clear G51
    refine V.run T_ok 3 rfl ?_
    refine V.nil ?_
    refine V.tN ?_
    refine V.ret ?_
    refine V.tR ?_
    refine V.done rfl ?_
    exact ⟨congrArg Value.bool (by rw [hnr]; rfl), HG⟩
   ·
    try replace h10 := V.dec h10
    try simp only [V.mk0, V.mk1, V.mk2, V.mk3] at h10
    have hcb := err_ok (by first | exact h10 | exact Decidable.not_not.1 h10)
    refine V.skip ?_
    refine V.tN ?_
    refine V.seq ?_
    have hel := enc_len hcb
    have hep := enc_pos d
    have hr53 : (if cmdB d = true then encB d else []) = encB d := if_pos hcb
    rw [hr53] at F43 ⊢
    clear hr53
    refine V.region ?_
    refine V.run T_ok 1 rfl ?_
    refine V.call (decode_spec F43.sl (fun k hk => by have := hk.2; omega) (by first | omega | (simp only [List.length_take, List.length_drop, List.length_append, List.length_cons, List.length_nil, List.length_replicate, List.length_set, V.length_data, V.S_size]; omega))) rfl rfl rfl ?_
    rintro _ w57 ⟨a54, c55, rfl, F56, G58⟩
    have z59 := V.Fr.size G58
    try replace F_o := F_o.gr G58
    try replace F_b := F_b.gr G58
    try replace Fk2 := Fk2.gr G58
    try replace F16 := F16.gr G58
    try replace Fk21 := Fk21.gr G58
    try replace F34 := F34.gr G58
    try replace F43 := F43.gr G58
    replace HG := HG.grow G58
    clear G58
    refine V.run T_ok 3 rfl ?_
    refine V.alloc zero33 rfl rfl rfl ?_
    rintro k60 w62 s64 s65 G63 Fk61
    have z66 := V.Fr.size G63
    try replace F_o := F_o.gr G63
    try replace F_b := F_b.gr G63
    try replace Fk2 := Fk2.gr G63
    try replace F16 := F16.gr G63
    try replace Fk21 := Fk21.gr G63
    try replace F34 := F34.gr G63
    try replace F43 := F43.gr G63
    try replace F56 := F56.gr G63
    replace HG := HG.grow G63
    clear G63
    try simp only [V.cellsL, V.spliceL] at Fk61
    refine V.storeO Fk61 rfl rfl rfl rfl sz33 rfl rfl rfl rfl ?_
    rintro w67 G68 z70 Fs69
    clear Fk61
    have z71 := V.Fr.size G68
    first | replace F_o := F_o.mb G68 hD_o | clear F_o | skip
    first | replace F_b := F_b.mb G68 hD_b | clear F_b | skip
    first | replace Fk2 := Fk2.mv1 G68 (by omega) | clear Fk2 | skip
    first | replace F16 := F16.ma G68 | clear F16 | skip
    first | replace Fk21 := Fk21.mv1 G68 (by omega) | clear Fk21 | skip
    first | replace F34 := F34.ma G68 | clear F34 | skip
    first | replace F43 := F43.ma G68 | clear F43 | skip
    first | replace F56 := F56.ma G68 | clear F56 | skip
    replace HG := HG.n1 G68
    clear G68
    have Fk61 := Fs69; clear Fs69
    simp only [V.spliceL, V.cellsL] at Fk61
    refine V.run T_ok 1 rfl ?_
    refine V.nil ?_
    refine V.tN ?_
    refine V.seq ?_
    refine V.seq ?_
    refine V.region ?_
    refine V.run T_ok 3 rfl ?_
    refine V.nil ?_
    refine V.tN ?_
    refine V.condN rfl (by (apply decide_eq_false; omega)) ?_
    refine V.skip ?_
    refine V.tN ?_
    refine V.seq ?_
    refine V.region ?_
    refine V.run T_ok 3 rfl ?_
    refine V.remT rfl rfl rfl rfl rfl (by omega) ?_
    have htm := tmod_abs at_ (encB d).length (by omega)
    refine V.run T_ok 1 rfl ?_
    refine V.nil ?_
    refine V.tN ?_
    refine V.seq ?_
    refine V.seq ?_
    refine V.region ?_
    refine V.run T_ok 2 rfl ?_
    refine V.nil ?_
    refine V.tN ?_
    refine V.condT rfl (fun h16 => ?_) (fun h16 => ?_)
    ·
     try replace h16 := V.dec h16
     try simp only [V.mk0, V.mk1, V.mk2, V.mk3] at h16
     refine V.region ?_
     refine V.run T_ok 1 rfl ?_
     refine V.run T_ok 1 rfl ?_
     rw [V.wrap_in (x := 0 - Int.tmod at_ ((encB d).length : Int)) (by omega) (by omega)]
     refine V.run T_ok 1 rfl ?_
     refine V.nil ?_
     refine V.tN ?_
     refine V.seq ?_
     refine V.region ?_
     refine V.run T_ok 2 rfl ?_
     refine V.cutL T_ok F43.sl rfl rfl sz5 rfl rfl rfl rfl (by first | omega | (simp only [List.length_take, List.length_drop, List.length_append, List.length_cons, List.length_nil, List.length_replicate, List.length_set, V.length_data, V.S_size]; omega)) (by first | omega | (simp only [List.length_take, List.length_drop, List.length_append, List.length_cons, List.length_nil, List.length_replicate, List.length_set, V.length_data, V.S_size]; omega)) (fun a72 F74 => ?_)
     refine V.call (decode_spec F74 (fun k hk => by have := hk.2; omega) (by first | omega | (simp only [List.length_take, List.length_drop, List.length_append, List.length_cons, List.length_nil, List.length_replicate, List.length_set, V.length_data, V.S_size]; omega))) rfl rfl rfl ?_
     rintro _ w78 ⟨a75, c76, rfl, F77, G79⟩
     have z80 := V.Fr.size G79
     try replace F_o := F_o.gr G79
     try replace F_b := F_b.gr G79
     try replace Fk2 := Fk2.gr G79
     try replace F16 := F16.gr G79
     try replace Fk21 := Fk21.gr G79
     try replace F34 := F34.gr G79
     try replace F43 := F43.gr G79
     try replace F56 := F56.gr G79
     try replace Fk61 := Fk61.gr G79
     try replace F74 := F74.gr G79
     replace HG := HG.grow G79
     clear G79
     refine V.run T_ok 3 rfl ?_
     refine V.alloc zero33 rfl rfl rfl ?_
     rintro k81 w83 s85 s86 G84 Fk82
     have z87 := V.Fr.size G84
     try replace F_o := F_o.gr G84
     try replace F_b := F_b.gr G84
     try replace Fk2 := Fk2.gr G84
     try replace F16 := F16.gr G84
     try replace Fk21 := Fk21.gr G84
     try replace F34 := F34.gr G84
     try replace F43 := F43.gr G84
     try replace F56 := F56.gr G84
     try replace Fk61 := Fk61.gr G84
     try replace F74 := F74.gr G84
     try replace F77 := F77.gr G84
     replace HG := HG.grow G84
     clear G84
     try simp only [V.cellsL, V.spliceL] at Fk82
     refine V.storeO Fk82 rfl rfl rfl rfl sz33 rfl rfl rfl rfl ?_
     rintro w88 G89 z91 Fs90
     clear Fk82
     have z92 := V.Fr.size G89
     first | replace F_o := F_o.mb G89 hD_o | clear F_o | skip
     first | replace F_b := F_b.mb G89 hD_b | clear F_b | skip
     first | replace Fk2 := Fk2.mv1 G89 (by omega) | clear Fk2 | skip
     first | replace F16 := F16.ma G89 | clear F16 | skip
     first | replace Fk21 := Fk21.mv1 G89 (by omega) | clear Fk21 | skip
     first | replace F34 := F34.ma G89 | clear F34 | skip
     first | replace F43 := F43.ma G89 | clear F43 | skip
     first | replace F56 := F56.ma G89 | clear F56 | skip
     first | replace Fk61 := Fk61.mv1 G89 (by omega) | clear Fk61 | skip
     first | replace F74 := F74.ma G89 | clear F74 | skip
     first | replace F77 := F77.ma G89 | clear F77 | skip
     replace HG := HG.n1 G89
     clear G89
     have Fk82 := Fs90; clear Fs90
     simp only [V.spliceL, V.cellsL] at Fk82
     refine V.run T_ok 1 rfl ?_
     refine V.nil ?_
     refine V.tN ?_
     refine V.seq ?_
     refine V.region ?_
     refine V.mkSlice T_ok zero5 rfl rfl sz5 rfl rfl rfl rfl rfl rfl ?_
     rintro k93 w96 s98 s99 G97 Fk94
     have z100 := V.Fr.size G97
     try replace F_o := F_o.gr G97
     try replace F_b := F_b.gr G97
     try replace Fk2 := Fk2.gr G97
     try replace F16 := F16.gr G97
     try replace Fk21 := Fk21.gr G97
     try replace F34 := F34.gr G97
     try replace F43 := F43.gr G97
     try replace F56 := F56.gr G97
     try replace Fk61 := Fk61.gr G97
     try replace F74 := F74.gr G97
     try replace F77 := F77.gr G97
     try replace Fk82 := Fk82.gr G97
     replace HG := HG.grow G97
     clear G97
     have F95 := V.rowOfB (xs := ([] : List UInt8)) Fk94 rfl rfl
     clear Fk94
     refine V.run T_ok 1 rfl ?_
     refine V.appendR (F95) (V.From.flat V.flat_byte (D' := V.None') (F43.sl.from Try.underlying22)) elT22_22 rfl rfl rfl rfl rfl (by first | omega | (simp only [List.length_take, List.length_drop, List.length_append, List.length_cons, List.length_nil, List.length_replicate, List.length_set, V.length_data, V.S_size]; omega)) (by unfold maxLen; first | omega | (simp only [List.length_take, List.length_drop, List.length_append, List.length_cons, List.length_nil, List.length_replicate, List.length_set, V.length_data, V.S_size]; omega)) (by omega) (by omega) (fun _ h => h.elim) (fun _ h => h.elim) ?_
     rintro a101 c102 w104 G105 s106 F103
     clear F95
     have z107 := Go.RowKit.Below.size G105
     first | replace F_o := V.Sl.bl F_o G105 (by first | exact (fun _ h => by have := h.2; omega) | (intro k h; have := hD_o k h; omega)) | clear F_o | skip
     first | replace F_b := V.Sl.bl F_b G105 (by first | exact (fun _ h => by have := h.2; omega) | (intro k h; have := hD_b k h; omega)) | clear F_b | skip
     first | replace Fk2 := V.Cells.bl Fk2 G105 (by omega) | clear Fk2 | skip
     first | replace F16 := V.Row.bl F16 G105 (by first | exact ⟨fun _ h => h.elim, by omega⟩ | exact ⟨fun _ h => by have := h.2; omega, by omega⟩) | clear F16 | skip
     first | replace Fk21 := V.Cells.bl Fk21 G105 (by omega) | clear Fk21 | skip
     first | replace F34 := V.Row.bl F34 G105 (by first | exact ⟨fun _ h => h.elim, by omega⟩ | exact ⟨fun _ h => by have := h.2; omega, by omega⟩) | clear F34 | skip
     first | replace F43 := V.Row.bl F43 G105 (by first | exact ⟨fun _ h => h.elim, by omega⟩ | exact ⟨fun _ h => by have := h.2; omega, by omega⟩) | clear F43 | skip
     first | replace F56 := V.Row.bl F56 G105 (by first | exact ⟨fun _ h => h.elim, by omega⟩ | exact ⟨fun _ h => by have := h.2; omega, by omega⟩) | clear F56 | skip
     first | replace Fk61 := V.Cells.bl Fk61 G105 (by omega) | clear Fk61 | skip
     first | replace F74 := V.Sl.bl F74 G105 (by first | exact (fun _ h => by have := h.2; omega) | (intro k h; have := hD k h; omega)) | clear F74 | skip
     first | replace F77 := V.Row.bl F77 G105 (by first | exact ⟨fun _ h => h.elim, by omega⟩ | exact ⟨fun _ h => by have := h.2; omega, by omega⟩) | clear F77 | skip
     first | replace Fk82 := V.Cells.bl Fk82 G105 (by omega) | clear Fk82 | skip
     replace HG := HG.bl (Go.RowKit.Below.mono G105 (by omega))
     clear G105
     rw [List.nil_append] at F103 ⊢
     refine V.mkSlice T_ok zero5 rfl rfl sz5 rfl rfl rfl rfl rfl rfl ?_
     rintro k108 w111 s113 s114 G112 Fk109
     have z115 := V.Fr.size G112
     try replace F_o := F_o.gr G112
     try replace F_b := F_b.gr G112
     try replace Fk2 := Fk2.gr G112
     try replace F16 := F16.gr G112
     try replace Fk21 := Fk21.gr G112
     try replace F34 := F34.gr G112
     try replace F43 := F43.gr G112
     try replace F56 := F56.gr G112
     try replace Fk61 := Fk61.gr G112
     try replace F74 := F74.gr G112
     try replace F77 := F77.gr G112
     try replace Fk82 := Fk82.gr G112
     try replace F103 := F103.gr G112
     replace HG := HG.grow G112
     clear G112
     have F110 := V.rowOfB (xs := ([0] : List UInt8)) Fk109 rfl rfl
     clear Fk109
     refine V.appendR (F103) (V.From.flat V.flat_byte (D' := V.None') (F110.sl.from Try.underlying22)) elT22_22 rfl rfl rfl rfl rfl (by first | omega | (simp only [List.length_take, List.length_drop, List.length_append, List.length_cons, List.length_nil, List.length_replicate, List.length_set, V.length_data, V.S_size]; omega)) (by unfold maxLen; first | omega | (simp only [List.length_take, List.length_drop, List.length_append, List.length_cons, List.length_nil, List.length_replicate, List.length_set, V.length_data, V.S_size]; omega)) (by omega) (by omega) (fun _ h => h.elim) (fun _ h => h.elim) ?_
     rintro a116 c117 w119 G120 s121 F118
     clear F103
     clear F110
     have z122 := Go.RowKit.Below.size G120
     first | replace F_o := V.Sl.bl F_o G120 (by first | exact (fun _ h => by have := h.2; omega) | (intro k h; have := hD_o k h; omega)) | clear F_o | skip
     first | replace F_b := V.Sl.bl F_b G120 (by first | exact (fun _ h => by have := h.2; omega) | (intro k h; have := hD_b k h; omega)) | clear F_b | skip
     first | replace Fk2 := V.Cells.bl Fk2 G120 (by omega) | clear Fk2 | skip
     first | replace F16 := V.Row.bl F16 G120 (by first | exact ⟨fun _ h => h.elim, by omega⟩ | exact ⟨fun _ h => by have := h.2; omega, by omega⟩) | clear F16 | skip
     first | replace Fk21 := V.Cells.bl Fk21 G120 (by omega) | clear Fk21 | skip
     first | replace F34 := V.Row.bl F34 G120 (by first | exact ⟨fun _ h => h.elim, by omega⟩ | exact ⟨fun _ h => by have := h.2; omega, by omega⟩) | clear F34 | skip
     first | replace F43 := V.Row.bl F43 G120 (by first | exact ⟨fun _ h => h.elim, by omega⟩ | exact ⟨fun _ h => by have := h.2; omega, by omega⟩) | clear F43 | skip
     first | replace F56 := V.Row.bl F56 G120 (by first | exact ⟨fun _ h => h.elim, by omega⟩ | exact ⟨fun _ h => by have := h.2; omega, by omega⟩) | clear F56 | skip
     first | replace Fk61 := V.Cells.bl Fk61 G120 (by omega) | clear Fk61 | skip
     first | replace F74 := V.Sl.bl F74 G120 (by first | exact (fun _ h => by have := h.2; omega) | (intro k h; have := hD k h; omega)) | clear F74 | skip
     first | replace F77 := V.Row.bl F77 G120 (by first | exact ⟨fun _ h => h.elim, by omega⟩ | exact ⟨fun _ h => by have := h.2; omega, by omega⟩) | clear F77 | skip
     first | replace Fk82 := V.Cells.bl Fk82 G120 (by omega) | clear Fk82 | skip
     replace HG := HG.bl (Go.RowKit.Below.mono G120 (by omega))
     clear G120
     refine V.call (decode_spec F118.sl (fun k hk => by have := hk.2; omega) (by first | omega | (simp only [List.length_take, List.length_drop, List.length_append, List.length_cons, List.length_nil, List.length_replicate, List.length_set, V.length_data, V.S_size]; omega))) rfl rfl rfl ?_
     rintro _ w126 ⟨a123, c124, rfl, F125, G127⟩
     have z128 := V.Fr.size G127
     try replace F_o := F_o.gr G127
     try replace F_b := F_b.gr G127
     try replace Fk2 := Fk2.gr G127
     try replace F16 := F16.gr G127
     try replace Fk21 := Fk21.gr G127
     try replace F34 := F34.gr G127
     try replace F43 := F43.gr G127
     try replace F56 := F56.gr G127
     try replace Fk61 := Fk61.gr G127
     try replace F74 := F74.gr G127
     try replace F77 := F77.gr G127
     try replace Fk82 := Fk82.gr G127
     try replace F118 := F118.gr G127
     replace HG := HG.grow G127
     clear G127
     refine V.run T_ok 3 rfl ?_
     refine V.alloc zero33 rfl rfl rfl ?_
     rintro k129 w131 s133 s134 G132 Fk130
     have z135 := V.Fr.size G132
     try replace F_o := F_o.gr G132
     try replace F_b := F_b.gr G132
     try replace Fk2 := Fk2.gr G132
     try replace F16 := F16.gr G132
     try replace Fk21 := Fk21.gr G132
     try replace F34 := F34.gr G132
     try replace F43 := F43.gr G132
     try replace F56 := F56.gr G132
     try replace Fk61 := Fk61.gr G132
     try replace F74 := F74.gr G132
     try replace F77 := F77.gr G132
     try replace Fk82 := Fk82.gr G132
     try replace F118 := F118.gr G132
     try replace F125 := F125.gr G132
     replace HG := HG.grow G132
     clear G132
     try simp only [V.cellsL, V.spliceL] at Fk130
     refine V.storeO Fk130 rfl rfl rfl rfl sz33 rfl rfl rfl rfl ?_
     rintro w136 G137 z139 Fs138
     clear Fk130
     have z140 := V.Fr.size G137
     first | replace F_o := F_o.mb G137 hD_o | clear F_o | skip
     first | replace F_b := F_b.mb G137 hD_b | clear F_b | skip
     first | replace Fk2 := Fk2.mv1 G137 (by omega) | clear Fk2 | skip
     first | replace F16 := F16.ma G137 | clear F16 | skip
     first | replace Fk21 := Fk21.mv1 G137 (by omega) | clear Fk21 | skip
     first | replace F34 := F34.ma G137 | clear F34 | skip
     first | replace F43 := F43.ma G137 | clear F43 | skip
     first | replace F56 := F56.ma G137 | clear F56 | skip
     first | replace Fk61 := Fk61.mv1 G137 (by omega) | clear Fk61 | skip
     first | replace F74 := F74.ma G137 | clear F74 | skip
     first | replace F77 := F77.ma G137 | clear F77 | skip
     first | replace Fk82 := Fk82.mv1 G137 (by omega) | clear Fk82 | skip
     first | replace F118 := F118.ma G137 | clear F118 | skip
     first | replace F125 := F125.ma G137 | clear F125 | skip
     replace HG := HG.n1 G137
     clear G137
     have Fk130 := Fs138; clear Fs138
     simp only [V.spliceL, V.cellsL] at Fk130
     refine V.run T_ok 1 rfl ?_
     refine V.nil ?_
     refine V.tN ?_
     refine V.seq ?_
     refine V.region ?_
     refine V.call (alive_spec) rfl rfl rfl ?_
     rintro _ w141 ⟨rfl, G142⟩
     have z143 := V.Fr.size G142
     try replace F_o := F_o.gr G142
     try replace F_b := F_b.gr G142
     try replace Fk2 := Fk2.gr G142
     try replace F16 := F16.gr G142
     try replace Fk21 := Fk21.gr G142
     try replace F34 := F34.gr G142
     try replace F43 := F43.gr G142
     try replace F56 := F56.gr G142
     try replace Fk61 := Fk61.gr G142
     try replace F74 := F74.gr G142
     try replace F77 := F77.gr G142
     try replace Fk82 := Fk82.gr G142
     try replace F118 := F118.gr G142
     try replace F125 := F125.gr G142
     try replace Fk130 := Fk130.gr G142
     replace HG := HG.grow G142
     clear G142
     refine V.run T_ok 5 rfl ?_
     refine V.splitT (j := 5) (t := 111) rfl rfl (by (rw [decC_enc hcb]; rfl)) ?_
     refine V.yes rfl rfl rfl ?_
     refine V.loadO T_ok Fk61 rfl rfl rfl rfl rfl ?_
     refine V.yes rfl rfl rfl ?_
     refine V.loadO T_ok Fk2 rfl rfl rfl rfl rfl ?_
     refine V.yes rfl rfl rfl ?_
     refine V.call (calike_spec (c := ((decC (encB d)).getD cmdZ)) (d := d) F56.sl (fun k hk => by have := hk.2; omega) F_o (fun k hk => by have := hD_o k hk; omega)) rfl rfl rfl ?_
     rintro _ w144 ⟨rfl, G145⟩
     have z146 := V.Fr.size G145
     try replace F_o := F_o.gr G145
     try replace F_b := F_b.gr G145
     try replace Fk2 := Fk2.gr G145
     try replace F16 := F16.gr G145
     try replace Fk21 := Fk21.gr G145
     try replace F34 := F34.gr G145
     try replace F43 := F43.gr G145
     try replace F56 := F56.gr G145
     try replace Fk61 := Fk61.gr G145
     try replace F74 := F74.gr G145
     try replace F77 := F77.gr G145
     try replace Fk82 := Fk82.gr G145
     try replace F118 := F118.gr G145
     try replace F125 := F125.gr G145
     try replace Fk130 := Fk130.gr G145
     replace HG := HG.grow G145
     clear G145
     refine V.run T_ok 2 rfl ?_
     refine V.splitT (j := 10) (t := 116) rfl rfl (by (rw [decC_enc hcb]; exact smB_self d)) ?_
     refine V.run T_ok 4 rfl ?_
     refine V.splitT (j := 14) (t := 120) rfl rfl (by (rw [decC_cut hcb (by omega)]; rfl)) ?_
     refine V.run T_ok 4 rfl ?_
     refine V.nil ?_
     refine V.tN ?_
     refine V.ret ?_
     refine V.done rfl ?_
     exact ⟨congrArg Value.bool (by rw [decC_more hcb]; rfl), HG⟩
    ·
     try replace h16 := V.dec h16
     try simp only [V.mk0, V.mk1, V.mk2, V.mk3] at h16
     refine V.skip ?_
     refine V.tN ?_
     refine V.seq ?_
     refine V.region ?_
     refine V.run T_ok 2 rfl ?_
     refine V.cutL T_ok F43.sl rfl rfl sz5 rfl rfl rfl rfl (by first | omega | (simp only [List.length_take, List.length_drop, List.length_append, List.length_cons, List.length_nil, List.length_replicate, List.length_set, V.length_data, V.S_size]; omega)) (by first | omega | (simp only [List.length_take, List.length_drop, List.length_append, List.length_cons, List.length_nil, List.length_replicate, List.length_set, V.length_data, V.S_size]; omega)) (fun a147 F149 => ?_)
     refine V.call (decode_spec F149 (fun k hk => by have := hk.2; omega) (by first | omega | (simp only [List.length_take, List.length_drop, List.length_append, List.length_cons, List.length_nil, List.length_replicate, List.length_set, V.length_data, V.S_size]; omega))) rfl rfl rfl ?_
     rintro _ w153 ⟨a150, c151, rfl, F152, G154⟩
     have z155 := V.Fr.size G154
     try replace F_o := F_o.gr G154
     try replace F_b := F_b.gr G154
     try replace Fk2 := Fk2.gr G154
     try replace F16 := F16.gr G154
     try replace Fk21 := Fk21.gr G154
     try replace F34 := F34.gr G154
     try replace F43 := F43.gr G154
     try replace F56 := F56.gr G154
     try replace Fk61 := Fk61.gr G154
     try replace F149 := F149.gr G154
     replace HG := HG.grow G154
     clear G154
     refine V.run T_ok 3 rfl ?_
     refine V.alloc zero33 rfl rfl rfl ?_
     rintro k156 w158 s160 s161 G159 Fk157
     have z162 := V.Fr.size G159
     try replace F_o := F_o.gr G159
     try replace F_b := F_b.gr G159
     try replace Fk2 := Fk2.gr G159
     try replace F16 := F16.gr G159
     try replace Fk21 := Fk21.gr G159
     try replace F34 := F34.gr G159
     try replace F43 := F43.gr G159
     try replace F56 := F56.gr G159
     try replace Fk61 := Fk61.gr G159
     try replace F149 := F149.gr G159
     try replace F152 := F152.gr G159
     replace HG := HG.grow G159
     clear G159
     try simp only [V.cellsL, V.spliceL] at Fk157
     refine V.storeO Fk157 rfl rfl rfl rfl sz33 rfl rfl rfl rfl ?_
     rintro w163 G164 z166 Fs165
     clear Fk157
     have z167 := V.Fr.size G164
     first | replace F_o := F_o.mb G164 hD_o | clear F_o | skip
     first | replace F_b := F_b.mb G164 hD_b | clear F_b | skip
     first | replace Fk2 := Fk2.mv1 G164 (by omega) | clear Fk2 | skip
     first | replace F16 := F16.ma G164 | clear F16 | skip
     first | replace Fk21 := Fk21.mv1 G164 (by omega) | clear Fk21 | skip
     first | replace F34 := F34.ma G164 | clear F34 | skip
     first | replace F43 := F43.ma G164 | clear F43 | skip
     first | replace F56 := F56.ma G164 | clear F56 | skip
     first | replace Fk61 := Fk61.mv1 G164 (by omega) | clear Fk61 | skip
     first | replace F149 := F149.ma G164 | clear F149 | skip
     first | replace F152 := F152.ma G164 | clear F152 | skip
     replace HG := HG.n1 G164
     clear G164
     have Fk157 := Fs165; clear Fs165
     simp only [V.spliceL, V.cellsL] at Fk157
     refine V.run T_ok 1 rfl ?_
     refine V.nil ?_
     refine V.tN ?_
     refine V.seq ?_
     refine V.region ?_
     refine V.mkSlice T_ok zero5 rfl rfl sz5 rfl rfl rfl rfl rfl rfl ?_
     rintro k168 w171 s173 s174 G172 Fk169
     have z175 := V.Fr.size G172
     try replace F_o := F_o.gr G172
     try replace F_b := F_b.gr G172
     try replace Fk2 := Fk2.gr G172
     try replace F16 := F16.gr G172
     try replace Fk21 := Fk21.gr G172
     try replace F34 := F34.gr G172
     try replace F43 := F43.gr G172
     try replace F56 := F56.gr G172
     try replace Fk61 := Fk61.gr G172
     try replace F149 := F149.gr G172
     try replace F152 := F152.gr G172
     try replace Fk157 := Fk157.gr G172
     replace HG := HG.grow G172
     clear G172
     have F170 := V.rowOfB (xs := ([] : List UInt8)) Fk169 rfl rfl
     clear Fk169
     refine V.run T_ok 1 rfl ?_
     refine V.appendR (F170) (V.From.flat V.flat_byte (D' := V.None') (F43.sl.from Try.underlying22)) elT22_22 rfl rfl rfl rfl rfl (by first | omega | (simp only [List.length_take, List.length_drop, List.length_append, List.length_cons, List.length_nil, List.length_replicate, List.length_set, V.length_data, V.S_size]; omega)) (by unfold maxLen; first | omega | (simp only [List.length_take, List.length_drop, List.length_append, List.length_cons, List.length_nil, List.length_replicate, List.length_set, V.length_data, V.S_size]; omega)) (by omega) (by omega) (fun _ h => h.elim) (fun _ h => h.elim) ?_
     rintro a176 c177 w179 G180 s181 F178
     clear F170
     have z182 := Go.RowKit.Below.size G180
     first | replace F_o := V.Sl.bl F_o G180 (by first | exact (fun _ h => by have := h.2; omega) | (intro k h; have := hD_o k h; omega)) | clear F_o | skip
     first | replace F_b := V.Sl.bl F_b G180 (by first | exact (fun _ h => by have := h.2; omega) | (intro k h; have := hD_b k h; omega)) | clear F_b | skip
     first | replace Fk2 := V.Cells.bl Fk2 G180 (by omega) | clear Fk2 | skip
     first | replace F16 := V.Row.bl F16 G180 (by first | exact ⟨fun _ h => h.elim, by omega⟩ | exact ⟨fun _ h => by have := h.2; omega, by omega⟩) | clear F16 | skip
     first | replace Fk21 := V.Cells.bl Fk21 G180 (by omega) | clear Fk21 | skip
     first | replace F34 := V.Row.bl F34 G180 (by first | exact ⟨fun _ h => h.elim, by omega⟩ | exact ⟨fun _ h => by have := h.2; omega, by omega⟩) | clear F34 | skip
     first | replace F43 := V.Row.bl F43 G180 (by first | exact ⟨fun _ h => h.elim, by omega⟩ | exact ⟨fun _ h => by have := h.2; omega, by omega⟩) | clear F43 | skip
     first | replace F56 := V.Row.bl F56 G180 (by first | exact ⟨fun _ h => h.elim, by omega⟩ | exact ⟨fun _ h => by have := h.2; omega, by omega⟩) | clear F56 | skip
     first | replace Fk61 := V.Cells.bl Fk61 G180 (by omega) | clear Fk61 | skip
     first | replace F149 := V.Sl.bl F149 G180 (by first | exact (fun _ h => by have := h.2; omega) | (intro k h; have := hD k h; omega)) | clear F149 | skip
     first | replace F152 := V.Row.bl F152 G180 (by first | exact ⟨fun _ h => h.elim, by omega⟩ | exact ⟨fun _ h => by have := h.2; omega, by omega⟩) | clear F152 | skip
     first | replace Fk157 := V.Cells.bl Fk157 G180 (by omega) | clear Fk157 | skip
     replace HG := HG.bl (Go.RowKit.Below.mono G180 (by omega))
     clear G180
     rw [List.nil_append] at F178 ⊢
     refine V.mkSlice T_ok zero5 rfl rfl sz5 rfl rfl rfl rfl rfl rfl ?_
     rintro k183 w186 s188 s189 G187 Fk184
     have z190 := V.Fr.size G187
     try replace F_o := F_o.gr G187
     try replace F_b := F_b.gr G187
     try replace Fk2 := Fk2.gr G187
     try replace F16 := F16.gr G187
     try replace Fk21 := Fk21.gr G187
     try replace F34 := F34.gr G187
     try replace F43 := F43.gr G187
     try replace F56 := F56.gr G187
     try replace Fk61 := Fk61.gr G187
     try replace F149 := F149.gr G187
     try replace F152 := F152.gr G187
     try replace Fk157 := Fk157.gr G187
     try replace F178 := F178.gr G187
     replace HG := HG.grow G187
     clear G187
     have F185 := V.rowOfB (xs := ([0] : List UInt8)) Fk184 rfl rfl
     clear Fk184
     refine V.appendR (F178) (V.From.flat V.flat_byte (D' := V.None') (F185.sl.from Try.underlying22)) elT22_22 rfl rfl rfl rfl rfl (by first | omega | (simp only [List.length_take, List.length_drop, List.length_append, List.length_cons, List.length_nil, List.length_replicate, List.length_set, V.length_data, V.S_size]; omega)) (by unfold maxLen; first | omega | (simp only [List.length_take, List.length_drop, List.length_append, List.length_cons, List.length_nil, List.length_replicate, List.length_set, V.length_data, V.S_size]; omega)) (by omega) (by omega) (fun _ h => h.elim) (fun _ h => h.elim) ?_
     rintro a191 c192 w194 G195 s196 F193
     clear F178
     clear F185
     have z197 := Go.RowKit.Below.size G195
     first | replace F_o := V.Sl.bl F_o G195 (by first | exact (fun _ h => by have := h.2; omega) | (intro k h; have := hD_o k h; omega)) | clear F_o | skip
     first | replace F_b := V.Sl.bl F_b G195 (by first | exact (fun _ h => by have := h.2; omega) | (intro k h; have := hD_b k h; omega)) | clear F_b | skip
     first | replace Fk2 := V.Cells.bl Fk2 G195 (by omega) | clear Fk2 | skip
     first | replace F16 := V.Row.bl F16 G195 (by first | exact ⟨fun _ h => h.elim, by omega⟩ | exact ⟨fun _ h => by have := h.2; omega, by omega⟩) | clear F16 | skip
     first | replace Fk21 := V.Cells.bl Fk21 G195 (by omega) | clear Fk21 | skip
     first | replace F34 := V.Row.bl F34 G195 (by first | exact ⟨fun _ h => h.elim, by omega⟩ | exact ⟨fun _ h => by have := h.2; omega, by omega⟩) | clear F34 | skip
     first | replace F43 := V.Row.bl F43 G195 (by first | exact ⟨fun _ h => h.elim, by omega⟩ | exact ⟨fun _ h => by have := h.2; omega, by omega⟩) | clear F43 | skip
     first | replace F56 := V.Row.bl F56 G195 (by first | exact ⟨fun _ h => h.elim, by omega⟩ | exact ⟨fun _ h => by have := h.2; omega, by omega⟩) | clear F56 | skip
     first | replace Fk61 := V.Cells.bl Fk61 G195 (by omega) | clear Fk61 | skip
     first | replace F149 := V.Sl.bl F149 G195 (by first | exact (fun _ h => by have := h.2; omega) | (intro k h; have := hD k h; omega)) | clear F149 | skip
     first | replace F152 := V.Row.bl F152 G195 (by first | exact ⟨fun _ h => h.elim, by omega⟩ | exact ⟨fun _ h => by have := h.2; omega, by omega⟩) | clear F152 | skip
     first | replace Fk157 := V.Cells.bl Fk157 G195 (by omega) | clear Fk157 | skip
     replace HG := HG.bl (Go.RowKit.Below.mono G195 (by omega))
     clear G195
     refine V.call (decode_spec F193.sl (fun k hk => by have := hk.2; omega) (by first | omega | (simp only [List.length_take, List.length_drop, List.length_append, List.length_cons, List.length_nil, List.length_replicate, List.length_set, V.length_data, V.S_size]; omega))) rfl rfl rfl ?_
     rintro _ w201 ⟨a198, c199, rfl, F200, G202⟩
     have z203 := V.Fr.size G202
     try replace F_o := F_o.gr G202
     try replace F_b := F_b.gr G202
     try replace Fk2 := Fk2.gr G202
     try replace F16 := F16.gr G202
     try replace Fk21 := Fk21.gr G202
     try replace F34 := F34.gr G202
     try replace F43 := F43.gr G202
     try replace F56 := F56.gr G202
     try replace Fk61 := Fk61.gr G202
     try replace F149 := F149.gr G202
     try replace F152 := F152.gr G202
     try replace Fk157 := Fk157.gr G202
     try replace F193 := F193.gr G202
     replace HG := HG.grow G202
     clear G202
     refine V.run T_ok 3 rfl ?_
     refine V.alloc zero33 rfl rfl rfl ?_
     rintro k204 w206 s208 s209 G207 Fk205
     have z210 := V.Fr.size G207
     try replace F_o := F_o.gr G207
     try replace F_b := F_b.gr G207
     try replace Fk2 := Fk2.gr G207
     try replace F16 := F16.gr G207
     try replace Fk21 := Fk21.gr G207
     try replace F34 := F34.gr G207
     try replace F43 := F43.gr G207
     try replace F56 := F56.gr G207
     try replace Fk61 := Fk61.gr G207
     try replace F149 := F149.gr G207
     try replace F152 := F152.gr G207
     try replace Fk157 := Fk157.gr G207
     try replace F193 := F193.gr G207
     try replace F200 := F200.gr G207
     replace HG := HG.grow G207
     clear G207
     try simp only [V.cellsL, V.spliceL] at Fk205
     refine V.storeO Fk205 rfl rfl rfl rfl sz33 rfl rfl rfl rfl ?_
     rintro w211 G212 z214 Fs213
     clear Fk205
     have z215 := V.Fr.size G212
     first | replace F_o := F_o.mb G212 hD_o | clear F_o | skip
     first | replace F_b := F_b.mb G212 hD_b | clear F_b | skip
     first | replace Fk2 := Fk2.mv1 G212 (by omega) | clear Fk2 | skip
     first | replace F16 := F16.ma G212 | clear F16 | skip
     first | replace Fk21 := Fk21.mv1 G212 (by omega) | clear Fk21 | skip
     first | replace F34 := F34.ma G212 | clear F34 | skip
     first | replace F43 := F43.ma G212 | clear F43 | skip
     first | replace F56 := F56.ma G212 | clear F56 | skip
     first | replace Fk61 := Fk61.mv1 G212 (by omega) | clear Fk61 | skip
     first | replace F149 := F149.ma G212 | clear F149 | skip
     first | replace F152 := F152.ma G212 | clear F152 | skip
     first | replace Fk157 := Fk157.mv1 G212 (by omega) | clear Fk157 | skip
     first | replace F193 := F193.ma G212 | clear F193 | skip
     first | replace F200 := F200.ma G212 | clear F200 | skip
     replace HG := HG.n1 G212
     clear G212
     have Fk205 := Fs213; clear Fs213
     simp only [V.spliceL, V.cellsL] at Fk205
     refine V.run T_ok 1 rfl ?_
     refine V.nil ?_
     refine V.tN ?_
     refine V.seq ?_
     refine V.region ?_
     refine V.call (alive_spec) rfl rfl rfl ?_
     rintro _ w216 ⟨rfl, G217⟩
     have z218 := V.Fr.size G217
     try replace F_o := F_o.gr G217
     try replace F_b := F_b.gr G217
     try replace Fk2 := Fk2.gr G217
     try replace F16 := F16.gr G217
     try replace Fk21 := Fk21.gr G217
     try replace F34 := F34.gr G217
     try replace F43 := F43.gr G217
     try replace F56 := F56.gr G217
     try replace Fk61 := Fk61.gr G217
     try replace F149 := F149.gr G217
     try replace F152 := F152.gr G217
     try replace Fk157 := Fk157.gr G217
     try replace F193 := F193.gr G217
     try replace F200 := F200.gr G217
     try replace Fk205 := Fk205.gr G217
     replace HG := HG.grow G217
     clear G217
     refine V.run T_ok 5 rfl ?_
     refine V.splitT (j := 5) (t := 111) rfl rfl (by (rw [decC_enc hcb]; rfl)) ?_
     refine V.yes rfl rfl rfl ?_
     refine V.loadO T_ok Fk61 rfl rfl rfl rfl rfl ?_
     refine V.yes rfl rfl rfl ?_
     refine V.loadO T_ok Fk2 rfl rfl rfl rfl rfl ?_
     refine V.yes rfl rfl rfl ?_
     refine V.call (calike_spec (c := ((decC (encB d)).getD cmdZ)) (d := d) F56.sl (fun k hk => by have := hk.2; omega) F_o (fun k hk => by have := hD_o k hk; omega)) rfl rfl rfl ?_
     rintro _ w219 ⟨rfl, G220⟩
     have z221 := V.Fr.size G220
     try replace F_o := F_o.gr G220
     try replace F_b := F_b.gr G220
     try replace Fk2 := Fk2.gr G220
     try replace F16 := F16.gr G220
     try replace Fk21 := Fk21.gr G220
     try replace F34 := F34.gr G220
     try replace F43 := F43.gr G220
     try replace F56 := F56.gr G220
     try replace Fk61 := Fk61.gr G220
     try replace F149 := F149.gr G220
     try replace F152 := F152.gr G220
     try replace Fk157 := Fk157.gr G220
     try replace F193 := F193.gr G220
     try replace F200 := F200.gr G220
     try replace Fk205 := Fk205.gr G220
     replace HG := HG.grow G220
     clear G220
     refine V.run T_ok 2 rfl ?_
     refine V.splitT (j := 10) (t := 116) rfl rfl (by (rw [decC_enc hcb]; exact smB_self d)) ?_
     refine V.run T_ok 4 rfl ?_
     refine V.splitT (j := 14) (t := 120) rfl rfl (by (rw [decC_cut hcb (by omega)]; rfl)) ?_
     refine V.run T_ok 4 rfl ?_
     refine V.nil ?_
     refine V.tN ?_
     refine V.ret ?_
     refine V.done rfl ?_
     exact ⟨congrArg Value.bool (by rw [decC_more hcb]; rfl), HG⟩
  ·
   try replace h5 := V.dec h5
   try simp only [V.mk0, V.mk1, V.mk2, V.mk3] at h5
   refine V.skip ?_
   refine V.tN ?_
   refine V.seq ?_
   refine V.region ?_
   refine V.loadO T_ok Fk2 rfl rfl rfl rfl rfl ?_
   refine V.call (encode_spec (d := d) F_o (fun k hk => by have := hD_o k hk; omega) (by first | (with_reducible assumption) | exact hz | (constructor <;> first | exact hz.an | exact hz.fr | exact hz.to | exact hz.va | exact hz.ws | exact (by decide : (S []).size ≤ 9223372036854775807) | exact (fun x hx => nomatch (show x ∈ ([] : List (ByteArray × Int)) from hx))))) rfl rfl rfl ?_
   rintro _ w225 ⟨a222, c223, rfl, F224, G226⟩
   have z227 := V.Fr.size G226
   try replace F_o := F_o.gr G226
   try replace F_b := F_b.gr G226
   try replace Fk2 := Fk2.gr G226
   try replace F16 := F16.gr G226
   try replace Fk21 := Fk21.gr G226
   replace HG := HG.grow G226
   clear G226
   refine V.run T_ok 5 rfl ?_
   refine V.nil ?_
   refine V.tN ?_
   refine V.seq ?_
   refine V.seq ?_
   refine V.region ?_
   refine V.run T_ok 2 rfl ?_
   refine V.nil ?_
   refine V.tN ?_
   refine V.condT rfl (fun h10 => ?_) (fun h10 => ?_)
   ·
    try replace h10 := V.dec h10
    try simp only [V.mk0, V.mk1, V.mk2, V.mk3] at h10
    have hnr := err_no h10
    refine V.seq ?_
    refine V.region ?_
    refine V.call (alive_spec) rfl rfl rfl ?_
    rintro _ w228 ⟨rfl, G229⟩
    have z230 := V.Fr.size G229
    try replace F_o := F_o.gr G229
    try replace F_b := F_b.gr G229
    try replace Fk2 := Fk2.gr G229
    try replace F16 := F16.gr G229
    try replace Fk21 := Fk21.gr G229
    try replace F224 := F224.gr G229
    replace HG := HG.grow G229
    clear G229
    refine V.run T_ok 5 rfl ?_
    refine V.splitT (j := 5) (t := 69) rfl rfl (by (rw [hnr]; rfl)) ?_
    refine V.yes rfl rfl rfl ?_
    refine V.loadO T_ok Fk2 rfl rfl rfl rfl rfl ?_
    refine V.yes rfl rfl rfl ?_
    refine V.call (cright_spec (d := d) F_o (fun k hk => by have := hD_o k hk; omega) (by first | (with_reducible assumption) | exact hz | (constructor <;> first | exact hz.an | exact hz.fr | exact hz.to | exact hz.va | exact hz.ws | exact (by decide : (S []).size ≤ 9223372036854775807) | exact (fun x hx => nomatch (show x ∈ ([] : List (ByteArray × Int)) from hx))))) rfl rfl rfl ?_
    rintro _ w231 ⟨rfl, G232⟩
    have z233 := V.Fr.size G232
    try replace F_o := F_o.gr G232
    try replace F_b := F_b.gr G232
    try replace Fk2 := Fk2.gr G232
    try replace F16 := F16.gr G232
    try replace Fk21 := Fk21.gr G232
    try replace F224 := F224.gr G232
    replace HG := HG.grow G232
    clear G232
    refine V.run T_ok 3 rfl ?_
    refine V.nil ?_
    refine V.tN ?_
    refine V.ret ?_
    refine V.tR ?_
    refine V.done rfl ?_
    exact ⟨congrArg Value.bool (by rw [hnr]; rfl), HG⟩
   ·
    try replace h10 := V.dec h10
    try simp only [V.mk0, V.mk1, V.mk2, V.mk3] at h10
    have hcb := err_ok (by first | exact h10 | exact Decidable.not_not.1 h10)
    refine V.skip ?_
    refine V.tN ?_
    refine V.seq ?_
    have hel := enc_len hcb
    have hep := enc_pos d
    have hr234 : (if cmdB d = true then encB d else []) = encB d := if_pos hcb
    rw [hr234] at F224 ⊢
    clear hr234
    refine V.region ?_
    refine V.run T_ok 1 rfl ?_
    refine V.call (decode_spec F224.sl (fun k hk => by have := hk.2; omega) (by first | omega | (simp only [List.length_take, List.length_drop, List.length_append, List.length_cons, List.length_nil, List.length_replicate, List.length_set, V.length_data, V.S_size]; omega))) rfl rfl rfl ?_
    rintro _ w238 ⟨a235, c236, rfl, F237, G239⟩
    have z240 := V.Fr.size G239
    try replace F_o := F_o.gr G239
    try replace F_b := F_b.gr G239
    try replace Fk2 := Fk2.gr G239
    try replace F16 := F16.gr G239
    try replace Fk21 := Fk21.gr G239
    try replace F224 := F224.gr G239
    replace HG := HG.grow G239
    clear G239
    refine V.run T_ok 3 rfl ?_
    refine V.alloc zero33 rfl rfl rfl ?_
    rintro k241 w243 s245 s246 G244 Fk242
    have z247 := V.Fr.size G244
    try replace F_o := F_o.gr G244
    try replace F_b := F_b.gr G244
    try replace Fk2 := Fk2.gr G244
    try replace F16 := F16.gr G244
    try replace Fk21 := Fk21.gr G244
    try replace F224 := F224.gr G244
    try replace F237 := F237.gr G244
    replace HG := HG.grow G244
    clear G244
    try simp only [V.cellsL, V.spliceL] at Fk242
    refine V.storeO Fk242 rfl rfl rfl rfl sz33 rfl rfl rfl rfl ?_
    rintro w248 G249 z251 Fs250
    clear Fk242
    have z252 := V.Fr.size G249
    first | replace F_o := F_o.mb G249 hD_o | clear F_o | skip
    first | replace F_b := F_b.mb G249 hD_b | clear F_b | skip
    first | replace Fk2 := Fk2.mv1 G249 (by omega) | clear Fk2 | skip
    first | replace F16 := F16.ma G249 | clear F16 | skip
    first | replace Fk21 := Fk21.mv1 G249 (by omega) | clear Fk21 | skip
    first | replace F224 := F224.ma G249 | clear F224 | skip
    first | replace F237 := F237.ma G249 | clear F237 | skip
    replace HG := HG.n1 G249
    clear G249
    have Fk242 := Fs250; clear Fs250
    simp only [V.spliceL, V.cellsL] at Fk242
    refine V.run T_ok 1 rfl ?_
    refine V.nil ?_
    refine V.tN ?_
    refine V.seq ?_
    refine V.seq ?_
    refine V.region ?_
    refine V.run T_ok 3 rfl ?_
    refine V.nil ?_
    refine V.tN ?_
    refine V.condN rfl (by (apply decide_eq_false; omega)) ?_
    refine V.skip ?_
    refine V.tN ?_
    refine V.seq ?_
    refine V.region ?_
    refine V.run T_ok 3 rfl ?_
    refine V.remT rfl rfl rfl rfl rfl (by omega) ?_
    have htm := tmod_abs at_ (encB d).length (by omega)
    refine V.run T_ok 1 rfl ?_
    refine V.nil ?_
    refine V.tN ?_
    refine V.seq ?_
    refine V.seq ?_
    refine V.region ?_
    refine V.run T_ok 2 rfl ?_
    refine V.nil ?_
    refine V.tN ?_
    refine V.condT rfl (fun h16 => ?_) (fun h16 => ?_)
    ·
     try replace h16 := V.dec h16
     try simp only [V.mk0, V.mk1, V.mk2, V.mk3] at h16
     refine V.region ?_
     refine V.run T_ok 1 rfl ?_
     refine V.run T_ok 1 rfl ?_
     rw [V.wrap_in (x := 0 - Int.tmod at_ ((encB d).length : Int)) (by omega) (by omega)]
     refine V.run T_ok 1 rfl ?_
     refine V.nil ?_
     refine V.tN ?_
     refine V.seq ?_
     refine V.region ?_
     refine V.run T_ok 2 rfl ?_
     refine V.cutL T_ok F224.sl rfl rfl sz5 rfl rfl rfl rfl (by first | omega | (simp only [List.length_take, List.length_drop, List.length_append, List.length_cons, List.length_nil, List.length_replicate, List.length_set, V.length_data, V.S_size]; omega)) (by first | omega | (simp only [List.length_take, List.length_drop, List.length_append, List.length_cons, List.length_nil, List.length_replicate, List.length_set, V.length_data, V.S_size]; omega)) (fun a253 F255 => ?_)
     refine V.call (decode_spec F255 (fun k hk => by have := hk.2; omega) (by first | omega | (simp only [List.length_take, List.length_drop, List.length_append, List.length_cons, List.length_nil, List.length_replicate, List.length_set, V.length_data, V.S_size]; omega))) rfl rfl rfl ?_
     rintro _ w259 ⟨a256, c257, rfl, F258, G260⟩
     have z261 := V.Fr.size G260
     try replace F_o := F_o.gr G260
     try replace F_b := F_b.gr G260
     try replace Fk2 := Fk2.gr G260
     try replace F16 := F16.gr G260
     try replace Fk21 := Fk21.gr G260
     try replace F224 := F224.gr G260
     try replace F237 := F237.gr G260
     try replace Fk242 := Fk242.gr G260
     try replace F255 := F255.gr G260
     replace HG := HG.grow G260
     clear G260
     refine V.run T_ok 3 rfl ?_
     refine V.alloc zero33 rfl rfl rfl ?_
     rintro k262 w264 s266 s267 G265 Fk263
     have z268 := V.Fr.size G265
     try replace F_o := F_o.gr G265
     try replace F_b := F_b.gr G265
     try replace Fk2 := Fk2.gr G265
     try replace F16 := F16.gr G265
     try replace Fk21 := Fk21.gr G265
     try replace F224 := F224.gr G265
     try replace F237 := F237.gr G265
     try replace Fk242 := Fk242.gr G265
     try replace F255 := F255.gr G265
     try replace F258 := F258.gr G265
     replace HG := HG.grow G265
     clear G265
     try simp only [V.cellsL, V.spliceL] at Fk263
     refine V.storeO Fk263 rfl rfl rfl rfl sz33 rfl rfl rfl rfl ?_
     rintro w269 G270 z272 Fs271
     clear Fk263
     have z273 := V.Fr.size G270
     first | replace F_o := F_o.mb G270 hD_o | clear F_o | skip
     first | replace F_b := F_b.mb G270 hD_b | clear F_b | skip
     first | replace Fk2 := Fk2.mv1 G270 (by omega) | clear Fk2 | skip
     first | replace F16 := F16.ma G270 | clear F16 | skip
     first | replace Fk21 := Fk21.mv1 G270 (by omega) | clear Fk21 | skip
     first | replace F224 := F224.ma G270 | clear F224 | skip
     first | replace F237 := F237.ma G270 | clear F237 | skip
     first | replace Fk242 := Fk242.mv1 G270 (by omega) | clear Fk242 | skip
     first | replace F255 := F255.ma G270 | clear F255 | skip
     first | replace F258 := F258.ma G270 | clear F258 | skip
     replace HG := HG.n1 G270
     clear G270
     have Fk263 := Fs271; clear Fs271
     simp only [V.spliceL, V.cellsL] at Fk263
     refine V.run T_ok 1 rfl ?_
     refine V.nil ?_
     refine V.tN ?_
     refine V.seq ?_
     refine V.region ?_
     refine V.mkSlice T_ok zero5 rfl rfl sz5 rfl rfl rfl rfl rfl rfl ?_
     rintro k274 w277 s279 s280 G278 Fk275
     have z281 := V.Fr.size G278
     try replace F_o := F_o.gr G278
     try replace F_b := F_b.gr G278
     try replace Fk2 := Fk2.gr G278
     try replace F16 := F16.gr G278
     try replace Fk21 := Fk21.gr G278
     try replace F224 := F224.gr G278
     try replace F237 := F237.gr G278
     try replace Fk242 := Fk242.gr G278
     try replace F255 := F255.gr G278
     try replace F258 := F258.gr G278
     try replace Fk263 := Fk263.gr G278
     replace HG := HG.grow G278
     clear G278
     have F276 := V.rowOfB (xs := ([] : List UInt8)) Fk275 rfl rfl
     clear Fk275
     refine V.run T_ok 1 rfl ?_
     refine V.appendR (F276) (V.From.flat V.flat_byte (D' := V.None') (F224.sl.from Try.underlying22)) elT22_22 rfl rfl rfl rfl rfl (by first | omega | (simp only [List.length_take, List.length_drop, List.length_append, List.length_cons, List.length_nil, List.length_replicate, List.length_set, V.length_data, V.S_size]; omega)) (by unfold maxLen; first | omega | (simp only [List.length_take, List.length_drop, List.length_append, List.length_cons, List.length_nil, List.length_replicate, List.length_set, V.length_data, V.S_size]; omega)) (by omega) (by omega) (fun _ h => h.elim) (fun _ h => h.elim) ?_
     rintro a282 c283 w285 G286 s287 F284
     clear F276
     have z288 := Go.RowKit.Below.size G286
     first | replace F_o := V.Sl.bl F_o G286 (by first | exact (fun _ h => by have := h.2; omega) | (intro k h; have := hD_o k h; omega)) | clear F_o | skip
     first | replace F_b := V.Sl.bl F_b G286 (by first | exact (fun _ h => by have := h.2; omega) | (intro k h; have := hD_b k h; omega)) | clear F_b | skip
     first | replace Fk2 := V.Cells.bl Fk2 G286 (by omega) | clear Fk2 | skip
     first | replace F16 := V.Row.bl F16 G286 (by first | exact ⟨fun _ h => h.elim, by omega⟩ | exact ⟨fun _ h => by have := h.2; omega, by omega⟩) | clear F16 | skip
     first | replace Fk21 := V.Cells.bl Fk21 G286 (by omega) | clear Fk21 | skip
     first | replace F224 := V.Row.bl F224 G286 (by first | exact ⟨fun _ h => h.elim, by omega⟩ | exact ⟨fun _ h => by have := h.2; omega, by omega⟩) | clear F224 | skip
     first | replace F237 := V.Row.bl F237 G286 (by first | exact ⟨fun _ h => h.elim, by omega⟩ | exact ⟨fun _ h => by have := h.2; omega, by omega⟩) | clear F237 | skip
     first | replace Fk242 := V.Cells.bl Fk242 G286 (by omega) | clear Fk242 | skip
     first | replace F255 := V.Sl.bl F255 G286 (by first | exact (fun _ h => by have := h.2; omega) | (intro k h; have := hD k h; omega)) | clear F255 | skip
     first | replace F258 := V.Row.bl F258 G286 (by first | exact ⟨fun _ h => h.elim, by omega⟩ | exact ⟨fun _ h => by have := h.2; omega, by omega⟩) | clear F258 | skip
     first | replace Fk263 := V.Cells.bl Fk263 G286 (by omega) | clear Fk263 | skip
     replace HG := HG.bl (Go.RowKit.Below.mono G286 (by omega))
     clear G286
     rw [List.nil_append] at F284 ⊢
     refine V.mkSlice T_ok zero5 rfl rfl sz5 rfl rfl rfl rfl rfl rfl ?_
     rintro k289 w292 s294 s295 G293 Fk290
     have z296 := V.Fr.size G293
     try replace F_o := F_o.gr G293
     try replace F_b := F_b.gr G293
     try replace Fk2 := Fk2.gr G293
     try replace F16 := F16.gr G293
     try replace Fk21 := Fk21.gr G293
     try replace F224 := F224.gr G293
     try replace F237 := F237.gr G293
     try replace Fk242 := Fk242.gr G293
     try replace F255 := F255.gr G293
     try replace F258 := F258.gr G293
     try replace Fk263 := Fk263.gr G293
     try replace F284 := F284.gr G293
     replace HG := HG.grow G293
     clear G293
     have F291 := V.rowOfB (xs := ([0] : List UInt8)) Fk290 rfl rfl
     clear Fk290
     refine V.appendR (F284) (V.From.flat V.flat_byte (D' := V.None') (F291.sl.from Try.underlying22)) elT22_22 rfl rfl rfl rfl rfl (by first | omega | (simp only [List.length_take, List.length_drop, List.length_append, List.length_cons, List.length_nil, List.length_replicate, List.length_set, V.length_data, V.S_size]; omega)) (by unfold maxLen; first | omega | (simp only [List.length_take, List.length_drop, List.length_append, List.length_cons, List.length_nil, List.length_replicate, List.length_set, V.length_data, V.S_size]; omega)) (by omega) (by omega) (fun _ h => h.elim) (fun _ h => h.elim) ?_
     rintro a297 c298 w300 G301 s302 F299
     clear F284
     clear F291
     have z303 := Go.RowKit.Below.size G301
     first | replace F_o := V.Sl.bl F_o G301 (by first | exact (fun _ h => by have := h.2; omega) | (intro k h; have := hD_o k h; omega)) | clear F_o | skip
     first | replace F_b := V.Sl.bl F_b G301 (by first | exact (fun _ h => by have := h.2; omega) | (intro k h; have := hD_b k h; omega)) | clear F_b | skip
     first | replace Fk2 := V.Cells.bl Fk2 G301 (by omega) | clear Fk2 | skip
     first | replace F16 := V.Row.bl F16 G301 (by first | exact ⟨fun _ h => h.elim, by omega⟩ | exact ⟨fun _ h => by have := h.2; omega, by omega⟩) | clear F16 | skip
     first | replace Fk21 := V.Cells.bl Fk21 G301 (by omega) | clear Fk21 | skip
     first | replace F224 := V.Row.bl F224 G301 (by first | exact ⟨fun _ h => h.elim, by omega⟩ | exact ⟨fun _ h => by have := h.2; omega, by omega⟩) | clear F224 | skip
     first | replace F237 := V.Row.bl F237 G301 (by first | exact ⟨fun _ h => h.elim, by omega⟩ | exact ⟨fun _ h => by have := h.2; omega, by omega⟩) | clear F237 | skip
     first | replace Fk242 := V.Cells.bl Fk242 G301 (by omega) | clear Fk242 | skip
     first | replace F255 := V.Sl.bl F255 G301 (by first | exact (fun _ h => by have := h.2; omega) | (intro k h; have := hD k h; omega)) | clear F255 | skip
     first | replace F258 := V.Row.bl F258 G301 (by first | exact ⟨fun _ h => h.elim, by omega⟩ | exact ⟨fun _ h => by have := h.2; omega, by omega⟩) | clear F258 | skip
     first | replace Fk263 := V.Cells.bl Fk263 G301 (by omega) | clear Fk263 | skip
     replace HG := HG.bl (Go.RowKit.Below.mono G301 (by omega))
     clear G301
     refine V.call (decode_spec F299.sl (fun k hk => by have := hk.2; omega) (by first | omega | (simp only [List.length_take, List.length_drop, List.length_append, List.length_cons, List.length_nil, List.length_replicate, List.length_set, V.length_data, V.S_size]; omega))) rfl rfl rfl ?_
     rintro _ w307 ⟨a304, c305, rfl, F306, G308⟩
     have z309 := V.Fr.size G308
     try replace F_o := F_o.gr G308
     try replace F_b := F_b.gr G308
     try replace Fk2 := Fk2.gr G308
     try replace F16 := F16.gr G308
     try replace Fk21 := Fk21.gr G308
     try replace F224 := F224.gr G308
     try replace F237 := F237.gr G308
     try replace Fk242 := Fk242.gr G308
     try replace F255 := F255.gr G308
     try replace F258 := F258.gr G308
     try replace Fk263 := Fk263.gr G308
     try replace F299 := F299.gr G308
     replace HG := HG.grow G308
     clear G308
     refine V.run T_ok 3 rfl ?_
     refine V.alloc zero33 rfl rfl rfl ?_
     rintro k310 w312 s314 s315 G313 Fk311
     have z316 := V.Fr.size G313
     try replace F_o := F_o.gr G313
     try replace F_b := F_b.gr G313
     try replace Fk2 := Fk2.gr G313
     try replace F16 := F16.gr G313
     try replace Fk21 := Fk21.gr G313
     try replace F224 := F224.gr G313
     try replace F237 := F237.gr G313
     try replace Fk242 := Fk242.gr G313
     try replace F255 := F255.gr G313
     try replace F258 := F258.gr G313
     try replace Fk263 := Fk263.gr G313
     try replace F299 := F299.gr G313
     try replace F306 := F306.gr G313
     replace HG := HG.grow G313
     clear G313
     try simp only [V.cellsL, V.spliceL] at Fk311
     refine V.storeO Fk311 rfl rfl rfl rfl sz33 rfl rfl rfl rfl ?_
     rintro w317 G318 z320 Fs319
     clear Fk311
     have z321 := V.Fr.size G318
     first | replace F_o := F_o.mb G318 hD_o | clear F_o | skip
     first | replace F_b := F_b.mb G318 hD_b | clear F_b | skip
     first | replace Fk2 := Fk2.mv1 G318 (by omega) | clear Fk2 | skip
     first | replace F16 := F16.ma G318 | clear F16 | skip
     first | replace Fk21 := Fk21.mv1 G318 (by omega) | clear Fk21 | skip
     first | replace F224 := F224.ma G318 | clear F224 | skip
     first | replace F237 := F237.ma G318 | clear F237 | skip
     first | replace Fk242 := Fk242.mv1 G318 (by omega) | clear Fk242 | skip
     first | replace F255 := F255.ma G318 | clear F255 | skip
     first | replace F258 := F258.ma G318 | clear F258 | skip
     first | replace Fk263 := Fk263.mv1 G318 (by omega) | clear Fk263 | skip
     first | replace F299 := F299.ma G318 | clear F299 | skip
     first | replace F306 := F306.ma G318 | clear F306 | skip
     replace HG := HG.n1 G318
     clear G318
     have Fk311 := Fs319; clear Fs319
     simp only [V.spliceL, V.cellsL] at Fk311
     refine V.run T_ok 1 rfl ?_
     refine V.nil ?_
     refine V.tN ?_
     refine V.seq ?_
     refine V.region ?_
     refine V.call (alive_spec) rfl rfl rfl ?_
     rintro _ w322 ⟨rfl, G323⟩
     have z324 := V.Fr.size G323
     try replace F_o := F_o.gr G323
     try replace F_b := F_b.gr G323
     try replace Fk2 := Fk2.gr G323
     try replace F16 := F16.gr G323
     try replace Fk21 := Fk21.gr G323
     try replace F224 := F224.gr G323
     try replace F237 := F237.gr G323
     try replace Fk242 := Fk242.gr G323
     try replace F255 := F255.gr G323
     try replace F258 := F258.gr G323
     try replace Fk263 := Fk263.gr G323
     try replace F299 := F299.gr G323
     try replace F306 := F306.gr G323
     try replace Fk311 := Fk311.gr G323
     replace HG := HG.grow G323
     clear G323
     refine V.run T_ok 5 rfl ?_
     refine V.splitT (j := 5) (t := 111) rfl rfl (by (rw [decC_enc hcb]; rfl)) ?_
     refine V.yes rfl rfl rfl ?_
     refine V.loadO T_ok Fk242 rfl rfl rfl rfl rfl ?_
     refine V.yes rfl rfl rfl ?_
     refine V.loadO T_ok Fk2 rfl rfl rfl rfl rfl ?_
     refine V.yes rfl rfl rfl ?_
     refine V.call (calike_spec (c := ((decC (encB d)).getD cmdZ)) (d := d) F237.sl (fun k hk => by have := hk.2; omega) F_o (fun k hk => by have := hD_o k hk; omega)) rfl rfl rfl ?_
     rintro _ w325 ⟨rfl, G326⟩
     have z327 := V.Fr.size G326
     try replace F_o := F_o.gr G326
     try replace F_b := F_b.gr G326
     try replace Fk2 := Fk2.gr G326
     try replace F16 := F16.gr G326
     try replace Fk21 := Fk21.gr G326
     try replace F224 := F224.gr G326
     try replace F237 := F237.gr G326
     try replace Fk242 := Fk242.gr G326
     try replace F255 := F255.gr G326
     try replace F258 := F258.gr G326
     try replace Fk263 := Fk263.gr G326
     try replace F299 := F299.gr G326
     try replace F306 := F306.gr G326
     try replace Fk311 := Fk311.gr G326
     replace HG := HG.grow G326
     clear G326
     refine V.run T_ok 2 rfl ?_
     refine V.splitT (j := 10) (t := 116) rfl rfl (by (rw [decC_enc hcb]; exact smB_self d)) ?_
     refine V.run T_ok 4 rfl ?_
     refine V.splitT (j := 14) (t := 120) rfl rfl (by (rw [decC_cut hcb (by omega)]; rfl)) ?_
     refine V.run T_ok 4 rfl ?_
     refine V.nil ?_
     refine V.tN ?_
     refine V.ret ?_
     refine V.done rfl ?_
     exact ⟨congrArg Value.bool (by rw [decC_more hcb]; rfl), HG⟩
    ·
     try replace h16 := V.dec h16
     try simp only [V.mk0, V.mk1, V.mk2, V.mk3] at h16
     refine V.skip ?_
     refine V.tN ?_
     refine V.seq ?_
     refine V.region ?_
     refine V.run T_ok 2 rfl ?_
     refine V.cutL T_ok F224.sl rfl rfl sz5 rfl rfl rfl rfl (by first | omega | (simp only [List.length_take, List.length_drop, List.length_append, List.length_cons, List.length_nil, List.length_replicate, List.length_set, V.length_data, V.S_size]; omega)) (by first | omega | (simp only [List.length_take, List.length_drop, List.length_append, List.length_cons, List.length_nil, List.length_replicate, List.length_set, V.length_data, V.S_size]; omega)) (fun a328 F330 => ?_)
     refine V.call (decode_spec F330 (fun k hk => by have := hk.2; omega) (by first | omega | (simp only [List.length_take, List.length_drop, List.length_append, List.length_cons, List.length_nil, List.length_replicate, List.length_set, V.length_data, V.S_size]; omega))) rfl rfl rfl ?_
     rintro _ w334 ⟨a331, c332, rfl, F333, G335⟩
     have z336 := V.Fr.size G335
     try replace F_o := F_o.gr G335
     try replace F_b := F_b.gr G335
     try replace Fk2 := Fk2.gr G335
     try replace F16 := F16.gr G335
     try replace Fk21 := Fk21.gr G335
     try replace F224 := F224.gr G335
     try replace F237 := F237.gr G335
     try replace Fk242 := Fk242.gr G335
     try replace F330 := F330.gr G335
     replace HG := HG.grow G335
     clear G335
     refine V.run T_ok 3 rfl ?_
     refine V.alloc zero33 rfl rfl rfl ?_
     rintro k337 w339 s341 s342 G340 Fk338
     have z343 := V.Fr.size G340
     try replace F_o := F_o.gr G340
     try replace F_b := F_b.gr G340
     try replace Fk2 := Fk2.gr G340
     try replace F16 := F16.gr G340
     try replace Fk21 := Fk21.gr G340
     try replace F224 := F224.gr G340
     try replace F237 := F237.gr G340
     try replace Fk242 := Fk242.gr G340
     try replace F330 := F330.gr G340
     try replace F333 := F333.gr G340
     replace HG := HG.grow G340
     clear G340
     try simp only [V.cellsL, V.spliceL] at Fk338
     refine V.storeO Fk338 rfl rfl rfl rfl sz33 rfl rfl rfl rfl ?_
     rintro w344 G345 z347 Fs346
     clear Fk338
     have z348 := V.Fr.size G345
     first | replace F_o := F_o.mb G345 hD_o | clear F_o | skip
     first | replace F_b := F_b.mb G345 hD_b | clear F_b | skip
     first | replace Fk2 := Fk2.mv1 G345 (by omega) | clear Fk2 | skip
     first | replace F16 := F16.ma G345 | clear F16 | skip
     first | replace Fk21 := Fk21.mv1 G345 (by omega) | clear Fk21 | skip
     first | replace F224 := F224.ma G345 | clear F224 | skip
     first | replace F237 := F237.ma G345 | clear F237 | skip
     first | replace Fk242 := Fk242.mv1 G345 (by omega) | clear Fk242 | skip
     first | replace F330 := F330.ma G345 | clear F330 | skip
     first | replace F333 := F333.ma G345 | clear F333 | skip
     replace HG := HG.n1 G345
     clear G345
     have Fk338 := Fs346; clear Fs346
     simp only [V.spliceL, V.cellsL] at Fk338
     refine V.run T_ok 1 rfl ?_
     refine V.nil ?_
     refine V.tN ?_
     refine V.seq ?_
     refine V.region ?_
     refine V.mkSlice T_ok zero5 rfl rfl sz5 rfl rfl rfl rfl rfl rfl ?_
     rintro k349 w352 s354 s355 G353 Fk350
     have z356 := V.Fr.size G353
     try replace F_o := F_o.gr G353
     try replace F_b := F_b.gr G353
     try replace Fk2 := Fk2.gr G353
     try replace F16 := F16.gr G353
     try replace Fk21 := Fk21.gr G353
     try replace F224 := F224.gr G353
     try replace F237 := F237.gr G353
     try replace Fk242 := Fk242.gr G353
     try replace F330 := F330.gr G353
     try replace F333 := F333.gr G353
     try replace Fk338 := Fk338.gr G353
     replace HG := HG.grow G353
     clear G353
     have F351 := V.rowOfB (xs := ([] : List UInt8)) Fk350 rfl rfl
     clear Fk350
     refine V.run T_ok 1 rfl ?_
     refine V.appendR (F351) (V.From.flat V.flat_byte (D' := V.None') (F224.sl.from Try.underlying22)) elT22_22 rfl rfl rfl rfl rfl (by first | omega | (simp only [List.length_take, List.length_drop, List.length_append, List.length_cons, List.length_nil, List.length_replicate, List.length_set, V.length_data, V.S_size]; omega)) (by unfold maxLen; first | omega | (simp only [List.length_take, List.length_drop, List.length_append, List.length_cons, List.length_nil, List.length_replicate, List.length_set, V.length_data, V.S_size]; omega)) (by omega) (by omega) (fun _ h => h.elim) (fun _ h => h.elim) ?_
     rintro a357 c358 w360 G361 s362 F359
     clear F351
     have z363 := Go.RowKit.Below.size G361
     first | replace F_o := V.Sl.bl F_o G361 (by first | exact (fun _ h => by have := h.2; omega) | (intro k h; have := hD_o k h; omega)) | clear F_o | skip
     first | replace F_b := V.Sl.bl F_b G361 (by first | exact (fun _ h => by have := h.2; omega) | (intro k h; have := hD_b k h; omega)) | clear F_b | skip
     first | replace Fk2 := V.Cells.bl Fk2 G361 (by omega) | clear Fk2 | skip
     first | replace F16 := V.Row.bl F16 G361 (by first | exact ⟨fun _ h => h.elim, by omega⟩ | exact ⟨fun _ h => by have := h.2; omega, by omega⟩) | clear F16 | skip
     first | replace Fk21 := V.Cells.bl Fk21 G361 (by omega) | clear Fk21 | skip
     first | replace F224 := V.Row.bl F224 G361 (by first | exact ⟨fun _ h => h.elim, by omega⟩ | exact ⟨fun _ h => by have := h.2; omega, by omega⟩) | clear F224 | skip
     first | replace F237 := V.Row.bl F237 G361 (by first | exact ⟨fun _ h => h.elim, by omega⟩ | exact ⟨fun _ h => by have := h.2; omega, by omega⟩) | clear F237 | skip
     first | replace Fk242 := V.Cells.bl Fk242 G361 (by omega) | clear Fk242 | skip
     first | replace F330 := V.Sl.bl F330 G361 (by first | exact (fun _ h => by have := h.2; omega) | (intro k h; have := hD k h; omega)) | clear F330 | skip
     first | replace F333 := V.Row.bl F333 G361 (by first | exact ⟨fun _ h => h.elim, by omega⟩ | exact ⟨fun _ h => by have := h.2; omega, by omega⟩) | clear F333 | skip
     first | replace Fk338 := V.Cells.bl Fk338 G361 (by omega) | clear Fk338 | skip
     replace HG := HG.bl (Go.RowKit.Below.mono G361 (by omega))
     clear G361
     rw [List.nil_append] at F359 ⊢
     refine V.mkSlice T_ok zero5 rfl rfl sz5 rfl rfl rfl rfl rfl rfl ?_
     rintro k364 w367 s369 s370 G368 Fk365
     have z371 := V.Fr.size G368
     try replace F_o := F_o.gr G368
     try replace F_b := F_b.gr G368
     try replace Fk2 := Fk2.gr G368
     try replace F16 := F16.gr G368
     try replace Fk21 := Fk21.gr G368
     try replace F224 := F224.gr G368
     try replace F237 := F237.gr G368
     try replace Fk242 := Fk242.gr G368
     try replace F330 := F330.gr G368
     try replace F333 := F333.gr G368
     try replace Fk338 := Fk338.gr G368
     try replace F359 := F359.gr G368
     replace HG := HG.grow G368
     clear G368
     have F366 := V.rowOfB (xs := ([0] : List UInt8)) Fk365 rfl rfl
     clear Fk365
     refine V.appendR (F359) (V.From.flat V.flat_byte (D' := V.None') (F366.sl.from Try.underlying22)) elT22_22 rfl rfl rfl rfl rfl (by first | omega | (simp only [List.length_take, List.length_drop, List.length_append, List.length_cons, List.length_nil, List.length_replicate, List.length_set, V.length_data, V.S_size]; omega)) (by unfold maxLen; first | omega | (simp only [List.length_take, List.length_drop, List.length_append, List.length_cons, List.length_nil, List.length_replicate, List.length_set, V.length_data, V.S_size]; omega)) (by omega) (by omega) (fun _ h => h.elim) (fun _ h => h.elim) ?_
     rintro a372 c373 w375 G376 s377 F374
     clear F359
     clear F366
     have z378 := Go.RowKit.Below.size G376
     first | replace F_o := V.Sl.bl F_o G376 (by first | exact (fun _ h => by have := h.2; omega) | (intro k h; have := hD_o k h; omega)) | clear F_o | skip
     first | replace F_b := V.Sl.bl F_b G376 (by first | exact (fun _ h => by have := h.2; omega) | (intro k h; have := hD_b k h; omega)) | clear F_b | skip
     first | replace Fk2 := V.Cells.bl Fk2 G376 (by omega) | clear Fk2 | skip
     first | replace F16 := V.Row.bl F16 G376 (by first | exact ⟨fun _ h => h.elim, by omega⟩ | exact ⟨fun _ h => by have := h.2; omega, by omega⟩) | clear F16 | skip
     first | replace Fk21 := V.Cells.bl Fk21 G376 (by omega) | clear Fk21 | skip
     first | replace F224 := V.Row.bl F224 G376 (by first | exact ⟨fun _ h => h.elim, by omega⟩ | exact ⟨fun _ h => by have := h.2; omega, by omega⟩) | clear F224 | skip
     first | replace F237 := V.Row.bl F237 G376 (by first | exact ⟨fun _ h => h.elim, by omega⟩ | exact ⟨fun _ h => by have := h.2; omega, by omega⟩) | clear F237 | skip
     first | replace Fk242 := V.Cells.bl Fk242 G376 (by omega) | clear Fk242 | skip
     first | replace F330 := V.Sl.bl F330 G376 (by first | exact (fun _ h => by have := h.2; omega) | (intro k h; have := hD k h; omega)) | clear F330 | skip
     first | replace F333 := V.Row.bl F333 G376 (by first | exact ⟨fun _ h => h.elim, by omega⟩ | exact ⟨fun _ h => by have := h.2; omega, by omega⟩) | clear F333 | skip
     first | replace Fk338 := V.Cells.bl Fk338 G376 (by omega) | clear Fk338 | skip
     replace HG := HG.bl (Go.RowKit.Below.mono G376 (by omega))
     clear G376
     refine V.call (decode_spec F374.sl (fun k hk => by have := hk.2; omega) (by first | omega | (simp only [List.length_take, List.length_drop, List.length_append, List.length_cons, List.length_nil, List.length_replicate, List.length_set, V.length_data, V.S_size]; omega))) rfl rfl rfl ?_
     rintro _ w382 ⟨a379, c380, rfl, F381, G383⟩
     have z384 := V.Fr.size G383
     try replace F_o := F_o.gr G383
     try replace F_b := F_b.gr G383
     try replace Fk2 := Fk2.gr G383
     try replace F16 := F16.gr G383
     try replace Fk21 := Fk21.gr G383
     try replace F224 := F224.gr G383
     try replace F237 := F237.gr G383
     try replace Fk242 := Fk242.gr G383
     try replace F330 := F330.gr G383
     try replace F333 := F333.gr G383
     try replace Fk338 := Fk338.gr G383
     try replace F374 := F374.gr G383
     replace HG := HG.grow G383
     clear G383
     refine V.run T_ok 3 rfl ?_
     refine V.alloc zero33 rfl rfl rfl ?_
     rintro k385 w387 s389 s390 G388 Fk386
     have z391 := V.Fr.size G388
     try replace F_o := F_o.gr G388
     try replace F_b := F_b.gr G388
     try replace Fk2 := Fk2.gr G388
     try replace F16 := F16.gr G388
     try replace Fk21 := Fk21.gr G388
     try replace F224 := F224.gr G388
     try replace F237 := F237.gr G388
     try replace Fk242 := Fk242.gr G388
     try replace F330 := F330.gr G388
     try replace F333 := F333.gr G388
     try replace Fk338 := Fk338.gr G388
     try replace F374 := F374.gr G388
     try replace F381 := F381.gr G388
     replace HG := HG.grow G388
     clear G388
     try simp only [V.cellsL, V.spliceL] at Fk386
     refine V.storeO Fk386 rfl rfl rfl rfl sz33 rfl rfl rfl rfl ?_
     rintro w392 G393 z395 Fs394
     clear Fk386
     have z396 := V.Fr.size G393
     first | replace F_o := F_o.mb G393 hD_o | clear F_o | skip
     first | replace F_b := F_b.mb G393 hD_b | clear F_b | skip
     first | replace Fk2 := Fk2.mv1 G393 (by omega) | clear Fk2 | skip
     first | replace F16 := F16.ma G393 | clear F16 | skip
     first | replace Fk21 := Fk21.mv1 G393 (by omega) | clear Fk21 | skip
     first | replace F224 := F224.ma G393 | clear F224 | skip
     first | replace F237 := F237.ma G393 | clear F237 | skip
     first | replace Fk242 := Fk242.mv1 G393 (by omega) | clear Fk242 | skip
     first | replace F330 := F330.ma G393 | clear F330 | skip
     first | replace F333 := F333.ma G393 | clear F333 | skip
     first | replace Fk338 := Fk338.mv1 G393 (by omega) | clear Fk338 | skip
     first | replace F374 := F374.ma G393 | clear F374 | skip
     first | replace F381 := F381.ma G393 | clear F381 | skip
     replace HG := HG.n1 G393
     clear G393
     have Fk386 := Fs394; clear Fs394
     simp only [V.spliceL, V.cellsL] at Fk386
     refine V.run T_ok 1 rfl ?_
     refine V.nil ?_
     refine V.tN ?_
     refine V.seq ?_
     refine V.region ?_
     refine V.call (alive_spec) rfl rfl rfl ?_
     rintro _ w397 ⟨rfl, G398⟩
     have z399 := V.Fr.size G398
     try replace F_o := F_o.gr G398
     try replace F_b := F_b.gr G398
     try replace Fk2 := Fk2.gr G398
     try replace F16 := F16.gr G398
     try replace Fk21 := Fk21.gr G398
     try replace F224 := F224.gr G398
     try replace F237 := F237.gr G398
     try replace Fk242 := Fk242.gr G398
     try replace F330 := F330.gr G398
     try replace F333 := F333.gr G398
     try replace Fk338 := Fk338.gr G398
     try replace F374 := F374.gr G398
     try replace F381 := F381.gr G398
     try replace Fk386 := Fk386.gr G398
     replace HG := HG.grow G398
     clear G398
     refine V.run T_ok 5 rfl ?_
     refine V.splitT (j := 5) (t := 111) rfl rfl (by (rw [decC_enc hcb]; rfl)) ?_
     refine V.yes rfl rfl rfl ?_
     refine V.loadO T_ok Fk242 rfl rfl rfl rfl rfl ?_
     refine V.yes rfl rfl rfl ?_
     refine V.loadO T_ok Fk2 rfl rfl rfl rfl rfl ?_
     refine V.yes rfl rfl rfl ?_
     refine V.call (calike_spec (c := ((decC (encB d)).getD cmdZ)) (d := d) F237.sl (fun k hk => by have := hk.2; omega) F_o (fun k hk => by have := hD_o k hk; omega)) rfl rfl rfl ?_
     rintro _ w400 ⟨rfl, G401⟩
     have z402 := V.Fr.size G401
     try replace F_o := F_o.gr G401
     try replace F_b := F_b.gr G401
     try replace Fk2 := Fk2.gr G401
     try replace F16 := F16.gr G401
     try replace Fk21 := Fk21.gr G401
     try replace F224 := F224.gr G401
     try replace F237 := F237.gr G401
     try replace Fk242 := Fk242.gr G401
     try replace F330 := F330.gr G401
     try replace F333 := F333.gr G401
     try replace Fk338 := Fk338.gr G401
     try replace F374 := F374.gr G401
     try replace F381 := F381.gr G401
     try replace Fk386 := Fk386.gr G401
     replace HG := HG.grow G401
     clear G401
     refine V.run T_ok 2 rfl ?_
     refine V.splitT (j := 10) (t := 116) rfl rfl (by (rw [decC_enc hcb]; exact smB_self d)) ?_
     refine V.run T_ok 4 rfl ?_
     refine V.splitT (j := 14) (t := 120) rfl rfl (by (rw [decC_cut hcb (by omega)]; rfl)) ?_
     refine V.run T_ok 4 rfl ?_
     refine V.nil ?_
     refine V.tN ?_
     refine V.ret ?_
     refine V.done rfl ?_
     exact ⟨congrArg Value.bool (by rw [decC_more hcb]; rfl), HG⟩

set_option maxHeartbeats 900000 in
set_option maxRecDepth 10000 in
theorem commandApart_walk {w : World} {c : CmdV} {D_p : Nat → Prop} {c_p : Nat} {a_p : Option Addr} (F_p : Sl V.Cod.write w D_p a_p c_p c.ws) (hD_p : ∀ k, D_p k → k < w.heap.size) {d : CmdV} {D_q : Nat → Prop} {c_q : Nat} {a_q : Option Addr} (F_q : Sl V.Cod.write w D_q a_q c_q d.ws) (hD_q : ∀ k, D_q k → k < w.heap.size)  (hz : SzOk c) (hz2 : SzOk d) :
    Meets Try.prog 6 [.agg #[.int .i64 c.kd, .int .i64 c.id, .int .i64 c.le, .int .i64 c.nd, .int .i64 c.ti, .int .i64 c.te, .string c.an, .int .i64 c.sw, .int .i64 c.sl, .int .i64 c.sq, .string c.fr, .string c.to, .string c.va, .bool c.go, .int .i64 c.aw, .int .i64 c.al, .int .i64 c.lw, .int .i64 c.ll, .bool c.cm, .bool c.st, .slice a_p c.ws.length c_p, .int .i64 c.pr], .agg #[.int .i64 d.kd, .int .i64 d.id, .int .i64 d.le, .int .i64 d.nd, .int .i64 d.ti, .int .i64 d.te, .string d.an, .int .i64 d.sw, .int .i64 d.sl, .int .i64 d.sq, .string d.fr, .string d.to, .string d.va, .bool d.go, .int .i64 d.aw, .int .i64 d.al, .int .i64 d.lw, .int .i64 d.ll, .bool d.cm, .bool d.st, .slice a_q d.ws.length c_q, .int .i64 d.pr]] w fun r w' => r = .bool true ∧ Gr w w' := by
 have HG := V.Fr.refl [] w
 refine V.enter (n := 66) Try.func6 rfl rfl (by decide) rfl ?_
 refine V.seq ?_
 refine V.region ?_
 refine V.box rfl rfl rfl rfl ?_
 rintro k1 w3 s5 s6 G4 Fk2
 have z7 := V.Fr.size G4
 try replace F_p := F_p.gr G4
 try replace F_q := F_q.gr G4
 replace HG := HG.grow G4
 clear G4
 try simp only [V.cellsL, V.spliceL] at Fk2
 refine V.box rfl rfl rfl rfl ?_
 rintro k8 w10 s12 s13 G11 Fk9
 have z14 := V.Fr.size G11
 try replace F_p := F_p.gr G11
 try replace F_q := F_q.gr G11
 try replace Fk2 := Fk2.gr G11
 replace HG := HG.grow G11
 clear G11
 try simp only [V.cellsL, V.spliceL] at Fk9
 refine V.run T_ok 1 rfl ?_
 refine V.nil ?_
 refine V.tN ?_
 refine V.seq ?_
 refine V.region ?_
 refine V.loadO T_ok Fk2 rfl rfl rfl rfl rfl ?_
 refine V.call (fitsC_spec (d := c) F_p (fun k hk => by have := hD_p k hk; omega)) rfl rfl rfl ?_
 rintro _ w15 ⟨rfl, G16⟩
 have z17 := V.Fr.size G16
 try replace F_p := F_p.gr G16
 try replace F_q := F_q.gr G16
 try replace Fk2 := Fk2.gr G16
 try replace Fk9 := Fk9.gr G16
 replace HG := HG.grow G16
 clear G16
 refine V.run T_ok 1 rfl ?_
 refine V.nil ?_
 refine V.tN ?_
 refine V.seq ?_
 refine V.region ?_
 refine V.loadO T_ok Fk9 rfl rfl rfl rfl rfl ?_
 refine V.call (fitsC_spec (d := d) F_q (fun k hk => by have := hD_q k hk; omega)) rfl rfl rfl ?_
 rintro _ w18 ⟨rfl, G19⟩
 have z20 := V.Fr.size G19
 try replace F_p := F_p.gr G19
 try replace F_q := F_q.gr G19
 try replace Fk2 := Fk2.gr G19
 try replace Fk9 := Fk9.gr G19
 replace HG := HG.grow G19
 clear G19
 refine V.run T_ok 1 rfl ?_
 refine V.nil ?_
 refine V.tN ?_
 refine V.seq ?_
 refine V.region ?_
 refine V.loadO T_ok Fk2 rfl rfl rfl rfl rfl ?_
 refine V.call (encode_spec (d := c) F_p (fun k hk => by have := hD_p k hk; omega) (by first | (with_reducible assumption) | exact hz | (constructor <;> first | exact hz.an | exact hz.fr | exact hz.to | exact hz.va | exact hz.ws | exact (by decide : (S []).size ≤ 9223372036854775807) | exact (fun x hx => nomatch (show x ∈ ([] : List (ByteArray × Int)) from hx))))) rfl rfl rfl ?_
 rintro _ w24 ⟨a21, c22, rfl, F23, G25⟩
 have z26 := V.Fr.size G25
 try replace F_p := F_p.gr G25
 try replace F_q := F_q.gr G25
 try replace Fk2 := Fk2.gr G25
 try replace Fk9 := Fk9.gr G25
 replace HG := HG.grow G25
 clear G25
 refine V.run T_ok 5 rfl ?_
 refine V.nil ?_
 refine V.tN ?_
 refine V.seq ?_
 refine V.region ?_
 refine V.loadO T_ok Fk9 rfl rfl rfl rfl rfl ?_
 refine V.call (encode_spec (d := d) F_q (fun k hk => by have := hD_q k hk; omega) (by first | (with_reducible assumption) | exact hz | (constructor <;> first | exact hz.an | exact hz.fr | exact hz.to | exact hz.va | exact hz.ws | exact (by decide : (S []).size ≤ 9223372036854775807) | exact (fun x hx => nomatch (show x ∈ ([] : List (ByteArray × Int)) from hx))))) rfl rfl rfl ?_
 rintro _ w30 ⟨a27, c28, rfl, F29, G31⟩
 have z32 := V.Fr.size G31
 try replace F_p := F_p.gr G31
 try replace F_q := F_q.gr G31
 try replace Fk2 := Fk2.gr G31
 try replace Fk9 := Fk9.gr G31
 try replace F23 := F23.gr G31
 replace HG := HG.grow G31
 clear G31
 refine V.run T_ok 5 rfl ?_
 refine V.nil ?_
 refine V.tN ?_
 refine V.seq ?_
 refine V.seq ?_
 refine V.region ?_
 refine V.run T_ok 3 rfl ?_
 refine V.orG T_ok 2 2 27 rfl rfl rfl rfl rfl rfl rfl rfl ?_
 refine V.run T_ok 1 rfl ?_
 refine V.orG T_ok 2 6 31 rfl rfl rfl rfl rfl rfl rfl rfl ?_
 refine V.run T_ok 1 rfl ?_
 refine V.orG T_ok 2 10 35 rfl rfl rfl rfl rfl rfl rfl rfl ?_
 refine V.nil ?_
 refine V.tN ?_
 refine V.condT rfl (fun h5 => ?_) (fun h5 => ?_)
 ·
  try replace h5 := V.dec h5
  try simp only [V.mk0, V.mk1, V.mk2, V.mk3] at h5
  refine V.seq ?_
  refine V.region ?_
  refine V.call (alive_spec) rfl rfl rfl ?_
  rintro _ w33 ⟨rfl, G34⟩
  have z35 := V.Fr.size G34
  try replace F_p := F_p.gr G34
  try replace F_q := F_q.gr G34
  try replace Fk2 := Fk2.gr G34
  try replace Fk9 := Fk9.gr G34
  try replace F23 := F23.gr G34
  try replace F29 := F29.gr G34
  replace HG := HG.grow G34
  clear G34
  refine V.run T_ok 1 rfl ?_
  refine V.nil ?_
  refine V.tN ?_
  refine V.ret ?_
  refine V.tR ?_
  refine V.done rfl ?_
  exact ⟨(congrArg Value.bool (by first | rfl | (rw [smB_comm c d]; simp))), HG⟩
 ·
  try replace h5 := V.dec h5
  try simp only [V.mk0, V.mk1, V.mk2, V.mk3] at h5
  have hcc : cmdB c = true := by apply err_ok; simp_all
  have hcd : cmdB d = true := by apply err_ok; simp_all
  refine V.skip ?_
  refine V.tN ?_
  refine V.seq ?_
  have hr36 : (if cmdB c = true then encB c else []) = encB c := if_pos hcc
  rw [hr36] at F23 ⊢
  clear hr36
  have hr37 : (if cmdB d = true then encB d else []) = encB d := if_pos hcd
  rw [hr37] at F29 ⊢
  clear hr37
  refine V.drawQ mixed (by kernel_rfl) ?_
  refine V.qcall V.clo (fun w1 g => (alive_spec)) rfl rfl rfl ?_
  refine V.qrun T_ok 2 rfl ?_
  refine V.qyes rfl rfl rfl ?_
  refine V.qtoStr F23.sl Try.underlying22 Try.underlying5 Try.underlying9 rfl rfl rfl rfl ?_
  refine V.qrun T_ok 1 rfl ?_
  refine V.qyes rfl rfl rfl ?_
  refine V.qtoStr F29.sl Try.underlying22 Try.underlying5 Try.underlying9 rfl rfl rfl rfl ?_
  refine V.qrun T_ok 1 rfl ?_
  refine V.qyes rfl rfl rfl ?_
  refine V.qloadO T_ok Fk2 rfl rfl rfl rfl rfl ?_
  refine V.qyes rfl rfl rfl ?_
  refine V.qloadO T_ok Fk9 rfl rfl rfl rfl rfl ?_
  refine V.qyes rfl rfl rfl ?_
  refine V.qcall V.clo (fun w1 g => (calike_spec (c := c) (d := d) (F_p.gr g) (fun k hk => by have := Fr.size g; have := hD_p k hk; omega) (F_q.gr g) (fun k hk => by have := Fr.size g; have := hD_q k hk; omega))) rfl rfl rfl ?_
  refine V.qrun T_ok 3 rfl ?_
  refine V.qsplitT (j := 12) (t := 52) rfl rfl (by (rw [enc_same hcc hcd]; simp)) ?_
  refine V.qyes rfl rfl rfl ?_
  refine V.qloadO T_ok Fk2 rfl rfl rfl rfl rfl ?_
  refine V.qyes rfl rfl rfl ?_
  refine V.qloadO T_ok Fk2 rfl rfl rfl rfl rfl ?_
  refine V.qyes rfl rfl rfl ?_
  refine V.qcall V.clo (fun w1 g => (calike_spec (c := c) (d := c) (F_p.gr g) (fun k hk => by have := Fr.size g; have := hD_p k hk; omega) (F_p.gr g) (fun k hk => by have := Fr.size g; have := hD_p k hk; omega))) rfl rfl rfl ?_
  refine V.qrun T_ok 2 rfl ?_
  refine V.qsplitT (j := 17) (t := 57) rfl rfl (by (exact smB_self c)) ?_
  refine V.qyes rfl rfl rfl ?_
  refine V.qloadO T_ok Fk2 rfl rfl rfl rfl rfl ?_
  refine V.qyes rfl rfl rfl ?_
  refine V.qloadO T_ok Fk9 rfl rfl rfl rfl rfl ?_
  refine V.qyes rfl rfl rfl ?_
  refine V.qcall V.clo (fun w1 g => (calike_spec (c := c) (d := d) (F_p.gr g) (fun k hk => by have := Fr.size g; have := hD_p k hk; omega) (F_q.gr g) (fun k hk => by have := Fr.size g; have := hD_q k hk; omega))) rfl rfl rfl ?_
  refine V.qyes rfl rfl rfl ?_
  refine V.qloadO T_ok Fk9 rfl rfl rfl rfl rfl ?_
  refine V.qyes rfl rfl rfl ?_
  refine V.qloadO T_ok Fk2 rfl rfl rfl rfl rfl ?_
  refine V.qyes rfl rfl rfl ?_
  refine V.qcall V.clo (fun w1 g => (calike_spec (c := d) (d := c) (F_q.gr g) (fun k hk => by have := Fr.size g; have := hD_q k hk; omega) (F_p.gr g) (fun k hk => by have := Fr.size g; have := hD_p k hk; omega))) rfl rfl rfl ?_
  refine V.qrun T_ok 3 rfl ?_
  refine V.qnil ?_
  rintro w38 G39
  have z40 := V.Fr.size G39
  try replace F_p := F_p.gr G39
  try replace F_q := F_q.gr G39
  try replace Fk2 := Fk2.gr G39
  try replace Fk9 := Fk9.gr G39
  try replace F23 := F23.gr G39
  try replace F29 := F29.gr G39
  replace HG := HG.grow G39
  clear G39
  refine V.tN ?_
  refine V.ret ?_
  refine V.done rfl ?_
  exact ⟨(congrArg Value.bool (by first | rfl | (rw [smB_comm c d]; simp))), HG⟩

end Go.Proofs.Ytkklebdlbmoogaa
