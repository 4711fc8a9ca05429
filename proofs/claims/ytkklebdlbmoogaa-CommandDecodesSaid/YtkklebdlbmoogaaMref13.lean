/- Proved here: walks: what functions of this seat's program return and what they leave of memory, each as a contract. Conditions: stated at each theorem. -/
import Derived.Test.YtkklebdlbmoogaaMr12
namespace Go.Proofs.Ytkklebdlbmoogaa
set_option linter.unusedVariables false
set_option linter.unusedSimpArgs false
open Go
open V (Bytes Meets Env Sl Own Gr Fr Cells S)

theorem okB_succ {l : List UInt8} {i : Nat} {c : UInt8} (h : okB (l.take i) = true) (hi : i < l.length) (hc : l[i] = c) (h1 : 33 ≤ (c.toNat : Int)) (h2 : (c.toNat : Int) ≤ 126) : okB (l.take (i + 1)) = true := by
  subst hc
  unfold okB pV at *
  rw [List.take_succ_eq_append_getElem hi, List.all_append, h]
  simp; omega
theorem okB_bad {l : List UInt8} {i : Nat} {c : UInt8} (hi : i < l.length) (hc : l[i] = c) (h : (c.toNat : Int) < 33 ∨ 126 < (c.toNat : Int)) : okB l = false := by
  subst hc
  unfold okB pV
  rw [List.all_eq_false]
  exact ⟨l[i], List.getElem_mem hi, by simp; omega⟩
theorem okB_full {l : List UInt8} {i : Nat} (h : okB (l.take i) = true) (hi : l.length ≤ i) : okB l = true := by rwa [List.take_of_length_le hi] at h
theorem valB_bad {v : ByteArray} {gone : Bool} (h : okB v.data.toList = false) : valB v gone = false := by unfold valB; rw [h]; rfl
theorem valB_ok {v : ByteArray} {gone : Bool} (h : okB v.data.toList = true) : valB v gone = (decide (v.size ≤ 16) && (!gone || decide (v = S []))) := by unfold valB; rw [h]; rfl
theorem wk_bad {d : CmdV} {i : Nat} {x : ByteArray × Int} (hi : i < d.ws.length) (hx : d.ws[i] = x) (h : wkB x = false) : (nK d.kd && fldB d) = false := by
  unfold fldB
  rw [show d.ws.all wkB = false from all_bad hi hx h]; simp

set_option maxHeartbeats 900000 in
set_option maxRecDepth 10000 in
theorem rvalue_spec {w : World}  {v : ByteArray} {gone : Bool} (hs : v.size ≤ 9223372036854775807) :
    Meets Try.prog 79 [.string v, .bool gone] w fun r w' => r = .bool (valB v gone) ∧ w = w' := by
 have hsz : v.data.toList.length = v.size := Array.length_toList
 refine V.enter (n := 33) Try.func79 rfl rfl (by decide) rfl ?_
 refine V.seq ?_
 refine V.region ?_
 refine V.run T_ok 1 rfl ?_
 refine V.nil ?_
 refine V.tN ?_
 refine V.seq ?_
 refine V.seq ?_
 refine V.region ?_
 refine V.run T_ok 1 rfl ?_
 refine V.nil ?_
 refine V.tN ?_
 refine V.block ?_
 refine V.loopM (fun m e v2 => w = v2 ∧ ∃ (i : Nat) , m = v.size - i ∧ i ≤ v.size ∧ okB (v.data.toList.take i) = true ∧ e 0 = .string v ∧ e 1 = .bool gone ∧ e 5 = .int .i64 (i : Int)) ?_ ?_
 ·
  exact ⟨_, rfl, (0), rfl, (Nat.zero_le _), (rfl), rfl, rfl, rfl⟩
 rintro _ e v2 ⟨rfl, i, rfl, hi, hlt, he0_0, he0_1, he0_5⟩
 refine V.knownC (t := 0) he0_0 ?_
 refine V.knownC (t := 1) he0_1 ?_
 refine V.knownC (t := 5) he0_5 ?_
 refine V.seq ?_
 refine V.seq ?_
 refine V.region ?_
 refine V.run T_ok 4 rfl ?_
 refine V.nil ?_
 refine V.tN ?_
 refine V.condT rfl (fun h2 => ?_) (fun h2 => ?_)
 ·
  try replace h2 := V.dec h2
  try simp only [V.mk0, V.mk1, V.mk2, V.mk3] at h2
  refine V.skip ?_
  refine V.tN ?_
  refine V.seq ?_
  refine V.block ?_
  refine V.seq ?_
  refine V.region ?_
  refine V.run T_ok 2 rfl ?_
  refine V.sidx Try.underlying9 rfl rfl rfl rfl rfl (by omega) (by omega) (fun H4_2 => ?_)
  refine V.run T_ok 2 rfl ?_
  refine V.split (j := 4) (t := 16) rfl rfl (fun g4_4 => ?_) (fun g4_4 => ?_)
  ·
   try replace g4_4 := V.dec g4_4
   try simp only [V.mk0, V.mk1, V.mk2, V.mk3] at g4_4
   refine V.run T_ok 5 rfl ?_
   refine V.nil ?_
   refine V.tN ?_
   refine V.condY rfl rfl ?_
   refine V.seq ?_
   refine V.region ?_
   refine V.run T_ok 1 rfl ?_
   refine V.nil ?_
   refine V.tN ?_
   refine V.ret ?_
   refine V.bR ?_
   refine V.tR ?_
   refine V.tR ?_
   refine V.bR ?_
   refine V.tR ?_
   refine V.done rfl ?_
   exact ⟨congrArg Value.bool (by rw [valB_bad (okB_bad H4_2 rfl (by omega))]), rfl⟩
  ·
   try replace g4_4 := V.dec g4_4
   try simp only [V.mk0, V.mk1, V.mk2, V.mk3] at g4_4
   refine V.run T_ok 2 rfl ?_
   refine V.yes rfl rfl rfl ?_
   refine V.sidx Try.underlying9 rfl rfl rfl rfl rfl (by omega) (by omega) (fun H4_7 => ?_)
   refine V.run T_ok 2 rfl ?_
   refine V.nil ?_
   refine V.tN ?_
   refine V.condT rfl (fun h4 => ?_) (fun h4 => ?_)
   ·
    try replace h4 := V.dec h4
    try simp only [V.mk0, V.mk1, V.mk2, V.mk3] at h4
    refine V.seq ?_
    refine V.region ?_
    refine V.run T_ok 1 rfl ?_
    refine V.nil ?_
    refine V.tN ?_
    refine V.ret ?_
    refine V.bR ?_
    refine V.tR ?_
    refine V.tR ?_
    refine V.bR ?_
    refine V.tR ?_
    refine V.done rfl ?_
    exact ⟨congrArg Value.bool (by rw [valB_bad (okB_bad H4_2 rfl (by omega))]), rfl⟩
   ·
    try replace h4 := V.dec h4
    try simp only [V.mk0, V.mk1, V.mk2, V.mk3] at h4
    refine V.skip ?_
    refine V.bN ?_
    refine V.tN ?_
    refine V.region ?_
    refine V.run T_ok 1 rfl ?_
    refine V.addN rfl rfl rfl rfl rfl (by first | omega | (simp only [List.length_take, List.length_drop, List.length_append, List.length_cons, List.length_nil, List.length_replicate, List.length_set, V.length_data, V.S_size]; omega)) (by first | omega | (simp only [List.length_take, List.length_drop, List.length_append, List.length_cons, List.length_nil, List.length_replicate, List.length_set, V.length_data, V.S_size]; omega)) ?_
    refine V.run T_ok 1 rfl ?_
    refine V.nil ?_
    refine V.tN ?_
    exact ⟨_, (by omega), rfl, (i + 1), rfl, (by omega), (okB_succ hlt H4_2 rfl (by first | exact g4_4 | omega) (by first | exact h4 | omega)), rfl, rfl, rfl⟩
 ·
  try replace h2 := V.dec h2
  try simp only [V.mk0, V.mk1, V.mk2, V.mk3] at h2
  refine V.exit ?_
  refine V.tX ?_
  refine V.tX ?_
  refine V.bE ?_
  refine V.tN ?_
  refine V.seq ?_
  refine V.region ?_
  refine V.run T_ok 4 rfl ?_
  refine V.split (j := 3) (t := 25) rfl rfl (fun g6_3 => ?_) (fun g6_3 => ?_)
  ·
   try replace g6_3 := V.dec g6_3
   try simp only [V.mk0, V.mk1, V.mk2, V.mk3] at g6_3
   refine V.run T_ok 3 rfl ?_
   refine V.split (j := 6) (t := 28) rfl rfl (fun g6_6 => ?_) (fun g6_6 => ?_)
   ·
    try replace g6_6 := V.dec g6_6
    try simp only [V.mk0, V.mk1, V.mk2, V.mk3] at g6_6
    refine V.run T_ok 5 rfl ?_
    refine V.nil ?_
    refine V.tN ?_
    refine V.ret ?_
    refine V.done rfl ?_
    exact ⟨congrArg Value.bool (by rw [valB_ok (okB_full hlt (by omega))]; have := V.size0 (s := v); (have e1 : ByteArray.empty = S [] := rfl); (have e2 : (⟨#[]⟩ : ByteArray) = S [] := rfl); (try simp only [e1] at *); (try simp only [e2] at *); grind), rfl⟩
   ·
    try replace g6_6 := V.dec g6_6
    try simp only [V.mk0, V.mk1, V.mk2, V.mk3] at g6_6
    refine V.run T_ok 5 rfl ?_
    refine V.nil ?_
    refine V.tN ?_
    refine V.ret ?_
    refine V.done rfl ?_
    exact ⟨congrArg Value.bool (by rw [valB_ok (okB_full hlt (by omega))]; have := V.size0 (s := v); (have e1 : ByteArray.empty = S [] := rfl); (have e2 : (⟨#[]⟩ : ByteArray) = S [] := rfl); (try simp only [e1] at *); (try simp only [e2] at *); grind), rfl⟩
  ·
   try replace g6_3 := V.dec g6_3
   try simp only [V.mk0, V.mk1, V.mk2, V.mk3] at g6_3
   refine V.run T_ok 8 rfl ?_
   refine V.nil ?_
   refine V.tN ?_
   refine V.ret ?_
   refine V.done rfl ?_
   exact ⟨congrArg Value.bool (by rw [valB_ok (okB_full hlt (by omega))]; have := V.size0 (s := v); (have e1 : ByteArray.empty = S [] := rfl); (have e2 : (⟨#[]⟩ : ByteArray) = S [] := rfl); (try simp only [e1] at *); (try simp only [e2] at *); grind), rfl⟩

set_option maxHeartbeats 900000 in
set_option maxRecDepth 10000 in
theorem rcnumber_spec {w : World}  {n : Int}  :
    Meets Try.prog 77 [.int .i64 n] w fun r w' => r = .bool (nmB n) ∧ w = w' := by
 refine V.enter (n := 9) Try.func77 rfl rfl (by decide) rfl ?_
 refine V.seq ?_
 refine V.region ?_
 refine V.run T_ok 1 rfl ?_
 refine V.nil ?_
 refine V.tN ?_
 refine V.seq ?_
 refine V.region ?_
 refine V.run T_ok 3 rfl ?_
 refine V.andG T_ok 2 2 5 rfl rfl rfl rfl rfl rfl rfl rfl ?_
 refine V.run T_ok 1 rfl ?_
 refine V.nil ?_
 refine V.tN ?_
 refine V.ret ?_
 refine V.done rfl ?_
 exact ⟨(congrArg Value.bool (by first | rfl | (unfold nmB; grind))), rfl⟩

set_option maxHeartbeats 900000 in
set_option maxRecDepth 10000 in
theorem rplain_spec {w : World} {d : CmdV} {D_o : Nat → Prop} {c_o : Nat} {a_o : Option Addr} (F_o : Sl V.Cod.write w D_o a_o c_o d.ws) (hD_o : ∀ k, D_o k → k < w.heap.size)  (hz : SzOk d) :
    Meets Try.prog 72 [.agg #[.int .i64 d.kd, .int .i64 d.id, .int .i64 d.le, .int .i64 d.nd, .int .i64 d.ti, .int .i64 d.te, .string d.an, .int .i64 d.sw, .int .i64 d.sl, .int .i64 d.sq, .string d.fr, .string d.to, .string d.va, .bool d.go, .int .i64 d.aw, .int .i64 d.al, .int .i64 d.lw, .int .i64 d.ll, .bool d.cm, .bool d.st, .slice a_o d.ws.length c_o, .int .i64 d.pr]] w fun r w' => r = .bool (nK d.kd && fldB d) ∧ Gr w w' := by
 have hzan := hz.an
 have hzfr := hz.fr
 have hzto := hz.to
 have hzva := hz.va
 have HG := V.Fr.refl [] w
 refine V.enter (n := 145) Try.func72 rfl rfl (by decide) rfl ?_
 refine V.seq ?_
 refine V.region ?_
 refine V.box rfl rfl rfl rfl ?_
 rintro k1 w3 s5 s6 G4 Fk2
 have z7 := V.Fr.size G4
 try replace F_o := F_o.gr G4
 replace HG := HG.grow G4
 clear G4
 try simp only [V.cellsL, V.spliceL] at Fk2
 refine V.run T_ok 1 rfl ?_
 refine V.nil ?_
 refine V.tN ?_
 refine V.seqJ (fun e v9 => Fr [] w v9 ∧ w3.heap.size ≤ v9.heap.size ∧ Sl V.Cod.write v9 D_o a_o c_o d.ws ∧ Cells v9 k1 [.int .i64 d.kd, .int .i64 d.id, .int .i64 d.le, .int .i64 d.nd, .int .i64 d.ti, .int .i64 d.te, .string d.an, .int .i64 d.sw, .int .i64 d.sl, .int .i64 d.sq, .string d.fr, .string d.to, .string d.va, .bool d.go, .int .i64 d.aw, .int .i64 d.al, .int .i64 d.lw, .int .i64 d.ll, .bool d.cm, .bool d.st, .slice a_o d.ws.length c_o, .int .i64 d.pr] 33 ∧ e 1 = .pointer (some ⟨k1, 0, none⟩) ∧ e 3 = .bool ((((((nmB d.id) && (nmB d.le)) && (nmB d.sq)) && (nmB d.pr)) && (nmB d.ti)) && (nmB d.te)) ∧ True) ?_ ?_
 ·
  refine V.region ?_
  refine V.run T_ok 1 rfl ?_
  refine V.loadO T_ok Fk2 rfl rfl rfl rfl rfl ?_
  refine V.call (rcnumber_spec (n := d.id)) rfl rfl rfl ?_
  rintro _ w3_ ⟨rfl, rfl⟩
  refine V.run T_ok 1 rfl ?_
  refine V.split (j := 3) (t := 14) rfl rfl (fun g1_3 => ?_) (fun g1_3 => ?_)
  ·
   try replace g1_3 := V.dec g1_3
   try simp only [V.mk0, V.mk1, V.mk2, V.mk3] at g1_3
   refine V.run T_ok 1 rfl ?_
   refine V.yes rfl rfl rfl ?_
   refine V.loadO T_ok Fk2 rfl rfl rfl rfl rfl ?_
   refine V.yes rfl rfl rfl ?_
   refine V.call (rcnumber_spec (n := d.le)) rfl rfl rfl ?_
   rintro _ w3_ ⟨rfl, rfl⟩
   refine V.run T_ok 2 rfl ?_
   refine V.split (j := 8) (t := 19) rfl rfl (fun g1_8 => ?_) (fun g1_8 => ?_)
   ·
    try replace g1_8 := V.dec g1_8
    try simp only [V.mk0, V.mk1, V.mk2, V.mk3] at g1_8
    refine V.run T_ok 1 rfl ?_
    refine V.yes rfl rfl rfl ?_
    refine V.loadO T_ok Fk2 rfl rfl rfl rfl rfl ?_
    refine V.yes rfl rfl rfl ?_
    refine V.call (rcnumber_spec (n := d.sq)) rfl rfl rfl ?_
    rintro _ w3_ ⟨rfl, rfl⟩
    refine V.run T_ok 2 rfl ?_
    refine V.split (j := 13) (t := 24) rfl rfl (fun g1_13 => ?_) (fun g1_13 => ?_)
    ·
     try replace g1_13 := V.dec g1_13
     try simp only [V.mk0, V.mk1, V.mk2, V.mk3] at g1_13
     refine V.run T_ok 1 rfl ?_
     refine V.yes rfl rfl rfl ?_
     refine V.loadO T_ok Fk2 rfl rfl rfl rfl rfl ?_
     refine V.yes rfl rfl rfl ?_
     refine V.call (rcnumber_spec (n := d.pr)) rfl rfl rfl ?_
     rintro _ w3_ ⟨rfl, rfl⟩
     refine V.run T_ok 2 rfl ?_
     refine V.split (j := 18) (t := 29) rfl rfl (fun g1_18 => ?_) (fun g1_18 => ?_)
     ·
      try replace g1_18 := V.dec g1_18
      try simp only [V.mk0, V.mk1, V.mk2, V.mk3] at g1_18
      refine V.run T_ok 2 rfl ?_
      refine V.yes rfl rfl rfl ?_
      refine V.loadO T_ok Fk2 rfl rfl rfl rfl rfl ?_
      refine V.yes rfl rfl rfl ?_
      refine V.call (rcnumber_spec (n := d.ti)) rfl rfl rfl ?_
      rintro _ w3_ ⟨rfl, rfl⟩
      refine V.run T_ok 2 rfl ?_
      refine V.split (j := 24) (t := 35) rfl rfl (fun g1_24 => ?_) (fun g1_24 => ?_)
      ·
       try replace g1_24 := V.dec g1_24
       try simp only [V.mk0, V.mk1, V.mk2, V.mk3] at g1_24
       refine V.run T_ok 2 rfl ?_
       refine V.yes rfl rfl rfl ?_
       refine V.loadO T_ok Fk2 rfl rfl rfl rfl rfl ?_
       refine V.yes rfl rfl rfl ?_
       refine V.call (rcnumber_spec (n := d.te)) rfl rfl rfl ?_
       rintro _ w3_ ⟨rfl, rfl⟩
       refine V.run T_ok 2 rfl ?_
       refine V.nil ?_
       refine V.tN ?_
       exact ⟨HG, (by omega), F_o, Fk2, rfl, (congrArg Value.bool (by first | rfl | (have e1 : ByteArray.empty = S [] := rfl; (try simp only [e1] at *); first | (simp_all; done) | grind))), trivial⟩
      ·
       try replace g1_24 := V.dec g1_24
       try simp only [V.mk0, V.mk1, V.mk2, V.mk3] at g1_24
       refine V.run T_ok 6 rfl ?_
       refine V.nil ?_
       refine V.tN ?_
       exact ⟨HG, (by omega), F_o, Fk2, rfl, (congrArg Value.bool (by first | rfl | (have e1 : ByteArray.empty = S [] := rfl; (try simp only [e1] at *); first | (simp_all; done) | grind))), trivial⟩
     ·
      try replace g1_18 := V.dec g1_18
      try simp only [V.mk0, V.mk1, V.mk2, V.mk3] at g1_18
      refine V.run T_ok 12 rfl ?_
      refine V.nil ?_
      refine V.tN ?_
      exact ⟨HG, (by omega), F_o, Fk2, rfl, (congrArg Value.bool (by first | rfl | (have e1 : ByteArray.empty = S [] := rfl; (try simp only [e1] at *); first | (simp_all; done) | grind))), trivial⟩
    ·
     try replace g1_13 := V.dec g1_13
     try simp only [V.mk0, V.mk1, V.mk2, V.mk3] at g1_13
     refine V.run T_ok 17 rfl ?_
     refine V.nil ?_
     refine V.tN ?_
     exact ⟨HG, (by omega), F_o, Fk2, rfl, (congrArg Value.bool (by first | rfl | (have e1 : ByteArray.empty = S [] := rfl; (try simp only [e1] at *); first | (simp_all; done) | grind))), trivial⟩
   ·
    try replace g1_8 := V.dec g1_8
    try simp only [V.mk0, V.mk1, V.mk2, V.mk3] at g1_8
    refine V.run T_ok 22 rfl ?_
    refine V.nil ?_
    refine V.tN ?_
    exact ⟨HG, (by omega), F_o, Fk2, rfl, (congrArg Value.bool (by first | rfl | (have e1 : ByteArray.empty = S [] := rfl; (try simp only [e1] at *); first | (simp_all; done) | grind))), trivial⟩
  ·
   try replace g1_3 := V.dec g1_3
   try simp only [V.mk0, V.mk1, V.mk2, V.mk3] at g1_3
   refine V.run T_ok 27 rfl ?_
   refine V.nil ?_
   refine V.tN ?_
   exact ⟨HG, (by omega), F_o, Fk2, rfl, (congrArg Value.bool (by first | rfl | (have e1 : ByteArray.empty = S [] := rfl; (try simp only [e1] at *); first | (simp_all; done) | grind))), trivial⟩
 clear HG F_o Fk2
 rintro e v9 ⟨HG, z16, F_o, Fk2, hjn8_1, hjn8_3, -⟩
 refine V.knownC (t := 1) hjn8_1 ?_
 refine V.knownC (t := 3) hjn8_3 ?_
 refine V.seqJ (fun e v18 => Fr [] w v18 ∧ v9.heap.size ≤ v18.heap.size ∧ Sl V.Cod.write v18 D_o a_o c_o d.ws ∧ Cells v18 k1 [.int .i64 d.kd, .int .i64 d.id, .int .i64 d.le, .int .i64 d.nd, .int .i64 d.ti, .int .i64 d.te, .string d.an, .int .i64 d.sw, .int .i64 d.sl, .int .i64 d.sq, .string d.fr, .string d.to, .string d.va, .bool d.go, .int .i64 d.aw, .int .i64 d.al, .int .i64 d.lw, .int .i64 d.ll, .bool d.cm, .bool d.st, .slice a_o d.ws.length c_o, .int .i64 d.pr] 33 ∧ e 1 = .pointer (some ⟨k1, 0, none⟩) ∧ e 3 = .bool ((((((nmB d.id) && (nmB d.le)) && (nmB d.sq)) && (nmB d.pr)) && (nmB d.ti)) && (nmB d.te)) ∧ e 4 = .bool (decide (d.an = S []) || isKey d.an) ∧ True) ?_ ?_
 ·
  refine V.region ?_
  refine V.run T_ok 2 rfl ?_
  refine V.loadO T_ok Fk2 rfl rfl rfl rfl rfl ?_
  refine V.run T_ok 2 rfl ?_
  refine V.split (j := 4) (t := 45) rfl rfl (fun g2_4 => ?_) (fun g2_4 => ?_)
  ·
   try replace g2_4 := V.dec g2_4
   try simp only [V.mk0, V.mk1, V.mk2, V.mk3] at g2_4
   refine V.run T_ok 6 rfl ?_
   refine V.nil ?_
   refine V.tN ?_
   exact ⟨HG, (by omega), F_o, Fk2, rfl, rfl, (congrArg Value.bool (by first | rfl | (have e1 : ByteArray.empty = S [] := rfl; (try simp only [e1] at *); first | (simp_all; done) | grind))), trivial⟩
  ·
   try replace g2_4 := V.dec g2_4
   try simp only [V.mk0, V.mk1, V.mk2, V.mk3] at g2_4
   refine V.run T_ok 2 rfl ?_
   refine V.yes rfl rfl rfl ?_
   refine V.loadO T_ok Fk2 rfl rfl rfl rfl rfl ?_
   refine V.yes rfl rfl rfl ?_
   refine V.call (rkey_spec (s := d.an) (by first | omega | decide | (simp only [V.S_size, List.length_cons, List.length_nil]; omega))) rfl rfl rfl ?_
   rintro _ v9_ ⟨rfl, rfl⟩
   refine V.run T_ok 2 rfl ?_
   refine V.nil ?_
   refine V.tN ?_
   exact ⟨HG, (by omega), F_o, Fk2, rfl, rfl, (congrArg Value.bool (by first | rfl | (have e1 : ByteArray.empty = S [] := rfl; (try simp only [e1] at *); first | (simp_all; done) | grind))), trivial⟩
 clear HG F_o Fk2
 rintro e v18 ⟨HG, z20, F_o, Fk2, hjn17_1, hjn17_3, hjn17_4, -⟩
 refine V.knownC (t := 1) hjn17_1 ?_
 refine V.knownC (t := 3) hjn17_3 ?_
 refine V.knownC (t := 4) hjn17_4 ?_
 refine V.seqJ (fun e v22 => Fr [] w v22 ∧ v18.heap.size ≤ v22.heap.size ∧ Sl V.Cod.write v22 D_o a_o c_o d.ws ∧ Cells v22 k1 [.int .i64 d.kd, .int .i64 d.id, .int .i64 d.le, .int .i64 d.nd, .int .i64 d.ti, .int .i64 d.te, .string d.an, .int .i64 d.sw, .int .i64 d.sl, .int .i64 d.sq, .string d.fr, .string d.to, .string d.va, .bool d.go, .int .i64 d.aw, .int .i64 d.al, .int .i64 d.lw, .int .i64 d.ll, .bool d.cm, .bool d.st, .slice a_o d.ws.length c_o, .int .i64 d.pr] 33 ∧ e 1 = .pointer (some ⟨k1, 0, none⟩) ∧ e 3 = .bool ((((((nmB d.id) && (nmB d.le)) && (nmB d.sq)) && (nmB d.pr)) && (nmB d.ti)) && (nmB d.te)) ∧ e 4 = .bool (decide (d.an = S []) || isKey d.an) ∧ e 5 = .bool (decide (0 ≤ d.sw ∧ d.sw ≤ 1099511627776 ∧ 0 ≤ d.sl ∧ d.sl ≤ 65535) && decide (0 ≤ d.aw ∧ d.aw ≤ 1099511627776 ∧ 0 ≤ d.al ∧ d.al ≤ 65535) && decide (0 ≤ d.lw ∧ d.lw ≤ 1099511627776 ∧ 0 ≤ d.ll ∧ d.ll ≤ 65535)) ∧ True) ?_ ?_
 ·
  refine V.region ?_
  refine V.run T_ok 2 rfl ?_
  refine V.loadO T_ok Fk2 rfl rfl rfl rfl rfl ?_
  refine V.call (rright_spec (a := d.sw) (b := d.sl)) rfl rfl rfl ?_
  rintro _ w23 ⟨rfl, G24⟩
  have z25 := V.Fr.size G24
  try replace F_o := F_o.gr G24
  try replace Fk2 := Fk2.gr G24
  replace HG := HG.grow G24
  clear G24
  refine V.run T_ok 1 rfl ?_
  refine V.split (j := 4) (t := 55) rfl rfl (fun g3_4 => ?_) (fun g3_4 => ?_)
  ·
   try replace g3_4 := V.dec g3_4
   try simp only [V.mk0, V.mk1, V.mk2, V.mk3] at g3_4
   refine V.run T_ok 1 rfl ?_
   refine V.yes rfl rfl rfl ?_
   refine V.loadO T_ok Fk2 rfl rfl rfl rfl rfl ?_
   refine V.yes rfl rfl rfl ?_
   refine V.call (rright_spec (a := d.aw) (b := d.al)) rfl rfl rfl ?_
   rintro _ w26 ⟨rfl, G27⟩
   have z28 := V.Fr.size G27
   try replace F_o := F_o.gr G27
   try replace Fk2 := Fk2.gr G27
   replace HG := HG.grow G27
   clear G27
   refine V.run T_ok 2 rfl ?_
   refine V.split (j := 9) (t := 60) rfl rfl (fun g3_9 => ?_) (fun g3_9 => ?_)
   ·
    try replace g3_9 := V.dec g3_9
    try simp only [V.mk0, V.mk1, V.mk2, V.mk3] at g3_9
    refine V.run T_ok 1 rfl ?_
    refine V.yes rfl rfl rfl ?_
    refine V.loadO T_ok Fk2 rfl rfl rfl rfl rfl ?_
    refine V.yes rfl rfl rfl ?_
    refine V.call (rright_spec (a := d.lw) (b := d.ll)) rfl rfl rfl ?_
    rintro _ w29 ⟨rfl, G30⟩
    have z31 := V.Fr.size G30
    try replace F_o := F_o.gr G30
    try replace Fk2 := Fk2.gr G30
    replace HG := HG.grow G30
    clear G30
    refine V.run T_ok 2 rfl ?_
    refine V.nil ?_
    refine V.tN ?_
    exact ⟨HG, (by omega), F_o, Fk2, rfl, rfl, rfl, (congrArg Value.bool (by first | rfl | (have e1 : ByteArray.empty = S [] := rfl; (try simp only [e1] at *); first | (simp_all; done) | grind))), trivial⟩
   ·
    try replace g3_9 := V.dec g3_9
    try simp only [V.mk0, V.mk1, V.mk2, V.mk3] at g3_9
    refine V.run T_ok 5 rfl ?_
    refine V.nil ?_
    refine V.tN ?_
    exact ⟨HG, (by omega), F_o, Fk2, rfl, rfl, rfl, (congrArg Value.bool (by first | rfl | (have e1 : ByteArray.empty = S [] := rfl; (try simp only [e1] at *); first | (simp_all; done) | grind))), trivial⟩
  ·
   try replace g3_4 := V.dec g3_4
   try simp only [V.mk0, V.mk1, V.mk2, V.mk3] at g3_4
   refine V.run T_ok 10 rfl ?_
   refine V.nil ?_
   refine V.tN ?_
   exact ⟨HG, (by omega), F_o, Fk2, rfl, rfl, rfl, (congrArg Value.bool (by first | rfl | (have e1 : ByteArray.empty = S [] := rfl; (try simp only [e1] at *); first | (simp_all; done) | grind))), trivial⟩
 clear HG F_o Fk2
 rintro e v22 ⟨HG, z32, F_o, Fk2, hjn21_1, hjn21_3, hjn21_4, hjn21_5, -⟩
 refine V.knownC (t := 1) hjn21_1 ?_
 refine V.knownC (t := 3) hjn21_3 ?_
 refine V.knownC (t := 4) hjn21_4 ?_
 refine V.knownC (t := 5) hjn21_5 ?_
 refine V.seqJ (fun e v34 => Fr [] w v34 ∧ v22.heap.size ≤ v34.heap.size ∧ Sl V.Cod.write v34 D_o a_o c_o d.ws ∧ Cells v34 k1 [.int .i64 d.kd, .int .i64 d.id, .int .i64 d.le, .int .i64 d.nd, .int .i64 d.ti, .int .i64 d.te, .string d.an, .int .i64 d.sw, .int .i64 d.sl, .int .i64 d.sq, .string d.fr, .string d.to, .string d.va, .bool d.go, .int .i64 d.aw, .int .i64 d.al, .int .i64 d.lw, .int .i64 d.ll, .bool d.cm, .bool d.st, .slice a_o d.ws.length c_o, .int .i64 d.pr] 33 ∧ e 1 = .pointer (some ⟨k1, 0, none⟩) ∧ e 3 = .bool ((((((nmB d.id) && (nmB d.le)) && (nmB d.sq)) && (nmB d.pr)) && (nmB d.ti)) && (nmB d.te)) ∧ e 4 = .bool (decide (d.an = S []) || isKey d.an) ∧ e 5 = .bool (decide (0 ≤ d.sw ∧ d.sw ≤ 1099511627776 ∧ 0 ≤ d.sl ∧ d.sl ≤ 65535) && decide (0 ≤ d.aw ∧ d.aw ≤ 1099511627776 ∧ 0 ≤ d.al ∧ d.al ≤ 65535) && decide (0 ≤ d.lw ∧ d.lw ≤ 1099511627776 ∧ 0 ≤ d.ll ∧ d.ll ≤ 65535)) ∧ e 6 = .bool ((decide (d.fr = S []) && decide (d.to = S [])) || rightB d.fr d.to) ∧ True) ?_ ?_
 ·
  refine V.region ?_
  refine V.run T_ok 1 rfl ?_
  refine V.loadO T_ok Fk2 rfl rfl rfl rfl rfl ?_
  refine V.mkStruct T_ok zero30 rfl rfl rfl rfl rfl ?_
  refine V.step rfl rfl (V.eqA_run rfl rfl rfl eqG30 (eqS30 _)) ?_
  refine V.run T_ok 1 rfl ?_
  refine V.split (j := 4) (t := 69) rfl rfl (fun g4_4 => ?_) (fun g4_4 => ?_)
  ·
   try replace g4_4 := V.dec g4_4
   try simp only [V.mk0, V.mk1, V.mk2, V.mk3] at g4_4
   refine V.run T_ok 5 rfl ?_
   refine V.nil ?_
   refine V.tN ?_
   exact ⟨HG, (by omega), F_o, Fk2, rfl, rfl, rfl, rfl, (congrArg Value.bool (by first | rfl | (have e1 : ByteArray.empty = S [] := rfl; (try simp only [e1] at *); first | (simp_all; done) | grind))), trivial⟩
  ·
   try replace g4_4 := V.dec g4_4
   try simp only [V.mk0, V.mk1, V.mk2, V.mk3] at g4_4
   refine V.run T_ok 1 rfl ?_
   refine V.yes rfl rfl rfl ?_
   refine V.loadO T_ok Fk2 rfl rfl rfl rfl rfl ?_
   refine V.yes rfl rfl rfl ?_
   refine V.call (rspright_spec (f := d.fr) (t := d.to) (by first | omega | decide | (simp only [V.S_size, List.length_cons, List.length_nil]; omega)) (by first | omega | decide | (simp only [V.S_size, List.length_cons, List.length_nil]; omega))) rfl rfl rfl ?_
   rintro _ w35 ⟨rfl, G36⟩
   have z37 := V.Fr.size G36
   try replace F_o := F_o.gr G36
   try replace Fk2 := Fk2.gr G36
   replace HG := HG.grow G36
   clear G36
   refine V.run T_ok 2 rfl ?_
   refine V.nil ?_
   refine V.tN ?_
   exact ⟨HG, (by omega), F_o, Fk2, rfl, rfl, rfl, rfl, (congrArg Value.bool (by first | rfl | (have e1 : ByteArray.empty = S [] := rfl; (try simp only [e1] at *); first | (simp_all; done) | grind))), trivial⟩
 clear HG F_o Fk2
 rintro e v34 ⟨HG, z38, F_o, Fk2, hjn33_1, hjn33_3, hjn33_4, hjn33_5, hjn33_6, -⟩
 refine V.knownC (t := 1) hjn33_1 ?_
 refine V.knownC (t := 3) hjn33_3 ?_
 refine V.knownC (t := 4) hjn33_4 ?_
 refine V.knownC (t := 5) hjn33_5 ?_
 refine V.knownC (t := 6) hjn33_6 ?_
 refine V.seq ?_
 refine V.region ?_
 refine V.run T_ok 1 rfl ?_
 refine V.loadO T_ok Fk2 rfl rfl rfl rfl rfl ?_
 refine V.run T_ok 1 rfl ?_
 refine V.loadO T_ok Fk2 rfl rfl rfl rfl rfl ?_
 refine V.call (rvalue_spec (v := d.va) (gone := d.go) (by first | omega | decide | (simp only [V.S_size, List.length_cons, List.length_nil]; omega))) rfl rfl rfl ?_
 rintro _ v34_ ⟨rfl, rfl⟩
 refine V.run T_ok 1 rfl ?_
 refine V.nil ?_
 refine V.tN ?_
 refine V.seq ?_
 refine V.seq ?_
 refine V.region ?_
 refine V.run T_ok 1 rfl ?_
 refine V.nil ?_
 refine V.tN ?_
 refine V.block ?_
 have hl63 := F_o.len63
 refine V.loopM (fun m e v41 => Fr [] w v41 ∧ v34.heap.size ≤ v41.heap.size ∧ Sl V.Cod.write v41 D_o a_o c_o d.ws ∧ Cells v41 k1 [.int .i64 d.kd, .int .i64 d.id, .int .i64 d.le, .int .i64 d.nd, .int .i64 d.ti, .int .i64 d.te, .string d.an, .int .i64 d.sw, .int .i64 d.sl, .int .i64 d.sq, .string d.fr, .string d.to, .string d.va, .bool d.go, .int .i64 d.aw, .int .i64 d.al, .int .i64 d.lw, .int .i64 d.ll, .bool d.cm, .bool d.st, .slice a_o d.ws.length c_o, .int .i64 d.pr] 33 ∧ ∃ (i : Nat) , m = d.ws.length - i ∧ i ≤ d.ws.length ∧ (d.ws.take i).all wkB = true ∧ e 1 = .pointer (some ⟨k1, 0, none⟩) ∧ e 3 = .bool ((((((nmB d.id) && (nmB d.le)) && (nmB d.sq)) && (nmB d.pr)) && (nmB d.ti)) && (nmB d.te)) ∧ e 4 = .bool (decide (d.an = S []) || isKey d.an) ∧ e 5 = .bool (decide (0 ≤ d.sw ∧ d.sw ≤ 1099511627776 ∧ 0 ≤ d.sl ∧ d.sl ≤ 65535) && decide (0 ≤ d.aw ∧ d.aw ≤ 1099511627776 ∧ 0 ≤ d.al ∧ d.al ≤ 65535) && decide (0 ≤ d.lw ∧ d.lw ≤ 1099511627776 ∧ 0 ≤ d.ll ∧ d.ll ≤ 65535)) ∧ e 6 = .bool ((decide (d.fr = S []) && decide (d.to = S [])) || rightB d.fr d.to) ∧ e 7 = .bool (valB d.va d.go) ∧ e 8 = .int .i64 (i : Int)) ?_ ?_
 ·
  exact ⟨_, HG, (by omega), F_o, Fk2, (0), rfl, (Nat.zero_le _), ((by simp)), rfl, rfl, rfl, rfl, rfl, rfl, rfl⟩
 clear HG F_o Fk2
 rintro _ e v41 ⟨HG, z42, F_o, Fk2, i, rfl, hi, ha, he0_1, he0_3, he0_4, he0_5, he0_6, he0_7, he0_8⟩
 refine V.knownC (t := 1) he0_1 ?_
 refine V.knownC (t := 3) he0_3 ?_
 refine V.knownC (t := 4) he0_4 ?_
 refine V.knownC (t := 5) he0_5 ?_
 refine V.knownC (t := 6) he0_6 ?_
 refine V.knownC (t := 7) he0_7 ?_
 refine V.knownC (t := 8) he0_8 ?_
 refine V.seq ?_
 refine V.seq ?_
 refine V.region ?_
 refine V.run T_ok 2 rfl ?_
 refine V.loadO T_ok Fk2 rfl rfl rfl rfl rfl ?_
 refine V.run T_ok 2 rfl ?_
 refine V.nil ?_
 refine V.tN ?_
 refine V.condT rfl (fun h7 => ?_) (fun h7 => ?_)
 ·
  try replace h7 := V.dec h7
  try simp only [V.mk0, V.mk1, V.mk2, V.mk3] at h7
  refine V.skip ?_
  refine V.tN ?_
  refine V.seq ?_
  refine V.block ?_
  refine V.seq ?_
  refine V.region ?_
  refine V.run T_ok 1 rfl ?_
  refine V.loadO T_ok Fk2 rfl rfl rfl rfl rfl ?_
  refine V.run T_ok 1 rfl ?_
  refine V.elem T_ok F_o rfl rfl sz65 rfl rfl rfl rfl (by first | omega | (simp only [List.length_take, List.length_drop, List.length_append, List.length_cons, List.length_nil, List.length_replicate, List.length_set, V.length_data, V.S_size]; omega)) (by first | omega | (simp only [List.length_take, List.length_drop, List.length_append, List.length_cons, List.length_nil, List.length_replicate, List.length_set, V.length_data, V.S_size]; omega)) ?_
  rintro b43 o44 cs45 hx46 hb47 hR50 hA48
  obtain ⟨x49, hx49⟩ : ∃ z', d.ws[((i : Int)).toNat] = z' := ⟨_, rfl⟩
  rw [hx49] at hR50
  obtain ⟨_, _, rfl, rfl, rfl⟩ := hR50
  try simp only [Int.toNat_natCast] at hx49 hx46
  refine V.run T_ok 1 rfl ?_
  refine V.loadA T_ok (o0 := o44) (off := 0) hA48 rfl rfl rfl rfl rfl ?_
  have hks := hz.ws x49 (by rw [← hx49]; exact List.getElem_mem _)
  refine V.call (rkey_spec (s := x49.1) (by first | omega | decide | (simp only [V.S_size, List.length_cons, List.length_nil]; omega))) rfl rfl rfl ?_
  rintro _ v41_ ⟨rfl, rfl⟩
  refine V.run T_ok 1 rfl ?_
  refine V.nil ?_
  refine V.tN ?_
  refine V.seq ?_
  refine V.region ?_
  refine V.run T_ok 1 rfl ?_
  refine V.loadO T_ok Fk2 rfl rfl rfl rfl rfl ?_
  refine V.run T_ok 1 rfl ?_
  refine V.elem T_ok F_o rfl rfl sz65 rfl rfl rfl rfl (by first | omega | (simp only [List.length_take, List.length_drop, List.length_append, List.length_cons, List.length_nil, List.length_replicate, List.length_set, V.length_data, V.S_size]; omega)) (by first | omega | (simp only [List.length_take, List.length_drop, List.length_append, List.length_cons, List.length_nil, List.length_replicate, List.length_set, V.length_data, V.S_size]; omega)) ?_
  rintro b52 o53 cs54 hx55 hb56 hR59 hA57
  obtain ⟨x58, hx58⟩ : ∃ z', d.ws[((i : Int)).toNat] = z' := ⟨_, rfl⟩
  rw [hx58] at hR59
  obtain ⟨_, _, rfl, rfl, rfl⟩ := hR59
  try simp only [Int.toNat_natCast] at hx58 hx55
  obtain rfl : x49 = x58 := hx49.symm.trans hx58
  refine V.run T_ok 1 rfl ?_
  refine V.loadA T_ok (o0 := o53) (off := 1) hA57 rfl rfl rfl rfl rfl ?_
  refine V.call (rcnumber_spec (n := x49.2)) rfl rfl rfl ?_
  rintro _ v41_ ⟨rfl, rfl⟩
  refine V.run T_ok 1 rfl ?_
  refine V.nil ?_
  refine V.tN ?_
  refine V.seq ?_
  refine V.region ?_
  refine V.run T_ok 3 rfl ?_
  refine V.orG T_ok 2 2 102 rfl rfl rfl rfl rfl rfl rfl rfl ?_
  refine V.nil ?_
  refine V.tN ?_
  refine V.condT rfl (fun h11 => ?_) (fun h11 => ?_)
  ·
   try replace h11 := V.dec h11
   try simp only [V.mk0, V.mk1, V.mk2, V.mk3] at h11
   refine V.seq ?_
   refine V.region ?_
   refine V.run T_ok 1 rfl ?_
   refine V.nil ?_
   refine V.tN ?_
   refine V.ret ?_
   refine V.bR ?_
   refine V.tR ?_
   refine V.tR ?_
   refine V.bR ?_
   refine V.tR ?_
   refine V.done rfl ?_
   exact ⟨congrArg Value.bool (wk_bad (by omega) hx49 (by unfold wkB; grind)).symm, HG⟩
  ·
   try replace h11 := V.dec h11
   try simp only [V.mk0, V.mk1, V.mk2, V.mk3] at h11
   refine V.skip ?_
   refine V.bN ?_
   refine V.tN ?_
   refine V.region ?_
   refine V.run T_ok 1 rfl ?_
   refine V.addN rfl rfl rfl rfl rfl (by first | omega | (simp only [List.length_take, List.length_drop, List.length_append, List.length_cons, List.length_nil, List.length_replicate, List.length_set, V.length_data, V.S_size]; omega)) (by first | omega | (simp only [List.length_take, List.length_drop, List.length_append, List.length_cons, List.length_nil, List.length_replicate, List.length_set, V.length_data, V.S_size]; omega)) ?_
   refine V.run T_ok 1 rfl ?_
   refine V.nil ?_
   refine V.tN ?_
   exact ⟨_, (by omega), HG, (by omega), F_o, Fk2, (i + 1), rfl, (by omega), ((all_succ ha (by omega) hx49 (by unfold wkB; grind))), rfl, rfl, rfl, rfl, rfl, rfl, rfl⟩
 ·
  try replace h7 := V.dec h7
  try simp only [V.mk0, V.mk1, V.mk2, V.mk3] at h7
  refine V.exit ?_
  refine V.tX ?_
  refine V.tX ?_
  refine V.bE ?_
  refine V.tN ?_
  refine V.seq ?_
  refine V.region ?_
  refine V.run T_ok 2 rfl ?_
  refine V.andG T_ok 1 1 107 rfl rfl rfl rfl rfl rfl rfl rfl ?_
  refine V.run T_ok 1 rfl ?_
  refine V.andG T_ok 1 4 110 rfl rfl rfl rfl rfl rfl rfl rfl ?_
  refine V.run T_ok 1 rfl ?_
  refine V.andG T_ok 1 7 113 rfl rfl rfl rfl rfl rfl rfl rfl ?_
  refine V.run T_ok 1 rfl ?_
  refine V.andG T_ok 1 10 116 rfl rfl rfl rfl rfl rfl rfl rfl ?_
  refine V.run T_ok 1 rfl ?_
  refine V.split (j := 13) (t := 119) rfl rfl (fun g13_13 => ?_) (fun g13_13 => ?_)
  ·
   try replace g13_13 := V.dec g13_13
   try simp only [V.mk0, V.mk1, V.mk2, V.mk3] at g13_13
   refine V.run T_ok 1 rfl ?_
   refine V.yes rfl rfl rfl ?_
   refine V.loadO T_ok Fk2 rfl rfl rfl rfl rfl ?_
   refine V.run T_ok 3 rfl ?_
   refine V.split (j := 18) (t := 124) rfl rfl (fun g13_18 => ?_) (fun g13_18 => ?_)
   ·
    try replace g13_18 := V.dec g13_18
    try simp only [V.mk0, V.mk1, V.mk2, V.mk3] at g13_18
    refine V.run T_ok 1 rfl ?_
    refine V.yes rfl rfl rfl ?_
    refine V.loadO T_ok Fk2 rfl rfl rfl rfl rfl ?_
    refine V.run T_ok 3 rfl ?_
    refine V.split (j := 23) (t := 129) rfl rfl (fun g13_23 => ?_) (fun g13_23 => ?_)
    ·
     try replace g13_23 := V.dec g13_23
     try simp only [V.mk0, V.mk1, V.mk2, V.mk3] at g13_23
     refine V.run T_ok 1 rfl ?_
     refine V.yes rfl rfl rfl ?_
     refine V.loadO T_ok Fk2 rfl rfl rfl rfl rfl ?_
     refine V.run T_ok 4 rfl ?_
     refine V.split (j := 29) (t := 135) rfl rfl (fun g13_29 => ?_) (fun g13_29 => ?_)
     ·
      try replace g13_29 := V.dec g13_29
      try simp only [V.mk0, V.mk1, V.mk2, V.mk3] at g13_29
      refine V.run T_ok 1 rfl ?_
      refine V.yes rfl rfl rfl ?_
      refine V.loadO T_ok Fk2 rfl rfl rfl rfl rfl ?_
      refine V.run T_ok 3 rfl ?_
      refine V.split (j := 34) (t := 140) rfl rfl (fun g13_34 => ?_) (fun g13_34 => ?_)
      ·
       try replace g13_34 := V.dec g13_34
       try simp only [V.mk0, V.mk1, V.mk2, V.mk3] at g13_34
       refine V.run T_ok 1 rfl ?_
       refine V.yes rfl rfl rfl ?_
       refine V.loadO T_ok Fk2 rfl rfl rfl rfl rfl ?_
       refine V.run T_ok 3 rfl ?_
       refine V.nil ?_
       refine V.tN ?_
       refine V.ret ?_
       refine V.done rfl ?_
       exact ⟨(congrArg Value.bool (by first | rfl | (unfold fldB; rw [all_full ha (by omega)]; unfold nK numsL stsL; simp only [List.all_cons, List.all_nil, stB2]; (have e1 : ByteArray.empty = S [] := rfl); (try simp only [e1] at *); clear ha; grind))), HG⟩
      ·
       try replace g13_34 := V.dec g13_34
       try simp only [V.mk0, V.mk1, V.mk2, V.mk3] at g13_34
       refine V.run T_ok 5 rfl ?_
       refine V.nil ?_
       refine V.tN ?_
       refine V.ret ?_
       refine V.done rfl ?_
       exact ⟨(congrArg Value.bool (by first | rfl | (unfold fldB; rw [all_full ha (by omega)]; unfold nK numsL stsL; simp only [List.all_cons, List.all_nil, stB2]; (have e1 : ByteArray.empty = S [] := rfl); (try simp only [e1] at *); clear ha; grind))), HG⟩
     ·
      try replace g13_29 := V.dec g13_29
      try simp only [V.mk0, V.mk1, V.mk2, V.mk3] at g13_29
      refine V.run T_ok 10 rfl ?_
      refine V.nil ?_
      refine V.tN ?_
      refine V.ret ?_
      refine V.done rfl ?_
      exact ⟨(congrArg Value.bool (by first | rfl | (unfold fldB; rw [all_full ha (by omega)]; unfold nK numsL stsL; simp only [List.all_cons, List.all_nil, stB2]; (have e1 : ByteArray.empty = S [] := rfl); (try simp only [e1] at *); clear ha; grind))), HG⟩
    ·
     try replace g13_23 := V.dec g13_23
     try simp only [V.mk0, V.mk1, V.mk2, V.mk3] at g13_23
     refine V.run T_ok 16 rfl ?_
     refine V.nil ?_
     refine V.tN ?_
     refine V.ret ?_
     refine V.done rfl ?_
     exact ⟨(congrArg Value.bool (by first | rfl | (unfold fldB; rw [all_full ha (by omega)]; unfold nK numsL stsL; simp only [List.all_cons, List.all_nil, stB2]; (have e1 : ByteArray.empty = S [] := rfl); (try simp only [e1] at *); clear ha; grind))), HG⟩
   ·
    try replace g13_18 := V.dec g13_18
    try simp only [V.mk0, V.mk1, V.mk2, V.mk3] at g13_18
    refine V.run T_ok 21 rfl ?_
    refine V.nil ?_
    refine V.tN ?_
    refine V.ret ?_
    refine V.done rfl ?_
    exact ⟨(congrArg Value.bool (by first | rfl | (unfold fldB; rw [all_full ha (by omega)]; unfold nK numsL stsL; simp only [List.all_cons, List.all_nil, stB2]; (have e1 : ByteArray.empty = S [] := rfl); (try simp only [e1] at *); clear ha; grind))), HG⟩
  ·
   try replace g13_13 := V.dec g13_13
   try simp only [V.mk0, V.mk1, V.mk2, V.mk3] at g13_13
   refine V.run T_ok 26 rfl ?_
   refine V.nil ?_
   refine V.tN ?_
   refine V.ret ?_
   refine V.done rfl ?_
   exact ⟨(congrArg Value.bool (by first | rfl | (unfold fldB; rw [all_full ha (by omega)]; unfold nK numsL stsL; simp only [List.all_cons, List.all_nil, stB2]; (have e1 : ByteArray.empty = S [] := rfl); (try simp only [e1] at *); clear ha; grind))), HG⟩


theorem wrB_fld {d : CmdV} (h : fldB d = true) : wrB d.ws = (decide ((d.ws.map (·.1)).Nodup) && !decide (d.ws.length = 0)) := by
  unfold fldB at h
  simp only [Bool.and_eq_true] at h
  obtain ⟨⟨⟨⟨⟨⟨⟨-, -⟩, h3⟩, -⟩, -⟩, -⟩, -⟩, h8⟩ := h
  unfold wrB
  have e : (d.ws.all fun x => isKey x.1 && decide (0 ≤ x.2 ∧ x.2 ≤ 1099511627776)) = true := h3
  rw [e, Bool.true_and, Bool.eq_iff_iff]
  simp only [Bool.and_eq_true, decide_eq_true_eq, Bool.not_eq_true', decide_eq_false_iff_not] at *
  constructor <;> rintro ⟨a, b⟩ <;> refine ⟨a, ?_⟩ <;> omega
theorem cmd_plain {d : CmdV} (h : (nK d.kd && fldB d) = false) : cmdB d = false := by unfold cmdB; rw [h]; rfl
theorem cmd_ok {d : CmdV} (h : (nK d.kd && fldB d) = true) : cmdB d = (!(nS d.kd && decide (d.fr = S [])) && !(nO d.kd && !decide (d.to = S [])) && !(nA d.kd && decide (d.an = S [])) && !(nW d.kd && !wrB d.ws)) := by
  have h2 := h
  rw [Bool.and_eq_true] at h2
  rw [wrB_fld h2.2]
  unfold cmdB; rw [h, Bool.true_and]
  congr 2; cases decide (d.ws.length = 0) <;> cases decide ((d.ws.map (·.1)).Nodup) <;> simp

set_option maxHeartbeats 900000 in
set_option maxRecDepth 10000 in
theorem rcright_spec {w : World} {d : CmdV} {D_o : Nat → Prop} {c_o : Nat} {a_o : Option Addr} (F_o : Sl V.Cod.write w D_o a_o c_o d.ws) (hD_o : ∀ k, D_o k → k < w.heap.size)  (hz : SzOk d) :
    Meets Try.prog 59 [.agg #[.int .i64 d.kd, .int .i64 d.id, .int .i64 d.le, .int .i64 d.nd, .int .i64 d.ti, .int .i64 d.te, .string d.an, .int .i64 d.sw, .int .i64 d.sl, .int .i64 d.sq, .string d.fr, .string d.to, .string d.va, .bool d.go, .int .i64 d.aw, .int .i64 d.al, .int .i64 d.lw, .int .i64 d.ll, .bool d.cm, .bool d.st, .slice a_o d.ws.length c_o, .int .i64 d.pr]] w fun r w' => r = .bool (cmdB d) ∧ Gr w w' := by
 have hko : keysOk d.ws := hz.ws
 have HG := V.Fr.refl [] w
 refine V.enter (n := 64) Try.func59 rfl rfl (by decide) rfl ?_
 refine V.seq ?_
 refine V.region ?_
 refine V.box rfl rfl rfl rfl ?_
 rintro k1 w3 s5 s6 G4 Fk2
 have z7 := V.Fr.size G4
 try replace F_o := F_o.gr G4
 replace HG := HG.grow G4
 clear G4
 try simp only [V.cellsL, V.spliceL] at Fk2
 refine V.run T_ok 1 rfl ?_
 refine V.nil ?_
 refine V.tN ?_
 refine V.seq ?_
 refine V.region ?_
 refine V.loadO T_ok Fk2 rfl rfl rfl rfl rfl ?_
 refine V.call (rplain_spec (d := d) F_o (fun k hk => by have := hD_o k hk; omega) (by first | (with_reducible assumption) | exact hz | (constructor <;> first | exact hz.an | exact hz.fr | exact hz.to | exact hz.va | exact hz.ws | exact (by decide : (S []).size ≤ 9223372036854775807) | exact (fun x hx => nomatch (show x ∈ ([] : List (ByteArray × Int)) from hx))))) rfl rfl rfl ?_
 rintro _ w8 ⟨rfl, G9⟩
 have z10 := V.Fr.size G9
 try replace F_o := F_o.gr G9
 try replace Fk2 := Fk2.gr G9
 replace HG := HG.grow G9
 clear G9
 refine V.run T_ok 1 rfl ?_
 refine V.nil ?_
 refine V.tN ?_
 refine V.seq ?_
 refine V.region ?_
 refine V.run T_ok 1 rfl ?_
 refine V.loadO T_ok Fk2 rfl rfl rfl rfl rfl ?_
 refine V.call (rwritten_spec F_o (fun k hk => by have := hD_o k hk; omega) (by first | assumption | exact keysOk.nil | (unfold keysOk; decide))) rfl rfl rfl ?_
 rintro _ w11 ⟨rfl, G12⟩
 have z13 := V.Fr.size G12
 try replace F_o := F_o.gr G12
 try replace Fk2 := Fk2.gr G12
 replace HG := HG.grow G12
 clear G12
 refine V.run T_ok 1 rfl ?_
 refine V.nil ?_
 refine V.tN ?_
 refine V.seq ?_
 refine V.region ?_
 refine V.run T_ok 2 rfl ?_
 refine V.loadO T_ok Fk2 rfl rfl rfl rfl rfl ?_
 refine V.run T_ok 2 rfl ?_
 refine V.nil ?_
 refine V.tN ?_
 refine V.seq ?_
 refine V.region ?_
 refine V.run T_ok 2 rfl ?_
 refine V.loadO T_ok Fk2 rfl rfl rfl rfl rfl ?_
 refine V.run T_ok 2 rfl ?_
 refine V.nil ?_
 refine V.tN ?_
 refine V.seq ?_
 refine V.seq ?_
 refine V.region ?_
 refine V.run T_ok 1 rfl ?_
 refine V.loadO T_ok Fk2 rfl rfl rfl rfl rfl ?_
 refine V.nil ?_
 refine V.tN ?_
 refine V.block ?_
 refine V.seq ?_
 refine V.seq ?_
 refine V.region ?_
 refine V.run T_ok 2 rfl ?_
 refine V.nil ?_
 refine V.tN ?_
 refine V.condT rfl (fun h6 => ?_) (fun h6 => ?_)
 ·
  try replace h6 := V.dec h6
  try simp only [V.mk0, V.mk1, V.mk2, V.mk3] at h6
  refine V.skip ?_
  refine V.tN ?_
  refine V.condT rfl (fun h6 => ?_) (fun h6 => ?_)
  ·
   try replace h6 := V.dec h6
   try simp only [V.mk0, V.mk1, V.mk2, V.mk3] at h6
   refine V.seq ?_
   refine V.region ?_
   refine V.run T_ok 2 rfl ?_
   refine V.andG T_ok 1 1 27 rfl rfl rfl rfl rfl rfl rfl rfl ?_
   refine V.run T_ok 1 rfl ?_
   refine V.nil ?_
   refine V.tN ?_
   refine V.ret ?_
   refine V.bR ?_
   refine V.tR ?_
   refine V.done rfl ?_
   exact ⟨congrArg Value.bool (by cases hp : (nK d.kd && fldB d) with | false => (first | (rw [cmd_plain hp]; done) | (rw [cmd_plain hp]; grind)) | true => (rw [cmd_ok hp]; unfold nS nO nA nW; (have e2 : (⟨#[]⟩ : ByteArray) = S [] := rfl); (try simp only [e2] at *); grind)), HG⟩
  ·
   try replace h6 := V.dec h6
   try simp only [V.mk0, V.mk1, V.mk2, V.mk3] at h6
   refine V.seq ?_
   refine V.seq ?_
   refine V.region ?_
   refine V.run T_ok 2 rfl ?_
   refine V.nil ?_
   refine V.tN ?_
   refine V.condT rfl (fun h10 => ?_) (fun h10 => ?_)
   ·
    try replace h10 := V.dec h10
    try simp only [V.mk0, V.mk1, V.mk2, V.mk3] at h10
    refine V.skip ?_
    refine V.tN ?_
    refine V.condT rfl (fun h10 => ?_) (fun h10 => ?_)
    ·
     try replace h10 := V.dec h10
     try simp only [V.mk0, V.mk1, V.mk2, V.mk3] at h10
     refine V.seq ?_
     refine V.region ?_
     refine V.run T_ok 2 rfl ?_
     refine V.andG T_ok 1 1 34 rfl rfl rfl rfl rfl rfl rfl rfl ?_
     refine V.run T_ok 1 rfl ?_
     refine V.split (j := 4) (t := 37) rfl rfl (fun g12_4 => ?_) (fun g12_4 => ?_)
     ·
      try replace g12_4 := V.dec g12_4
      try simp only [V.mk0, V.mk1, V.mk2, V.mk3] at g12_4
      refine V.run T_ok 2 rfl ?_
      refine V.yes rfl rfl rfl ?_
      refine V.loadO T_ok Fk2 rfl rfl rfl rfl rfl ?_
      refine V.run T_ok 3 rfl ?_
      refine V.andG T_ok 1 10 43 rfl rfl rfl rfl rfl rfl rfl rfl ?_
      refine V.run T_ok 1 rfl ?_
      refine V.nil ?_
      refine V.tN ?_
      refine V.ret ?_
      refine V.bR ?_
      refine V.tR ?_
      refine V.done rfl ?_
      exact ⟨congrArg Value.bool (by cases hp : (nK d.kd && fldB d) with | false => (first | (rw [cmd_plain hp]; done) | (rw [cmd_plain hp]; grind)) | true => (rw [cmd_ok hp]; unfold nS nO nA nW; (have e2 : (⟨#[]⟩ : ByteArray) = S [] := rfl); (try simp only [e2] at *); grind)), HG⟩
     ·
      try replace g12_4 := V.dec g12_4
      try simp only [V.mk0, V.mk1, V.mk2, V.mk3] at g12_4
      refine V.run T_ok 9 rfl ?_
      refine V.nil ?_
      refine V.tN ?_
      refine V.ret ?_
      refine V.bR ?_
      refine V.tR ?_
      refine V.done rfl ?_
      exact ⟨congrArg Value.bool (by cases hp : (nK d.kd && fldB d) with | false => (first | (rw [cmd_plain hp]; done) | (rw [cmd_plain hp]; grind)) | true => (rw [cmd_ok hp]; unfold nS nO nA nW; (have e2 : (⟨#[]⟩ : ByteArray) = S [] := rfl); (try simp only [e2] at *); grind)), HG⟩
    ·
     try replace h10 := V.dec h10
     try simp only [V.mk0, V.mk1, V.mk2, V.mk3] at h10
     refine V.seq ?_
     refine V.seq ?_
     refine V.region ?_
     refine V.run T_ok 2 rfl ?_
     refine V.nil ?_
     refine V.tN ?_
     refine V.condT rfl (fun h13 => ?_) (fun h13 => ?_)
     ·
      try replace h13 := V.dec h13
      try simp only [V.mk0, V.mk1, V.mk2, V.mk3] at h13
      refine V.skip ?_
      refine V.tN ?_
      refine V.condT rfl (fun h13 => ?_) (fun h13 => ?_)
      ·
       try replace h13 := V.dec h13
       try simp only [V.mk0, V.mk1, V.mk2, V.mk3] at h13
       refine V.seq ?_
       refine V.region ?_
       refine V.run T_ok 2 rfl ?_
       refine V.andG T_ok 1 1 51 rfl rfl rfl rfl rfl rfl rfl rfl ?_
       refine V.run T_ok 1 rfl ?_
       refine V.nil ?_
       refine V.tN ?_
       refine V.ret ?_
       refine V.bR ?_
       refine V.tR ?_
       refine V.done rfl ?_
       exact ⟨congrArg Value.bool (by cases hp : (nK d.kd && fldB d) with | false => (first | (rw [cmd_plain hp]; done) | (rw [cmd_plain hp]; grind)) | true => (rw [cmd_ok hp]; unfold nS nO nA nW; (have e2 : (⟨#[]⟩ : ByteArray) = S [] := rfl); (try simp only [e2] at *); grind)), HG⟩
      ·
       try replace h13 := V.dec h13
       try simp only [V.mk0, V.mk1, V.mk2, V.mk3] at h13
       refine V.seq ?_
       refine V.region ?_
       refine V.run T_ok 2 rfl ?_
       refine V.nil ?_
       refine V.tN ?_
       refine V.condT rfl (fun h17 => ?_) (fun h17 => ?_)
       ·
        try replace h17 := V.dec h17
        try simp only [V.mk0, V.mk1, V.mk2, V.mk3] at h17
        refine V.seq ?_
        refine V.region ?_
        refine V.run T_ok 2 rfl ?_
        refine V.andG T_ok 1 1 57 rfl rfl rfl rfl rfl rfl rfl rfl ?_
        refine V.run T_ok 1 rfl ?_
        refine V.andG T_ok 1 4 60 rfl rfl rfl rfl rfl rfl rfl rfl ?_
        refine V.run T_ok 1 rfl ?_
        refine V.nil ?_
        refine V.tN ?_
        refine V.ret ?_
        refine V.bR ?_
        refine V.tR ?_
        refine V.done rfl ?_
        exact ⟨congrArg Value.bool (by cases hp : (nK d.kd && fldB d) with | false => (first | (rw [cmd_plain hp]; done) | (rw [cmd_plain hp]; grind)) | true => (rw [cmd_ok hp]; unfold nS nO nA nW; (have e2 : (⟨#[]⟩ : ByteArray) = S [] := rfl); (try simp only [e2] at *); grind)), HG⟩
       ·
        try replace h17 := V.dec h17
        try simp only [V.mk0, V.mk1, V.mk2, V.mk3] at h17
        refine V.skip ?_
        refine V.bN ?_
        refine V.tN ?_
        refine V.seq ?_
        refine V.region ?_
        refine V.run T_ok 2 rfl ?_
        refine V.nil ?_
        refine V.tN ?_
        refine V.ret ?_
        refine V.done rfl ?_
        exact ⟨congrArg Value.bool (by cases hp : (nK d.kd && fldB d) with | false => (first | (rw [cmd_plain hp]; done) | (rw [cmd_plain hp]; grind)) | true => (rw [cmd_ok hp]; unfold nS nO nA nW; (have e2 : (⟨#[]⟩ : ByteArray) = S [] := rfl); (try simp only [e2] at *); grind)), HG⟩
     ·
      try replace h13 := V.dec h13
      try simp only [V.mk0, V.mk1, V.mk2, V.mk3] at h13
      refine V.seq ?_
      refine V.region ?_
      refine V.run T_ok 2 rfl ?_
      refine V.nil ?_
      refine V.tN ?_
      refine V.condT rfl (fun h14 => ?_) (fun h14 => ?_)
      ·
       try replace h14 := V.dec h14
       try simp only [V.mk0, V.mk1, V.mk2, V.mk3] at h14
       refine V.skip ?_
       refine V.tN ?_
       refine V.condT rfl (fun h14 => ?_) (fun h14 => ?_)
       ·
        try replace h14 := V.dec h14
        try simp only [V.mk0, V.mk1, V.mk2, V.mk3] at h14
        refine V.seq ?_
        refine V.region ?_
        refine V.run T_ok 2 rfl ?_
        refine V.andG T_ok 1 1 51 rfl rfl rfl rfl rfl rfl rfl rfl ?_
        refine V.run T_ok 1 rfl ?_
        refine V.nil ?_
        refine V.tN ?_
        refine V.ret ?_
        refine V.bR ?_
        refine V.tR ?_
        refine V.done rfl ?_
        exact ⟨congrArg Value.bool (by cases hp : (nK d.kd && fldB d) with | false => (first | (rw [cmd_plain hp]; done) | (rw [cmd_plain hp]; grind)) | true => (rw [cmd_ok hp]; unfold nS nO nA nW; (have e2 : (⟨#[]⟩ : ByteArray) = S [] := rfl); (try simp only [e2] at *); grind)), HG⟩
       ·
        try replace h14 := V.dec h14
        try simp only [V.mk0, V.mk1, V.mk2, V.mk3] at h14
        refine V.seq ?_
        refine V.region ?_
        refine V.run T_ok 2 rfl ?_
        refine V.nil ?_
        refine V.tN ?_
        refine V.condT rfl (fun h17 => ?_) (fun h17 => ?_)
        ·
         try replace h17 := V.dec h17
         try simp only [V.mk0, V.mk1, V.mk2, V.mk3] at h17
         refine V.seq ?_
         refine V.region ?_
         refine V.run T_ok 2 rfl ?_
         refine V.andG T_ok 1 1 57 rfl rfl rfl rfl rfl rfl rfl rfl ?_
         refine V.run T_ok 1 rfl ?_
         refine V.andG T_ok 1 4 60 rfl rfl rfl rfl rfl rfl rfl rfl ?_
         refine V.run T_ok 1 rfl ?_
         refine V.nil ?_
         refine V.tN ?_
         refine V.ret ?_
         refine V.bR ?_
         refine V.tR ?_
         refine V.done rfl ?_
         exact ⟨congrArg Value.bool (by cases hp : (nK d.kd && fldB d) with | false => (first | (rw [cmd_plain hp]; done) | (rw [cmd_plain hp]; grind)) | true => (rw [cmd_ok hp]; unfold nS nO nA nW; (have e2 : (⟨#[]⟩ : ByteArray) = S [] := rfl); (try simp only [e2] at *); grind)), HG⟩
        ·
         try replace h17 := V.dec h17
         try simp only [V.mk0, V.mk1, V.mk2, V.mk3] at h17
         refine V.skip ?_
         refine V.bN ?_
         refine V.tN ?_
         refine V.seq ?_
         refine V.region ?_
         refine V.run T_ok 2 rfl ?_
         refine V.nil ?_
         refine V.tN ?_
         refine V.ret ?_
         refine V.done rfl ?_
         exact ⟨congrArg Value.bool (by cases hp : (nK d.kd && fldB d) with | false => (first | (rw [cmd_plain hp]; done) | (rw [cmd_plain hp]; grind)) | true => (rw [cmd_ok hp]; unfold nS nO nA nW; (have e2 : (⟨#[]⟩ : ByteArray) = S [] := rfl); (try simp only [e2] at *); grind)), HG⟩
      ·
       try replace h14 := V.dec h14
       try simp only [V.mk0, V.mk1, V.mk2, V.mk3] at h14
       refine V.region ?_
       refine V.run T_ok 2 rfl ?_
       refine V.nil ?_
       refine V.tN ?_
       refine V.condT rfl (fun h15 => ?_) (fun h15 => ?_)
       ·
        try replace h15 := V.dec h15
        try simp only [V.mk0, V.mk1, V.mk2, V.mk3] at h15
        refine V.seq ?_
        refine V.region ?_
        refine V.run T_ok 2 rfl ?_
        refine V.andG T_ok 1 1 51 rfl rfl rfl rfl rfl rfl rfl rfl ?_
        refine V.run T_ok 1 rfl ?_
        refine V.nil ?_
        refine V.tN ?_
        refine V.ret ?_
        refine V.bR ?_
        refine V.tR ?_
        refine V.done rfl ?_
        exact ⟨congrArg Value.bool (by cases hp : (nK d.kd && fldB d) with | false => (first | (rw [cmd_plain hp]; done) | (rw [cmd_plain hp]; grind)) | true => (rw [cmd_ok hp]; unfold nS nO nA nW; (have e2 : (⟨#[]⟩ : ByteArray) = S [] := rfl); (try simp only [e2] at *); grind)), HG⟩
       ·
        try replace h15 := V.dec h15
        try simp only [V.mk0, V.mk1, V.mk2, V.mk3] at h15
        refine V.seq ?_
        refine V.region ?_
        refine V.run T_ok 2 rfl ?_
        refine V.nil ?_
        refine V.tN ?_
        refine V.condT rfl (fun h17 => ?_) (fun h17 => ?_)
        ·
         try replace h17 := V.dec h17
         try simp only [V.mk0, V.mk1, V.mk2, V.mk3] at h17
         refine V.seq ?_
         refine V.region ?_
         refine V.run T_ok 2 rfl ?_
         refine V.andG T_ok 1 1 57 rfl rfl rfl rfl rfl rfl rfl rfl ?_
         refine V.run T_ok 1 rfl ?_
         refine V.andG T_ok 1 4 60 rfl rfl rfl rfl rfl rfl rfl rfl ?_
         refine V.run T_ok 1 rfl ?_
         refine V.nil ?_
         refine V.tN ?_
         refine V.ret ?_
         refine V.bR ?_
         refine V.tR ?_
         refine V.done rfl ?_
         exact ⟨congrArg Value.bool (by cases hp : (nK d.kd && fldB d) with | false => (first | (rw [cmd_plain hp]; done) | (rw [cmd_plain hp]; grind)) | true => (rw [cmd_ok hp]; unfold nS nO nA nW; (have e2 : (⟨#[]⟩ : ByteArray) = S [] := rfl); (try simp only [e2] at *); grind)), HG⟩
        ·
         try replace h17 := V.dec h17
         try simp only [V.mk0, V.mk1, V.mk2, V.mk3] at h17
         refine V.skip ?_
         refine V.bN ?_
         refine V.tN ?_
         refine V.seq ?_
         refine V.region ?_
         refine V.run T_ok 2 rfl ?_
         refine V.nil ?_
         refine V.tN ?_
         refine V.ret ?_
         refine V.done rfl ?_
         exact ⟨congrArg Value.bool (by cases hp : (nK d.kd && fldB d) with | false => (first | (rw [cmd_plain hp]; done) | (rw [cmd_plain hp]; grind)) | true => (rw [cmd_ok hp]; unfold nS nO nA nW; (have e2 : (⟨#[]⟩ : ByteArray) = S [] := rfl); (try simp only [e2] at *); grind)), HG⟩
   ·
    try replace h10 := V.dec h10
    try simp only [V.mk0, V.mk1, V.mk2, V.mk3] at h10
    refine V.region ?_
    refine V.run T_ok 2 rfl ?_
    refine V.nil ?_
    refine V.tN ?_
    refine V.condT rfl (fun h11 => ?_) (fun h11 => ?_)
    ·
     try replace h11 := V.dec h11
     try simp only [V.mk0, V.mk1, V.mk2, V.mk3] at h11
     refine V.seq ?_
     refine V.region ?_
     refine V.run T_ok 2 rfl ?_
     refine V.andG T_ok 1 1 34 rfl rfl rfl rfl rfl rfl rfl rfl ?_
     refine V.run T_ok 1 rfl ?_
     refine V.split (j := 4) (t := 37) rfl rfl (fun g12_4 => ?_) (fun g12_4 => ?_)
     ·
      try replace g12_4 := V.dec g12_4
      try simp only [V.mk0, V.mk1, V.mk2, V.mk3] at g12_4
      refine V.run T_ok 2 rfl ?_
      refine V.yes rfl rfl rfl ?_
      refine V.loadO T_ok Fk2 rfl rfl rfl rfl rfl ?_
      refine V.run T_ok 3 rfl ?_
      refine V.andG T_ok 1 10 43 rfl rfl rfl rfl rfl rfl rfl rfl ?_
      refine V.run T_ok 1 rfl ?_
      refine V.nil ?_
      refine V.tN ?_
      refine V.ret ?_
      refine V.bR ?_
      refine V.tR ?_
      refine V.done rfl ?_
      exact ⟨congrArg Value.bool (by cases hp : (nK d.kd && fldB d) with | false => (first | (rw [cmd_plain hp]; done) | (rw [cmd_plain hp]; grind)) | true => (rw [cmd_ok hp]; unfold nS nO nA nW; (have e2 : (⟨#[]⟩ : ByteArray) = S [] := rfl); (try simp only [e2] at *); grind)), HG⟩
     ·
      try replace g12_4 := V.dec g12_4
      try simp only [V.mk0, V.mk1, V.mk2, V.mk3] at g12_4
      refine V.run T_ok 9 rfl ?_
      refine V.nil ?_
      refine V.tN ?_
      refine V.ret ?_
      refine V.bR ?_
      refine V.tR ?_
      refine V.done rfl ?_
      exact ⟨congrArg Value.bool (by cases hp : (nK d.kd && fldB d) with | false => (first | (rw [cmd_plain hp]; done) | (rw [cmd_plain hp]; grind)) | true => (rw [cmd_ok hp]; unfold nS nO nA nW; (have e2 : (⟨#[]⟩ : ByteArray) = S [] := rfl); (try simp only [e2] at *); grind)), HG⟩
    ·
     try replace h11 := V.dec h11
     try simp only [V.mk0, V.mk1, V.mk2, V.mk3] at h11
     refine V.seq ?_
     refine V.seq ?_
     refine V.region ?_
     refine V.run T_ok 2 rfl ?_
     refine V.nil ?_
     refine V.tN ?_
     refine V.condT rfl (fun h13 => ?_) (fun h13 => ?_)
     ·
      try replace h13 := V.dec h13
      try simp only [V.mk0, V.mk1, V.mk2, V.mk3] at h13
      refine V.skip ?_
      refine V.tN ?_
      refine V.condT rfl (fun h13 => ?_) (fun h13 => ?_)
      ·
       try replace h13 := V.dec h13
       try simp only [V.mk0, V.mk1, V.mk2, V.mk3] at h13
       refine V.seq ?_
       refine V.region ?_
       refine V.run T_ok 2 rfl ?_
       refine V.andG T_ok 1 1 51 rfl rfl rfl rfl rfl rfl rfl rfl ?_
       refine V.run T_ok 1 rfl ?_
       refine V.nil ?_
       refine V.tN ?_
       refine V.ret ?_
       refine V.bR ?_
       refine V.tR ?_
       refine V.done rfl ?_
       exact ⟨congrArg Value.bool (by cases hp : (nK d.kd && fldB d) with | false => (first | (rw [cmd_plain hp]; done) | (rw [cmd_plain hp]; grind)) | true => (rw [cmd_ok hp]; unfold nS nO nA nW; (have e2 : (⟨#[]⟩ : ByteArray) = S [] := rfl); (try simp only [e2] at *); grind)), HG⟩
      ·
       try replace h13 := V.dec h13
       try simp only [V.mk0, V.mk1, V.mk2, V.mk3] at h13
       refine V.seq ?_
       refine V.region ?_
       refine V.run T_ok 2 rfl ?_
       refine V.nil ?_
       refine V.tN ?_
       refine V.condT rfl (fun h17 => ?_) (fun h17 => ?_)
       ·
        try replace h17 := V.dec h17
        try simp only [V.mk0, V.mk1, V.mk2, V.mk3] at h17
        refine V.seq ?_
        refine V.region ?_
        refine V.run T_ok 2 rfl ?_
        refine V.andG T_ok 1 1 57 rfl rfl rfl rfl rfl rfl rfl rfl ?_
        refine V.run T_ok 1 rfl ?_
        refine V.andG T_ok 1 4 60 rfl rfl rfl rfl rfl rfl rfl rfl ?_
        refine V.run T_ok 1 rfl ?_
        refine V.nil ?_
        refine V.tN ?_
        refine V.ret ?_
        refine V.bR ?_
        refine V.tR ?_
        refine V.done rfl ?_
        exact ⟨congrArg Value.bool (by cases hp : (nK d.kd && fldB d) with | false => (first | (rw [cmd_plain hp]; done) | (rw [cmd_plain hp]; grind)) | true => (rw [cmd_ok hp]; unfold nS nO nA nW; (have e2 : (⟨#[]⟩ : ByteArray) = S [] := rfl); (try simp only [e2] at *); grind)), HG⟩
       ·
        try replace h17 := V.dec h17
        try simp only [V.mk0, V.mk1, V.mk2, V.mk3] at h17
        refine V.skip ?_
        refine V.bN ?_
        refine V.tN ?_
        refine V.seq ?_
        refine V.region ?_
        refine V.run T_ok 2 rfl ?_
        refine V.nil ?_
        refine V.tN ?_
        refine V.ret ?_
        refine V.done rfl ?_
        exact ⟨congrArg Value.bool (by cases hp : (nK d.kd && fldB d) with | false => (first | (rw [cmd_plain hp]; done) | (rw [cmd_plain hp]; grind)) | true => (rw [cmd_ok hp]; unfold nS nO nA nW; (have e2 : (⟨#[]⟩ : ByteArray) = S [] := rfl); (try simp only [e2] at *); grind)), HG⟩
     ·
      try replace h13 := V.dec h13
      try simp only [V.mk0, V.mk1, V.mk2, V.mk3] at h13
      refine V.seq ?_
      refine V.region ?_
      refine V.run T_ok 2 rfl ?_
      refine V.nil ?_
      refine V.tN ?_
      refine V.condT rfl (fun h14 => ?_) (fun h14 => ?_)
      ·
       try replace h14 := V.dec h14
       try simp only [V.mk0, V.mk1, V.mk2, V.mk3] at h14
       refine V.skip ?_
       refine V.tN ?_
       refine V.condT rfl (fun h14 => ?_) (fun h14 => ?_)
       ·
        try replace h14 := V.dec h14
        try simp only [V.mk0, V.mk1, V.mk2, V.mk3] at h14
        refine V.seq ?_
        refine V.region ?_
        refine V.run T_ok 2 rfl ?_
        refine V.andG T_ok 1 1 51 rfl rfl rfl rfl rfl rfl rfl rfl ?_
        refine V.run T_ok 1 rfl ?_
        refine V.nil ?_
        refine V.tN ?_
        refine V.ret ?_
        refine V.bR ?_
        refine V.tR ?_
        refine V.done rfl ?_
        exact ⟨congrArg Value.bool (by cases hp : (nK d.kd && fldB d) with | false => (first | (rw [cmd_plain hp]; done) | (rw [cmd_plain hp]; grind)) | true => (rw [cmd_ok hp]; unfold nS nO nA nW; (have e2 : (⟨#[]⟩ : ByteArray) = S [] := rfl); (try simp only [e2] at *); grind)), HG⟩
       ·
        try replace h14 := V.dec h14
        try simp only [V.mk0, V.mk1, V.mk2, V.mk3] at h14
        refine V.seq ?_
        refine V.region ?_
        refine V.run T_ok 2 rfl ?_
        refine V.nil ?_
        refine V.tN ?_
        refine V.condT rfl (fun h17 => ?_) (fun h17 => ?_)
        ·
         try replace h17 := V.dec h17
         try simp only [V.mk0, V.mk1, V.mk2, V.mk3] at h17
         refine V.seq ?_
         refine V.region ?_
         refine V.run T_ok 2 rfl ?_
         refine V.andG T_ok 1 1 57 rfl rfl rfl rfl rfl rfl rfl rfl ?_
         refine V.run T_ok 1 rfl ?_
         refine V.andG T_ok 1 4 60 rfl rfl rfl rfl rfl rfl rfl rfl ?_
         refine V.run T_ok 1 rfl ?_
         refine V.nil ?_
         refine V.tN ?_
         refine V.ret ?_
         refine V.bR ?_
         refine V.tR ?_
         refine V.done rfl ?_
         exact ⟨congrArg Value.bool (by cases hp : (nK d.kd && fldB d) with | false => (first | (rw [cmd_plain hp]; done) | (rw [cmd_plain hp]; grind)) | true => (rw [cmd_ok hp]; unfold nS nO nA nW; (have e2 : (⟨#[]⟩ : ByteArray) = S [] := rfl); (try simp only [e2] at *); grind)), HG⟩
        ·
         try replace h17 := V.dec h17
         try simp only [V.mk0, V.mk1, V.mk2, V.mk3] at h17
         refine V.skip ?_
         refine V.bN ?_
         refine V.tN ?_
         refine V.seq ?_
         refine V.region ?_
         refine V.run T_ok 2 rfl ?_
         refine V.nil ?_
         refine V.tN ?_
         refine V.ret ?_
         refine V.done rfl ?_
         exact ⟨congrArg Value.bool (by cases hp : (nK d.kd && fldB d) with | false => (first | (rw [cmd_plain hp]; done) | (rw [cmd_plain hp]; grind)) | true => (rw [cmd_ok hp]; unfold nS nO nA nW; (have e2 : (⟨#[]⟩ : ByteArray) = S [] := rfl); (try simp only [e2] at *); grind)), HG⟩
      ·
       try replace h14 := V.dec h14
       try simp only [V.mk0, V.mk1, V.mk2, V.mk3] at h14
       refine V.region ?_
       refine V.run T_ok 2 rfl ?_
       refine V.nil ?_
       refine V.tN ?_
       refine V.condT rfl (fun h15 => ?_) (fun h15 => ?_)
       ·
        try replace h15 := V.dec h15
        try simp only [V.mk0, V.mk1, V.mk2, V.mk3] at h15
        refine V.seq ?_
        refine V.region ?_
        refine V.run T_ok 2 rfl ?_
        refine V.andG T_ok 1 1 51 rfl rfl rfl rfl rfl rfl rfl rfl ?_
        refine V.run T_ok 1 rfl ?_
        refine V.nil ?_
        refine V.tN ?_
        refine V.ret ?_
        refine V.bR ?_
        refine V.tR ?_
        refine V.done rfl ?_
        exact ⟨congrArg Value.bool (by cases hp : (nK d.kd && fldB d) with | false => (first | (rw [cmd_plain hp]; done) | (rw [cmd_plain hp]; grind)) | true => (rw [cmd_ok hp]; unfold nS nO nA nW; (have e2 : (⟨#[]⟩ : ByteArray) = S [] := rfl); (try simp only [e2] at *); grind)), HG⟩
       ·
        try replace h15 := V.dec h15
        try simp only [V.mk0, V.mk1, V.mk2, V.mk3] at h15
        refine V.seq ?_
        refine V.region ?_
        refine V.run T_ok 2 rfl ?_
        refine V.nil ?_
        refine V.tN ?_
        refine V.condT rfl (fun h17 => ?_) (fun h17 => ?_)
        ·
         try replace h17 := V.dec h17
         try simp only [V.mk0, V.mk1, V.mk2, V.mk3] at h17
         refine V.seq ?_
         refine V.region ?_
         refine V.run T_ok 2 rfl ?_
         refine V.andG T_ok 1 1 57 rfl rfl rfl rfl rfl rfl rfl rfl ?_
         refine V.run T_ok 1 rfl ?_
         refine V.andG T_ok 1 4 60 rfl rfl rfl rfl rfl rfl rfl rfl ?_
         refine V.run T_ok 1 rfl ?_
         refine V.nil ?_
         refine V.tN ?_
         refine V.ret ?_
         refine V.bR ?_
         refine V.tR ?_
         refine V.done rfl ?_
         exact ⟨congrArg Value.bool (by cases hp : (nK d.kd && fldB d) with | false => (first | (rw [cmd_plain hp]; done) | (rw [cmd_plain hp]; grind)) | true => (rw [cmd_ok hp]; unfold nS nO nA nW; (have e2 : (⟨#[]⟩ : ByteArray) = S [] := rfl); (try simp only [e2] at *); grind)), HG⟩
        ·
         try replace h17 := V.dec h17
         try simp only [V.mk0, V.mk1, V.mk2, V.mk3] at h17
         refine V.skip ?_
         refine V.bN ?_
         refine V.tN ?_
         refine V.seq ?_
         refine V.region ?_
         refine V.run T_ok 2 rfl ?_
         refine V.nil ?_
         refine V.tN ?_
         refine V.ret ?_
         refine V.done rfl ?_
         exact ⟨congrArg Value.bool (by cases hp : (nK d.kd && fldB d) with | false => (first | (rw [cmd_plain hp]; done) | (rw [cmd_plain hp]; grind)) | true => (rw [cmd_ok hp]; unfold nS nO nA nW; (have e2 : (⟨#[]⟩ : ByteArray) = S [] := rfl); (try simp only [e2] at *); grind)), HG⟩
 ·
  try replace h6 := V.dec h6
  try simp only [V.mk0, V.mk1, V.mk2, V.mk3] at h6
  refine V.seq ?_
  refine V.region ?_
  refine V.run T_ok 2 rfl ?_
  refine V.nil ?_
  refine V.tN ?_
  refine V.condT rfl (fun h7 => ?_) (fun h7 => ?_)
  ·
   try replace h7 := V.dec h7
   try simp only [V.mk0, V.mk1, V.mk2, V.mk3] at h7
   refine V.skip ?_
   refine V.tN ?_
   refine V.condT rfl (fun h7 => ?_) (fun h7 => ?_)
   ·
    try replace h7 := V.dec h7
    try simp only [V.mk0, V.mk1, V.mk2, V.mk3] at h7
    refine V.seq ?_
    refine V.region ?_
    refine V.run T_ok 2 rfl ?_
    refine V.andG T_ok 1 1 27 rfl rfl rfl rfl rfl rfl rfl rfl ?_
    refine V.run T_ok 1 rfl ?_
    refine V.nil ?_
    refine V.tN ?_
    refine V.ret ?_
    refine V.bR ?_
    refine V.tR ?_
    refine V.done rfl ?_
    exact ⟨congrArg Value.bool (by cases hp : (nK d.kd && fldB d) with | false => (first | (rw [cmd_plain hp]; done) | (rw [cmd_plain hp]; grind)) | true => (rw [cmd_ok hp]; unfold nS nO nA nW; (have e2 : (⟨#[]⟩ : ByteArray) = S [] := rfl); (try simp only [e2] at *); grind)), HG⟩
   ·
    try replace h7 := V.dec h7
    try simp only [V.mk0, V.mk1, V.mk2, V.mk3] at h7
    refine V.seq ?_
    refine V.seq ?_
    refine V.region ?_
    refine V.run T_ok 2 rfl ?_
    refine V.nil ?_
    refine V.tN ?_
    refine V.condT rfl (fun h10 => ?_) (fun h10 => ?_)
    ·
     try replace h10 := V.dec h10
     try simp only [V.mk0, V.mk1, V.mk2, V.mk3] at h10
     refine V.skip ?_
     refine V.tN ?_
     refine V.condT rfl (fun h10 => ?_) (fun h10 => ?_)
     ·
      try replace h10 := V.dec h10
      try simp only [V.mk0, V.mk1, V.mk2, V.mk3] at h10
      refine V.seq ?_
      refine V.region ?_
      refine V.run T_ok 2 rfl ?_
      refine V.andG T_ok 1 1 34 rfl rfl rfl rfl rfl rfl rfl rfl ?_
      refine V.run T_ok 1 rfl ?_
      refine V.split (j := 4) (t := 37) rfl rfl (fun g12_4 => ?_) (fun g12_4 => ?_)
      ·
       try replace g12_4 := V.dec g12_4
       try simp only [V.mk0, V.mk1, V.mk2, V.mk3] at g12_4
       refine V.run T_ok 2 rfl ?_
       refine V.yes rfl rfl rfl ?_
       refine V.loadO T_ok Fk2 rfl rfl rfl rfl rfl ?_
       refine V.run T_ok 3 rfl ?_
       refine V.andG T_ok 1 10 43 rfl rfl rfl rfl rfl rfl rfl rfl ?_
       refine V.run T_ok 1 rfl ?_
       refine V.nil ?_
       refine V.tN ?_
       refine V.ret ?_
       refine V.bR ?_
       refine V.tR ?_
       refine V.done rfl ?_
       exact ⟨congrArg Value.bool (by cases hp : (nK d.kd && fldB d) with | false => (first | (rw [cmd_plain hp]; done) | (rw [cmd_plain hp]; grind)) | true => (rw [cmd_ok hp]; unfold nS nO nA nW; (have e2 : (⟨#[]⟩ : ByteArray) = S [] := rfl); (try simp only [e2] at *); grind)), HG⟩
      ·
       try replace g12_4 := V.dec g12_4
       try simp only [V.mk0, V.mk1, V.mk2, V.mk3] at g12_4
       refine V.run T_ok 9 rfl ?_
       refine V.nil ?_
       refine V.tN ?_
       refine V.ret ?_
       refine V.bR ?_
       refine V.tR ?_
       refine V.done rfl ?_
       exact ⟨congrArg Value.bool (by cases hp : (nK d.kd && fldB d) with | false => (first | (rw [cmd_plain hp]; done) | (rw [cmd_plain hp]; grind)) | true => (rw [cmd_ok hp]; unfold nS nO nA nW; (have e2 : (⟨#[]⟩ : ByteArray) = S [] := rfl); (try simp only [e2] at *); grind)), HG⟩
     ·
      try replace h10 := V.dec h10
      try simp only [V.mk0, V.mk1, V.mk2, V.mk3] at h10
      refine V.seq ?_
      refine V.seq ?_
      refine V.region ?_
      refine V.run T_ok 2 rfl ?_
      refine V.nil ?_
      refine V.tN ?_
      refine V.condT rfl (fun h13 => ?_) (fun h13 => ?_)
      ·
       try replace h13 := V.dec h13
       try simp only [V.mk0, V.mk1, V.mk2, V.mk3] at h13
       refine V.skip ?_
       refine V.tN ?_
       refine V.condT rfl (fun h13 => ?_) (fun h13 => ?_)
       ·
        try replace h13 := V.dec h13
        try simp only [V.mk0, V.mk1, V.mk2, V.mk3] at h13
        refine V.seq ?_
        refine V.region ?_
        refine V.run T_ok 2 rfl ?_
        refine V.andG T_ok 1 1 51 rfl rfl rfl rfl rfl rfl rfl rfl ?_
        refine V.run T_ok 1 rfl ?_
        refine V.nil ?_
        refine V.tN ?_
        refine V.ret ?_
        refine V.bR ?_
        refine V.tR ?_
        refine V.done rfl ?_
        exact ⟨congrArg Value.bool (by cases hp : (nK d.kd && fldB d) with | false => (first | (rw [cmd_plain hp]; done) | (rw [cmd_plain hp]; grind)) | true => (rw [cmd_ok hp]; unfold nS nO nA nW; (have e2 : (⟨#[]⟩ : ByteArray) = S [] := rfl); (try simp only [e2] at *); grind)), HG⟩
       ·
        try replace h13 := V.dec h13
        try simp only [V.mk0, V.mk1, V.mk2, V.mk3] at h13
        refine V.seq ?_
        refine V.region ?_
        refine V.run T_ok 2 rfl ?_
        refine V.nil ?_
        refine V.tN ?_
        refine V.condT rfl (fun h17 => ?_) (fun h17 => ?_)
        ·
         try replace h17 := V.dec h17
         try simp only [V.mk0, V.mk1, V.mk2, V.mk3] at h17
         refine V.seq ?_
         refine V.region ?_
         refine V.run T_ok 2 rfl ?_
         refine V.andG T_ok 1 1 57 rfl rfl rfl rfl rfl rfl rfl rfl ?_
         refine V.run T_ok 1 rfl ?_
         refine V.andG T_ok 1 4 60 rfl rfl rfl rfl rfl rfl rfl rfl ?_
         refine V.run T_ok 1 rfl ?_
         refine V.nil ?_
         refine V.tN ?_
         refine V.ret ?_
         refine V.bR ?_
         refine V.tR ?_
         refine V.done rfl ?_
         exact ⟨congrArg Value.bool (by cases hp : (nK d.kd && fldB d) with | false => (first | (rw [cmd_plain hp]; done) | (rw [cmd_plain hp]; grind)) | true => (rw [cmd_ok hp]; unfold nS nO nA nW; (have e2 : (⟨#[]⟩ : ByteArray) = S [] := rfl); (try simp only [e2] at *); grind)), HG⟩
        ·
         try replace h17 := V.dec h17
         try simp only [V.mk0, V.mk1, V.mk2, V.mk3] at h17
         refine V.skip ?_
         refine V.bN ?_
         refine V.tN ?_
         refine V.seq ?_
         refine V.region ?_
         refine V.run T_ok 2 rfl ?_
         refine V.nil ?_
         refine V.tN ?_
         refine V.ret ?_
         refine V.done rfl ?_
         exact ⟨congrArg Value.bool (by cases hp : (nK d.kd && fldB d) with | false => (first | (rw [cmd_plain hp]; done) | (rw [cmd_plain hp]; grind)) | true => (rw [cmd_ok hp]; unfold nS nO nA nW; (have e2 : (⟨#[]⟩ : ByteArray) = S [] := rfl); (try simp only [e2] at *); grind)), HG⟩
      ·
       try replace h13 := V.dec h13
       try simp only [V.mk0, V.mk1, V.mk2, V.mk3] at h13
       refine V.seq ?_
       refine V.region ?_
       refine V.run T_ok 2 rfl ?_
       refine V.nil ?_
       refine V.tN ?_
       refine V.condT rfl (fun h14 => ?_) (fun h14 => ?_)
       ·
        try replace h14 := V.dec h14
        try simp only [V.mk0, V.mk1, V.mk2, V.mk3] at h14
        refine V.skip ?_
        refine V.tN ?_
        refine V.condT rfl (fun h14 => ?_) (fun h14 => ?_)
        ·
         try replace h14 := V.dec h14
         try simp only [V.mk0, V.mk1, V.mk2, V.mk3] at h14
         refine V.seq ?_
         refine V.region ?_
         refine V.run T_ok 2 rfl ?_
         refine V.andG T_ok 1 1 51 rfl rfl rfl rfl rfl rfl rfl rfl ?_
         refine V.run T_ok 1 rfl ?_
         refine V.nil ?_
         refine V.tN ?_
         refine V.ret ?_
         refine V.bR ?_
         refine V.tR ?_
         refine V.done rfl ?_
         exact ⟨congrArg Value.bool (by cases hp : (nK d.kd && fldB d) with | false => (first | (rw [cmd_plain hp]; done) | (rw [cmd_plain hp]; grind)) | true => (rw [cmd_ok hp]; unfold nS nO nA nW; (have e2 : (⟨#[]⟩ : ByteArray) = S [] := rfl); (try simp only [e2] at *); grind)), HG⟩
        ·
         try replace h14 := V.dec h14
         try simp only [V.mk0, V.mk1, V.mk2, V.mk3] at h14
         refine V.seq ?_
         refine V.region ?_
         refine V.run T_ok 2 rfl ?_
         refine V.nil ?_
         refine V.tN ?_
         refine V.condT rfl (fun h17 => ?_) (fun h17 => ?_)
         ·
          try replace h17 := V.dec h17
          try simp only [V.mk0, V.mk1, V.mk2, V.mk3] at h17
          refine V.seq ?_
          refine V.region ?_
          refine V.run T_ok 2 rfl ?_
          refine V.andG T_ok 1 1 57 rfl rfl rfl rfl rfl rfl rfl rfl ?_
          refine V.run T_ok 1 rfl ?_
          refine V.andG T_ok 1 4 60 rfl rfl rfl rfl rfl rfl rfl rfl ?_
          refine V.run T_ok 1 rfl ?_
          refine V.nil ?_
          refine V.tN ?_
          refine V.ret ?_
          refine V.bR ?_
          refine V.tR ?_
          refine V.done rfl ?_
          exact ⟨congrArg Value.bool (by cases hp : (nK d.kd && fldB d) with | false => (first | (rw [cmd_plain hp]; done) | (rw [cmd_plain hp]; grind)) | true => (rw [cmd_ok hp]; unfold nS nO nA nW; (have e2 : (⟨#[]⟩ : ByteArray) = S [] := rfl); (try simp only [e2] at *); grind)), HG⟩
         ·
          try replace h17 := V.dec h17
          try simp only [V.mk0, V.mk1, V.mk2, V.mk3] at h17
          refine V.skip ?_
          refine V.bN ?_
          refine V.tN ?_
          refine V.seq ?_
          refine V.region ?_
          refine V.run T_ok 2 rfl ?_
          refine V.nil ?_
          refine V.tN ?_
          refine V.ret ?_
          refine V.done rfl ?_
          exact ⟨congrArg Value.bool (by cases hp : (nK d.kd && fldB d) with | false => (first | (rw [cmd_plain hp]; done) | (rw [cmd_plain hp]; grind)) | true => (rw [cmd_ok hp]; unfold nS nO nA nW; (have e2 : (⟨#[]⟩ : ByteArray) = S [] := rfl); (try simp only [e2] at *); grind)), HG⟩
       ·
        try replace h14 := V.dec h14
        try simp only [V.mk0, V.mk1, V.mk2, V.mk3] at h14
        refine V.region ?_
        refine V.run T_ok 2 rfl ?_
        refine V.nil ?_
        refine V.tN ?_
        refine V.condT rfl (fun h15 => ?_) (fun h15 => ?_)
        ·
         try replace h15 := V.dec h15
         try simp only [V.mk0, V.mk1, V.mk2, V.mk3] at h15
         refine V.seq ?_
         refine V.region ?_
         refine V.run T_ok 2 rfl ?_
         refine V.andG T_ok 1 1 51 rfl rfl rfl rfl rfl rfl rfl rfl ?_
         refine V.run T_ok 1 rfl ?_
         refine V.nil ?_
         refine V.tN ?_
         refine V.ret ?_
         refine V.bR ?_
         refine V.tR ?_
         refine V.done rfl ?_
         exact ⟨congrArg Value.bool (by cases hp : (nK d.kd && fldB d) with | false => (first | (rw [cmd_plain hp]; done) | (rw [cmd_plain hp]; grind)) | true => (rw [cmd_ok hp]; unfold nS nO nA nW; (have e2 : (⟨#[]⟩ : ByteArray) = S [] := rfl); (try simp only [e2] at *); grind)), HG⟩
        ·
         try replace h15 := V.dec h15
         try simp only [V.mk0, V.mk1, V.mk2, V.mk3] at h15
         refine V.seq ?_
         refine V.region ?_
         refine V.run T_ok 2 rfl ?_
         refine V.nil ?_
         refine V.tN ?_
         refine V.condT rfl (fun h17 => ?_) (fun h17 => ?_)
         ·
          try replace h17 := V.dec h17
          try simp only [V.mk0, V.mk1, V.mk2, V.mk3] at h17
          refine V.seq ?_
          refine V.region ?_
          refine V.run T_ok 2 rfl ?_
          refine V.andG T_ok 1 1 57 rfl rfl rfl rfl rfl rfl rfl rfl ?_
          refine V.run T_ok 1 rfl ?_
          refine V.andG T_ok 1 4 60 rfl rfl rfl rfl rfl rfl rfl rfl ?_
          refine V.run T_ok 1 rfl ?_
          refine V.nil ?_
          refine V.tN ?_
          refine V.ret ?_
          refine V.bR ?_
          refine V.tR ?_
          refine V.done rfl ?_
          exact ⟨congrArg Value.bool (by cases hp : (nK d.kd && fldB d) with | false => (first | (rw [cmd_plain hp]; done) | (rw [cmd_plain hp]; grind)) | true => (rw [cmd_ok hp]; unfold nS nO nA nW; (have e2 : (⟨#[]⟩ : ByteArray) = S [] := rfl); (try simp only [e2] at *); grind)), HG⟩
         ·
          try replace h17 := V.dec h17
          try simp only [V.mk0, V.mk1, V.mk2, V.mk3] at h17
          refine V.skip ?_
          refine V.bN ?_
          refine V.tN ?_
          refine V.seq ?_
          refine V.region ?_
          refine V.run T_ok 2 rfl ?_
          refine V.nil ?_
          refine V.tN ?_
          refine V.ret ?_
          refine V.done rfl ?_
          exact ⟨congrArg Value.bool (by cases hp : (nK d.kd && fldB d) with | false => (first | (rw [cmd_plain hp]; done) | (rw [cmd_plain hp]; grind)) | true => (rw [cmd_ok hp]; unfold nS nO nA nW; (have e2 : (⟨#[]⟩ : ByteArray) = S [] := rfl); (try simp only [e2] at *); grind)), HG⟩
    ·
     try replace h10 := V.dec h10
     try simp only [V.mk0, V.mk1, V.mk2, V.mk3] at h10
     refine V.region ?_
     refine V.run T_ok 2 rfl ?_
     refine V.nil ?_
     refine V.tN ?_
     refine V.condT rfl (fun h11 => ?_) (fun h11 => ?_)
     ·
      try replace h11 := V.dec h11
      try simp only [V.mk0, V.mk1, V.mk2, V.mk3] at h11
      refine V.seq ?_
      refine V.region ?_
      refine V.run T_ok 2 rfl ?_
      refine V.andG T_ok 1 1 34 rfl rfl rfl rfl rfl rfl rfl rfl ?_
      refine V.run T_ok 1 rfl ?_
      refine V.split (j := 4) (t := 37) rfl rfl (fun g12_4 => ?_) (fun g12_4 => ?_)
      ·
       try replace g12_4 := V.dec g12_4
       try simp only [V.mk0, V.mk1, V.mk2, V.mk3] at g12_4
       refine V.run T_ok 2 rfl ?_
       refine V.yes rfl rfl rfl ?_
       refine V.loadO T_ok Fk2 rfl rfl rfl rfl rfl ?_
       refine V.run T_ok 3 rfl ?_
       refine V.andG T_ok 1 10 43 rfl rfl rfl rfl rfl rfl rfl rfl ?_
       refine V.run T_ok 1 rfl ?_
       refine V.nil ?_
       refine V.tN ?_
       refine V.ret ?_
       refine V.bR ?_
       refine V.tR ?_
       refine V.done rfl ?_
       exact ⟨congrArg Value.bool (by cases hp : (nK d.kd && fldB d) with | false => (first | (rw [cmd_plain hp]; done) | (rw [cmd_plain hp]; grind)) | true => (rw [cmd_ok hp]; unfold nS nO nA nW; (have e2 : (⟨#[]⟩ : ByteArray) = S [] := rfl); (try simp only [e2] at *); grind)), HG⟩
      ·
       try replace g12_4 := V.dec g12_4
       try simp only [V.mk0, V.mk1, V.mk2, V.mk3] at g12_4
       refine V.run T_ok 9 rfl ?_
       refine V.nil ?_
       refine V.tN ?_
       refine V.ret ?_
       refine V.bR ?_
       refine V.tR ?_
       refine V.done rfl ?_
       exact ⟨congrArg Value.bool (by cases hp : (nK d.kd && fldB d) with | false => (first | (rw [cmd_plain hp]; done) | (rw [cmd_plain hp]; grind)) | true => (rw [cmd_ok hp]; unfold nS nO nA nW; (have e2 : (⟨#[]⟩ : ByteArray) = S [] := rfl); (try simp only [e2] at *); grind)), HG⟩
     ·
      try replace h11 := V.dec h11
      try simp only [V.mk0, V.mk1, V.mk2, V.mk3] at h11
      refine V.seq ?_
      refine V.seq ?_
      refine V.region ?_
      refine V.run T_ok 2 rfl ?_
      refine V.nil ?_
      refine V.tN ?_
      refine V.condT rfl (fun h13 => ?_) (fun h13 => ?_)
      ·
       try replace h13 := V.dec h13
       try simp only [V.mk0, V.mk1, V.mk2, V.mk3] at h13
       refine V.skip ?_
       refine V.tN ?_
       refine V.condT rfl (fun h13 => ?_) (fun h13 => ?_)
       ·
        try replace h13 := V.dec h13
        try simp only [V.mk0, V.mk1, V.mk2, V.mk3] at h13
        refine V.seq ?_
        refine V.region ?_
        refine V.run T_ok 2 rfl ?_
        refine V.andG T_ok 1 1 51 rfl rfl rfl rfl rfl rfl rfl rfl ?_
        refine V.run T_ok 1 rfl ?_
        refine V.nil ?_
        refine V.tN ?_
        refine V.ret ?_
        refine V.bR ?_
        refine V.tR ?_
        refine V.done rfl ?_
        exact ⟨congrArg Value.bool (by cases hp : (nK d.kd && fldB d) with | false => (first | (rw [cmd_plain hp]; done) | (rw [cmd_plain hp]; grind)) | true => (rw [cmd_ok hp]; unfold nS nO nA nW; (have e2 : (⟨#[]⟩ : ByteArray) = S [] := rfl); (try simp only [e2] at *); grind)), HG⟩
       ·
        try replace h13 := V.dec h13
        try simp only [V.mk0, V.mk1, V.mk2, V.mk3] at h13
        refine V.seq ?_
        refine V.region ?_
        refine V.run T_ok 2 rfl ?_
        refine V.nil ?_
        refine V.tN ?_
        refine V.condT rfl (fun h17 => ?_) (fun h17 => ?_)
        ·
         try replace h17 := V.dec h17
         try simp only [V.mk0, V.mk1, V.mk2, V.mk3] at h17
         refine V.seq ?_
         refine V.region ?_
         refine V.run T_ok 2 rfl ?_
         refine V.andG T_ok 1 1 57 rfl rfl rfl rfl rfl rfl rfl rfl ?_
         refine V.run T_ok 1 rfl ?_
         refine V.andG T_ok 1 4 60 rfl rfl rfl rfl rfl rfl rfl rfl ?_
         refine V.run T_ok 1 rfl ?_
         refine V.nil ?_
         refine V.tN ?_
         refine V.ret ?_
         refine V.bR ?_
         refine V.tR ?_
         refine V.done rfl ?_
         exact ⟨congrArg Value.bool (by cases hp : (nK d.kd && fldB d) with | false => (first | (rw [cmd_plain hp]; done) | (rw [cmd_plain hp]; grind)) | true => (rw [cmd_ok hp]; unfold nS nO nA nW; (have e2 : (⟨#[]⟩ : ByteArray) = S [] := rfl); (try simp only [e2] at *); grind)), HG⟩
        ·
         try replace h17 := V.dec h17
         try simp only [V.mk0, V.mk1, V.mk2, V.mk3] at h17
         refine V.skip ?_
         refine V.bN ?_
         refine V.tN ?_
         refine V.seq ?_
         refine V.region ?_
         refine V.run T_ok 2 rfl ?_
         refine V.nil ?_
         refine V.tN ?_
         refine V.ret ?_
         refine V.done rfl ?_
         exact ⟨congrArg Value.bool (by cases hp : (nK d.kd && fldB d) with | false => (first | (rw [cmd_plain hp]; done) | (rw [cmd_plain hp]; grind)) | true => (rw [cmd_ok hp]; unfold nS nO nA nW; (have e2 : (⟨#[]⟩ : ByteArray) = S [] := rfl); (try simp only [e2] at *); grind)), HG⟩
      ·
       try replace h13 := V.dec h13
       try simp only [V.mk0, V.mk1, V.mk2, V.mk3] at h13
       refine V.seq ?_
       refine V.region ?_
       refine V.run T_ok 2 rfl ?_
       refine V.nil ?_
       refine V.tN ?_
       refine V.condT rfl (fun h14 => ?_) (fun h14 => ?_)
       ·
        try replace h14 := V.dec h14
        try simp only [V.mk0, V.mk1, V.mk2, V.mk3] at h14
        refine V.skip ?_
        refine V.tN ?_
        refine V.condT rfl (fun h14 => ?_) (fun h14 => ?_)
        ·
         try replace h14 := V.dec h14
         try simp only [V.mk0, V.mk1, V.mk2, V.mk3] at h14
         refine V.seq ?_
         refine V.region ?_
         refine V.run T_ok 2 rfl ?_
         refine V.andG T_ok 1 1 51 rfl rfl rfl rfl rfl rfl rfl rfl ?_
         refine V.run T_ok 1 rfl ?_
         refine V.nil ?_
         refine V.tN ?_
         refine V.ret ?_
         refine V.bR ?_
         refine V.tR ?_
         refine V.done rfl ?_
         exact ⟨congrArg Value.bool (by cases hp : (nK d.kd && fldB d) with | false => (first | (rw [cmd_plain hp]; done) | (rw [cmd_plain hp]; grind)) | true => (rw [cmd_ok hp]; unfold nS nO nA nW; (have e2 : (⟨#[]⟩ : ByteArray) = S [] := rfl); (try simp only [e2] at *); grind)), HG⟩
        ·
         try replace h14 := V.dec h14
         try simp only [V.mk0, V.mk1, V.mk2, V.mk3] at h14
         refine V.seq ?_
         refine V.region ?_
         refine V.run T_ok 2 rfl ?_
         refine V.nil ?_
         refine V.tN ?_
         refine V.condT rfl (fun h17 => ?_) (fun h17 => ?_)
         ·
          try replace h17 := V.dec h17
          try simp only [V.mk0, V.mk1, V.mk2, V.mk3] at h17
          refine V.seq ?_
          refine V.region ?_
          refine V.run T_ok 2 rfl ?_
          refine V.andG T_ok 1 1 57 rfl rfl rfl rfl rfl rfl rfl rfl ?_
          refine V.run T_ok 1 rfl ?_
          refine V.andG T_ok 1 4 60 rfl rfl rfl rfl rfl rfl rfl rfl ?_
          refine V.run T_ok 1 rfl ?_
          refine V.nil ?_
          refine V.tN ?_
          refine V.ret ?_
          refine V.bR ?_
          refine V.tR ?_
          refine V.done rfl ?_
          exact ⟨congrArg Value.bool (by cases hp : (nK d.kd && fldB d) with | false => (first | (rw [cmd_plain hp]; done) | (rw [cmd_plain hp]; grind)) | true => (rw [cmd_ok hp]; unfold nS nO nA nW; (have e2 : (⟨#[]⟩ : ByteArray) = S [] := rfl); (try simp only [e2] at *); grind)), HG⟩
         ·
          try replace h17 := V.dec h17
          try simp only [V.mk0, V.mk1, V.mk2, V.mk3] at h17
          refine V.skip ?_
          refine V.bN ?_
          refine V.tN ?_
          refine V.seq ?_
          refine V.region ?_
          refine V.run T_ok 2 rfl ?_
          refine V.nil ?_
          refine V.tN ?_
          refine V.ret ?_
          refine V.done rfl ?_
          exact ⟨congrArg Value.bool (by cases hp : (nK d.kd && fldB d) with | false => (first | (rw [cmd_plain hp]; done) | (rw [cmd_plain hp]; grind)) | true => (rw [cmd_ok hp]; unfold nS nO nA nW; (have e2 : (⟨#[]⟩ : ByteArray) = S [] := rfl); (try simp only [e2] at *); grind)), HG⟩
       ·
        try replace h14 := V.dec h14
        try simp only [V.mk0, V.mk1, V.mk2, V.mk3] at h14
        refine V.region ?_
        refine V.run T_ok 2 rfl ?_
        refine V.nil ?_
        refine V.tN ?_
        refine V.condT rfl (fun h15 => ?_) (fun h15 => ?_)
        ·
         try replace h15 := V.dec h15
         try simp only [V.mk0, V.mk1, V.mk2, V.mk3] at h15
         refine V.seq ?_
         refine V.region ?_
         refine V.run T_ok 2 rfl ?_
         refine V.andG T_ok 1 1 51 rfl rfl rfl rfl rfl rfl rfl rfl ?_
         refine V.run T_ok 1 rfl ?_
         refine V.nil ?_
         refine V.tN ?_
         refine V.ret ?_
         refine V.bR ?_
         refine V.tR ?_
         refine V.done rfl ?_
         exact ⟨congrArg Value.bool (by cases hp : (nK d.kd && fldB d) with | false => (first | (rw [cmd_plain hp]; done) | (rw [cmd_plain hp]; grind)) | true => (rw [cmd_ok hp]; unfold nS nO nA nW; (have e2 : (⟨#[]⟩ : ByteArray) = S [] := rfl); (try simp only [e2] at *); grind)), HG⟩
        ·
         try replace h15 := V.dec h15
         try simp only [V.mk0, V.mk1, V.mk2, V.mk3] at h15
         refine V.seq ?_
         refine V.region ?_
         refine V.run T_ok 2 rfl ?_
         refine V.nil ?_
         refine V.tN ?_
         refine V.condT rfl (fun h17 => ?_) (fun h17 => ?_)
         ·
          try replace h17 := V.dec h17
          try simp only [V.mk0, V.mk1, V.mk2, V.mk3] at h17
          refine V.seq ?_
          refine V.region ?_
          refine V.run T_ok 2 rfl ?_
          refine V.andG T_ok 1 1 57 rfl rfl rfl rfl rfl rfl rfl rfl ?_
          refine V.run T_ok 1 rfl ?_
          refine V.andG T_ok 1 4 60 rfl rfl rfl rfl rfl rfl rfl rfl ?_
          refine V.run T_ok 1 rfl ?_
          refine V.nil ?_
          refine V.tN ?_
          refine V.ret ?_
          refine V.bR ?_
          refine V.tR ?_
          refine V.done rfl ?_
          exact ⟨congrArg Value.bool (by cases hp : (nK d.kd && fldB d) with | false => (first | (rw [cmd_plain hp]; done) | (rw [cmd_plain hp]; grind)) | true => (rw [cmd_ok hp]; unfold nS nO nA nW; (have e2 : (⟨#[]⟩ : ByteArray) = S [] := rfl); (try simp only [e2] at *); grind)), HG⟩
         ·
          try replace h17 := V.dec h17
          try simp only [V.mk0, V.mk1, V.mk2, V.mk3] at h17
          refine V.skip ?_
          refine V.bN ?_
          refine V.tN ?_
          refine V.seq ?_
          refine V.region ?_
          refine V.run T_ok 2 rfl ?_
          refine V.nil ?_
          refine V.tN ?_
          refine V.ret ?_
          refine V.done rfl ?_
          exact ⟨congrArg Value.bool (by cases hp : (nK d.kd && fldB d) with | false => (first | (rw [cmd_plain hp]; done) | (rw [cmd_plain hp]; grind)) | true => (rw [cmd_ok hp]; unfold nS nO nA nW; (have e2 : (⟨#[]⟩ : ByteArray) = S [] := rfl); (try simp only [e2] at *); grind)), HG⟩
  ·
   try replace h7 := V.dec h7
   try simp only [V.mk0, V.mk1, V.mk2, V.mk3] at h7
   refine V.region ?_
   refine V.run T_ok 2 rfl ?_
   refine V.nil ?_
   refine V.tN ?_
   refine V.condT rfl (fun h8 => ?_) (fun h8 => ?_)
   ·
    try replace h8 := V.dec h8
    try simp only [V.mk0, V.mk1, V.mk2, V.mk3] at h8
    refine V.seq ?_
    refine V.region ?_
    refine V.run T_ok 2 rfl ?_
    refine V.andG T_ok 1 1 27 rfl rfl rfl rfl rfl rfl rfl rfl ?_
    refine V.run T_ok 1 rfl ?_
    refine V.nil ?_
    refine V.tN ?_
    refine V.ret ?_
    refine V.bR ?_
    refine V.tR ?_
    refine V.done rfl ?_
    exact ⟨congrArg Value.bool (by cases hp : (nK d.kd && fldB d) with | false => (first | (rw [cmd_plain hp]; done) | (rw [cmd_plain hp]; grind)) | true => (rw [cmd_ok hp]; unfold nS nO nA nW; (have e2 : (⟨#[]⟩ : ByteArray) = S [] := rfl); (try simp only [e2] at *); grind)), HG⟩
   ·
    try replace h8 := V.dec h8
    try simp only [V.mk0, V.mk1, V.mk2, V.mk3] at h8
    refine V.seq ?_
    refine V.seq ?_
    refine V.region ?_
    refine V.run T_ok 2 rfl ?_
    refine V.nil ?_
    refine V.tN ?_
    refine V.condT rfl (fun h10 => ?_) (fun h10 => ?_)
    ·
     try replace h10 := V.dec h10
     try simp only [V.mk0, V.mk1, V.mk2, V.mk3] at h10
     refine V.skip ?_
     refine V.tN ?_
     refine V.condT rfl (fun h10 => ?_) (fun h10 => ?_)
     ·
      try replace h10 := V.dec h10
      try simp only [V.mk0, V.mk1, V.mk2, V.mk3] at h10
      refine V.seq ?_
      refine V.region ?_
      refine V.run T_ok 2 rfl ?_
      refine V.andG T_ok 1 1 34 rfl rfl rfl rfl rfl rfl rfl rfl ?_
      refine V.run T_ok 1 rfl ?_
      refine V.split (j := 4) (t := 37) rfl rfl (fun g12_4 => ?_) (fun g12_4 => ?_)
      ·
       try replace g12_4 := V.dec g12_4
       try simp only [V.mk0, V.mk1, V.mk2, V.mk3] at g12_4
       refine V.run T_ok 2 rfl ?_
       refine V.yes rfl rfl rfl ?_
       refine V.loadO T_ok Fk2 rfl rfl rfl rfl rfl ?_
       refine V.run T_ok 3 rfl ?_
       refine V.andG T_ok 1 10 43 rfl rfl rfl rfl rfl rfl rfl rfl ?_
       refine V.run T_ok 1 rfl ?_
       refine V.nil ?_
       refine V.tN ?_
       refine V.ret ?_
       refine V.bR ?_
       refine V.tR ?_
       refine V.done rfl ?_
       exact ⟨congrArg Value.bool (by cases hp : (nK d.kd && fldB d) with | false => (first | (rw [cmd_plain hp]; done) | (rw [cmd_plain hp]; grind)) | true => (rw [cmd_ok hp]; unfold nS nO nA nW; (have e2 : (⟨#[]⟩ : ByteArray) = S [] := rfl); (try simp only [e2] at *); grind)), HG⟩
      ·
       try replace g12_4 := V.dec g12_4
       try simp only [V.mk0, V.mk1, V.mk2, V.mk3] at g12_4
       refine V.run T_ok 9 rfl ?_
       refine V.nil ?_
       refine V.tN ?_
       refine V.ret ?_
       refine V.bR ?_
       refine V.tR ?_
       refine V.done rfl ?_
       exact ⟨congrArg Value.bool (by cases hp : (nK d.kd && fldB d) with | false => (first | (rw [cmd_plain hp]; done) | (rw [cmd_plain hp]; grind)) | true => (rw [cmd_ok hp]; unfold nS nO nA nW; (have e2 : (⟨#[]⟩ : ByteArray) = S [] := rfl); (try simp only [e2] at *); grind)), HG⟩
     ·
      try replace h10 := V.dec h10
      try simp only [V.mk0, V.mk1, V.mk2, V.mk3] at h10
      refine V.seq ?_
      refine V.seq ?_
      refine V.region ?_
      refine V.run T_ok 2 rfl ?_
      refine V.nil ?_
      refine V.tN ?_
      refine V.condT rfl (fun h13 => ?_) (fun h13 => ?_)
      ·
       try replace h13 := V.dec h13
       try simp only [V.mk0, V.mk1, V.mk2, V.mk3] at h13
       refine V.skip ?_
       refine V.tN ?_
       refine V.condT rfl (fun h13 => ?_) (fun h13 => ?_)
       ·
        try replace h13 := V.dec h13
        try simp only [V.mk0, V.mk1, V.mk2, V.mk3] at h13
        refine V.seq ?_
        refine V.region ?_
        refine V.run T_ok 2 rfl ?_
        refine V.andG T_ok 1 1 51 rfl rfl rfl rfl rfl rfl rfl rfl ?_
        refine V.run T_ok 1 rfl ?_
        refine V.nil ?_
        refine V.tN ?_
        refine V.ret ?_
        refine V.bR ?_
        refine V.tR ?_
        refine V.done rfl ?_
        exact ⟨congrArg Value.bool (by cases hp : (nK d.kd && fldB d) with | false => (first | (rw [cmd_plain hp]; done) | (rw [cmd_plain hp]; grind)) | true => (rw [cmd_ok hp]; unfold nS nO nA nW; (have e2 : (⟨#[]⟩ : ByteArray) = S [] := rfl); (try simp only [e2] at *); grind)), HG⟩
       ·
        try replace h13 := V.dec h13
        try simp only [V.mk0, V.mk1, V.mk2, V.mk3] at h13
        refine V.seq ?_
        refine V.region ?_
        refine V.run T_ok 2 rfl ?_
        refine V.nil ?_
        refine V.tN ?_
        refine V.condT rfl (fun h17 => ?_) (fun h17 => ?_)
        ·
         try replace h17 := V.dec h17
         try simp only [V.mk0, V.mk1, V.mk2, V.mk3] at h17
         refine V.seq ?_
         refine V.region ?_
         refine V.run T_ok 2 rfl ?_
         refine V.andG T_ok 1 1 57 rfl rfl rfl rfl rfl rfl rfl rfl ?_
         refine V.run T_ok 1 rfl ?_
         refine V.andG T_ok 1 4 60 rfl rfl rfl rfl rfl rfl rfl rfl ?_
         refine V.run T_ok 1 rfl ?_
         refine V.nil ?_
         refine V.tN ?_
         refine V.ret ?_
         refine V.bR ?_
         refine V.tR ?_
         refine V.done rfl ?_
         exact ⟨congrArg Value.bool (by cases hp : (nK d.kd && fldB d) with | false => (first | (rw [cmd_plain hp]; done) | (rw [cmd_plain hp]; grind)) | true => (rw [cmd_ok hp]; unfold nS nO nA nW; (have e2 : (⟨#[]⟩ : ByteArray) = S [] := rfl); (try simp only [e2] at *); grind)), HG⟩
        ·
         try replace h17 := V.dec h17
         try simp only [V.mk0, V.mk1, V.mk2, V.mk3] at h17
         refine V.skip ?_
         refine V.bN ?_
         refine V.tN ?_
         refine V.seq ?_
         refine V.region ?_
         refine V.run T_ok 2 rfl ?_
         refine V.nil ?_
         refine V.tN ?_
         refine V.ret ?_
         refine V.done rfl ?_
         exact ⟨congrArg Value.bool (by cases hp : (nK d.kd && fldB d) with | false => (first | (rw [cmd_plain hp]; done) | (rw [cmd_plain hp]; grind)) | true => (rw [cmd_ok hp]; unfold nS nO nA nW; (have e2 : (⟨#[]⟩ : ByteArray) = S [] := rfl); (try simp only [e2] at *); grind)), HG⟩
      ·
       try replace h13 := V.dec h13
       try simp only [V.mk0, V.mk1, V.mk2, V.mk3] at h13
       refine V.seq ?_
       refine V.region ?_
       refine V.run T_ok 2 rfl ?_
       refine V.nil ?_
       refine V.tN ?_
       refine V.condT rfl (fun h14 => ?_) (fun h14 => ?_)
       ·
        try replace h14 := V.dec h14
        try simp only [V.mk0, V.mk1, V.mk2, V.mk3] at h14
        refine V.skip ?_
        refine V.tN ?_
        refine V.condT rfl (fun h14 => ?_) (fun h14 => ?_)
        ·
         try replace h14 := V.dec h14
         try simp only [V.mk0, V.mk1, V.mk2, V.mk3] at h14
         refine V.seq ?_
         refine V.region ?_
         refine V.run T_ok 2 rfl ?_
         refine V.andG T_ok 1 1 51 rfl rfl rfl rfl rfl rfl rfl rfl ?_
         refine V.run T_ok 1 rfl ?_
         refine V.nil ?_
         refine V.tN ?_
         refine V.ret ?_
         refine V.bR ?_
         refine V.tR ?_
         refine V.done rfl ?_
         exact ⟨congrArg Value.bool (by cases hp : (nK d.kd && fldB d) with | false => (first | (rw [cmd_plain hp]; done) | (rw [cmd_plain hp]; grind)) | true => (rw [cmd_ok hp]; unfold nS nO nA nW; (have e2 : (⟨#[]⟩ : ByteArray) = S [] := rfl); (try simp only [e2] at *); grind)), HG⟩
        ·
         try replace h14 := V.dec h14
         try simp only [V.mk0, V.mk1, V.mk2, V.mk3] at h14
         refine V.seq ?_
         refine V.region ?_
         refine V.run T_ok 2 rfl ?_
         refine V.nil ?_
         refine V.tN ?_
         refine V.condT rfl (fun h17 => ?_) (fun h17 => ?_)
         ·
          try replace h17 := V.dec h17
          try simp only [V.mk0, V.mk1, V.mk2, V.mk3] at h17
          refine V.seq ?_
          refine V.region ?_
          refine V.run T_ok 2 rfl ?_
          refine V.andG T_ok 1 1 57 rfl rfl rfl rfl rfl rfl rfl rfl ?_
          refine V.run T_ok 1 rfl ?_
          refine V.andG T_ok 1 4 60 rfl rfl rfl rfl rfl rfl rfl rfl ?_
          refine V.run T_ok 1 rfl ?_
          refine V.nil ?_
          refine V.tN ?_
          refine V.ret ?_
          refine V.bR ?_
          refine V.tR ?_
          refine V.done rfl ?_
          exact ⟨congrArg Value.bool (by cases hp : (nK d.kd && fldB d) with | false => (first | (rw [cmd_plain hp]; done) | (rw [cmd_plain hp]; grind)) | true => (rw [cmd_ok hp]; unfold nS nO nA nW; (have e2 : (⟨#[]⟩ : ByteArray) = S [] := rfl); (try simp only [e2] at *); grind)), HG⟩
         ·
          try replace h17 := V.dec h17
          try simp only [V.mk0, V.mk1, V.mk2, V.mk3] at h17
          refine V.skip ?_
          refine V.bN ?_
          refine V.tN ?_
          refine V.seq ?_
          refine V.region ?_
          refine V.run T_ok 2 rfl ?_
          refine V.nil ?_
          refine V.tN ?_
          refine V.ret ?_
          refine V.done rfl ?_
          exact ⟨congrArg Value.bool (by cases hp : (nK d.kd && fldB d) with | false => (first | (rw [cmd_plain hp]; done) | (rw [cmd_plain hp]; grind)) | true => (rw [cmd_ok hp]; unfold nS nO nA nW; (have e2 : (⟨#[]⟩ : ByteArray) = S [] := rfl); (try simp only [e2] at *); grind)), HG⟩
       ·
        try replace h14 := V.dec h14
        try simp only [V.mk0, V.mk1, V.mk2, V.mk3] at h14
        refine V.region ?_
        refine V.run T_ok 2 rfl ?_
        refine V.nil ?_
        refine V.tN ?_
        refine V.condT rfl (fun h15 => ?_) (fun h15 => ?_)
        ·
         try replace h15 := V.dec h15
         try simp only [V.mk0, V.mk1, V.mk2, V.mk3] at h15
         refine V.seq ?_
         refine V.region ?_
         refine V.run T_ok 2 rfl ?_
         refine V.andG T_ok 1 1 51 rfl rfl rfl rfl rfl rfl rfl rfl ?_
         refine V.run T_ok 1 rfl ?_
         refine V.nil ?_
         refine V.tN ?_
         refine V.ret ?_
         refine V.bR ?_
         refine V.tR ?_
         refine V.done rfl ?_
         exact ⟨congrArg Value.bool (by cases hp : (nK d.kd && fldB d) with | false => (first | (rw [cmd_plain hp]; done) | (rw [cmd_plain hp]; grind)) | true => (rw [cmd_ok hp]; unfold nS nO nA nW; (have e2 : (⟨#[]⟩ : ByteArray) = S [] := rfl); (try simp only [e2] at *); grind)), HG⟩
        ·
         try replace h15 := V.dec h15
         try simp only [V.mk0, V.mk1, V.mk2, V.mk3] at h15
         refine V.seq ?_
         refine V.region ?_
         refine V.run T_ok 2 rfl ?_
         refine V.nil ?_
         refine V.tN ?_
         refine V.condT rfl (fun h17 => ?_) (fun h17 => ?_)
         ·
          try replace h17 := V.dec h17
          try simp only [V.mk0, V.mk1, V.mk2, V.mk3] at h17
          refine V.seq ?_
          refine V.region ?_
          refine V.run T_ok 2 rfl ?_
          refine V.andG T_ok 1 1 57 rfl rfl rfl rfl rfl rfl rfl rfl ?_
          refine V.run T_ok 1 rfl ?_
          refine V.andG T_ok 1 4 60 rfl rfl rfl rfl rfl rfl rfl rfl ?_
          refine V.run T_ok 1 rfl ?_
          refine V.nil ?_
          refine V.tN ?_
          refine V.ret ?_
          refine V.bR ?_
          refine V.tR ?_
          refine V.done rfl ?_
          exact ⟨congrArg Value.bool (by cases hp : (nK d.kd && fldB d) with | false => (first | (rw [cmd_plain hp]; done) | (rw [cmd_plain hp]; grind)) | true => (rw [cmd_ok hp]; unfold nS nO nA nW; (have e2 : (⟨#[]⟩ : ByteArray) = S [] := rfl); (try simp only [e2] at *); grind)), HG⟩
         ·
          try replace h17 := V.dec h17
          try simp only [V.mk0, V.mk1, V.mk2, V.mk3] at h17
          refine V.skip ?_
          refine V.bN ?_
          refine V.tN ?_
          refine V.seq ?_
          refine V.region ?_
          refine V.run T_ok 2 rfl ?_
          refine V.nil ?_
          refine V.tN ?_
          refine V.ret ?_
          refine V.done rfl ?_
          exact ⟨congrArg Value.bool (by cases hp : (nK d.kd && fldB d) with | false => (first | (rw [cmd_plain hp]; done) | (rw [cmd_plain hp]; grind)) | true => (rw [cmd_ok hp]; unfold nS nO nA nW; (have e2 : (⟨#[]⟩ : ByteArray) = S [] := rfl); (try simp only [e2] at *); grind)), HG⟩
    ·
     try replace h10 := V.dec h10
     try simp only [V.mk0, V.mk1, V.mk2, V.mk3] at h10
     refine V.region ?_
     refine V.run T_ok 2 rfl ?_
     refine V.nil ?_
     refine V.tN ?_
     refine V.condT rfl (fun h11 => ?_) (fun h11 => ?_)
     ·
      try replace h11 := V.dec h11
      try simp only [V.mk0, V.mk1, V.mk2, V.mk3] at h11
      refine V.seq ?_
      refine V.region ?_
      refine V.run T_ok 2 rfl ?_
      refine V.andG T_ok 1 1 34 rfl rfl rfl rfl rfl rfl rfl rfl ?_
      refine V.run T_ok 1 rfl ?_
      refine V.split (j := 4) (t := 37) rfl rfl (fun g12_4 => ?_) (fun g12_4 => ?_)
      ·
       try replace g12_4 := V.dec g12_4
       try simp only [V.mk0, V.mk1, V.mk2, V.mk3] at g12_4
       refine V.run T_ok 2 rfl ?_
       refine V.yes rfl rfl rfl ?_
       refine V.loadO T_ok Fk2 rfl rfl rfl rfl rfl ?_
       refine V.run T_ok 3 rfl ?_
       refine V.andG T_ok 1 10 43 rfl rfl rfl rfl rfl rfl rfl rfl ?_
       refine V.run T_ok 1 rfl ?_
       refine V.nil ?_
       refine V.tN ?_
       refine V.ret ?_
       refine V.bR ?_
       refine V.tR ?_
       refine V.done rfl ?_
       exact ⟨congrArg Value.bool (by cases hp : (nK d.kd && fldB d) with | false => (first | (rw [cmd_plain hp]; done) | (rw [cmd_plain hp]; grind)) | true => (rw [cmd_ok hp]; unfold nS nO nA nW; (have e2 : (⟨#[]⟩ : ByteArray) = S [] := rfl); (try simp only [e2] at *); grind)), HG⟩
      ·
       try replace g12_4 := V.dec g12_4
       try simp only [V.mk0, V.mk1, V.mk2, V.mk3] at g12_4
       refine V.run T_ok 9 rfl ?_
       refine V.nil ?_
       refine V.tN ?_
       refine V.ret ?_
       refine V.bR ?_
       refine V.tR ?_
       refine V.done rfl ?_
       exact ⟨congrArg Value.bool (by cases hp : (nK d.kd && fldB d) with | false => (first | (rw [cmd_plain hp]; done) | (rw [cmd_plain hp]; grind)) | true => (rw [cmd_ok hp]; unfold nS nO nA nW; (have e2 : (⟨#[]⟩ : ByteArray) = S [] := rfl); (try simp only [e2] at *); grind)), HG⟩
     ·
      try replace h11 := V.dec h11
      try simp only [V.mk0, V.mk1, V.mk2, V.mk3] at h11
      refine V.seq ?_
      refine V.seq ?_
      refine V.region ?_
      refine V.run T_ok 2 rfl ?_
      refine V.nil ?_
      refine V.tN ?_
      refine V.condT rfl (fun h13 => ?_) (fun h13 => ?_)
      ·
       try replace h13 := V.dec h13
       try simp only [V.mk0, V.mk1, V.mk2, V.mk3] at h13
       refine V.skip ?_
       refine V.tN ?_
       refine V.condT rfl (fun h13 => ?_) (fun h13 => ?_)
       ·
        try replace h13 := V.dec h13
        try simp only [V.mk0, V.mk1, V.mk2, V.mk3] at h13
        refine V.seq ?_
        refine V.region ?_
        refine V.run T_ok 2 rfl ?_
        refine V.andG T_ok 1 1 51 rfl rfl rfl rfl rfl rfl rfl rfl ?_
        refine V.run T_ok 1 rfl ?_
        refine V.nil ?_
        refine V.tN ?_
        refine V.ret ?_
        refine V.bR ?_
        refine V.tR ?_
        refine V.done rfl ?_
        exact ⟨congrArg Value.bool (by cases hp : (nK d.kd && fldB d) with | false => (first | (rw [cmd_plain hp]; done) | (rw [cmd_plain hp]; grind)) | true => (rw [cmd_ok hp]; unfold nS nO nA nW; (have e2 : (⟨#[]⟩ : ByteArray) = S [] := rfl); (try simp only [e2] at *); grind)), HG⟩
       ·
        try replace h13 := V.dec h13
        try simp only [V.mk0, V.mk1, V.mk2, V.mk3] at h13
        refine V.seq ?_
        refine V.region ?_
        refine V.run T_ok 2 rfl ?_
        refine V.nil ?_
        refine V.tN ?_
        refine V.condT rfl (fun h17 => ?_) (fun h17 => ?_)
        ·
         try replace h17 := V.dec h17
         try simp only [V.mk0, V.mk1, V.mk2, V.mk3] at h17
         refine V.seq ?_
         refine V.region ?_
         refine V.run T_ok 2 rfl ?_
         refine V.andG T_ok 1 1 57 rfl rfl rfl rfl rfl rfl rfl rfl ?_
         refine V.run T_ok 1 rfl ?_
         refine V.andG T_ok 1 4 60 rfl rfl rfl rfl rfl rfl rfl rfl ?_
         refine V.run T_ok 1 rfl ?_
         refine V.nil ?_
         refine V.tN ?_
         refine V.ret ?_
         refine V.bR ?_
         refine V.tR ?_
         refine V.done rfl ?_
         exact ⟨congrArg Value.bool (by cases hp : (nK d.kd && fldB d) with | false => (first | (rw [cmd_plain hp]; done) | (rw [cmd_plain hp]; grind)) | true => (rw [cmd_ok hp]; unfold nS nO nA nW; (have e2 : (⟨#[]⟩ : ByteArray) = S [] := rfl); (try simp only [e2] at *); grind)), HG⟩
        ·
         try replace h17 := V.dec h17
         try simp only [V.mk0, V.mk1, V.mk2, V.mk3] at h17
         refine V.skip ?_
         refine V.bN ?_
         refine V.tN ?_
         refine V.seq ?_
         refine V.region ?_
         refine V.run T_ok 2 rfl ?_
         refine V.nil ?_
         refine V.tN ?_
         refine V.ret ?_
         refine V.done rfl ?_
         exact ⟨congrArg Value.bool (by cases hp : (nK d.kd && fldB d) with | false => (first | (rw [cmd_plain hp]; done) | (rw [cmd_plain hp]; grind)) | true => (rw [cmd_ok hp]; unfold nS nO nA nW; (have e2 : (⟨#[]⟩ : ByteArray) = S [] := rfl); (try simp only [e2] at *); grind)), HG⟩
      ·
       try replace h13 := V.dec h13
       try simp only [V.mk0, V.mk1, V.mk2, V.mk3] at h13
       refine V.seq ?_
       refine V.region ?_
       refine V.run T_ok 2 rfl ?_
       refine V.nil ?_
       refine V.tN ?_
       refine V.condT rfl (fun h14 => ?_) (fun h14 => ?_)
       ·
        try replace h14 := V.dec h14
        try simp only [V.mk0, V.mk1, V.mk2, V.mk3] at h14
        refine V.skip ?_
        refine V.tN ?_
        refine V.condT rfl (fun h14 => ?_) (fun h14 => ?_)
        ·
         try replace h14 := V.dec h14
         try simp only [V.mk0, V.mk1, V.mk2, V.mk3] at h14
         refine V.seq ?_
         refine V.region ?_
         refine V.run T_ok 2 rfl ?_
         refine V.andG T_ok 1 1 51 rfl rfl rfl rfl rfl rfl rfl rfl ?_
         refine V.run T_ok 1 rfl ?_
         refine V.nil ?_
         refine V.tN ?_
         refine V.ret ?_
         refine V.bR ?_
         refine V.tR ?_
         refine V.done rfl ?_
         exact ⟨congrArg Value.bool (by cases hp : (nK d.kd && fldB d) with | false => (first | (rw [cmd_plain hp]; done) | (rw [cmd_plain hp]; grind)) | true => (rw [cmd_ok hp]; unfold nS nO nA nW; (have e2 : (⟨#[]⟩ : ByteArray) = S [] := rfl); (try simp only [e2] at *); grind)), HG⟩
        ·
         try replace h14 := V.dec h14
         try simp only [V.mk0, V.mk1, V.mk2, V.mk3] at h14
         refine V.seq ?_
         refine V.region ?_
         refine V.run T_ok 2 rfl ?_
         refine V.nil ?_
         refine V.tN ?_
         refine V.condT rfl (fun h17 => ?_) (fun h17 => ?_)
         ·
          try replace h17 := V.dec h17
          try simp only [V.mk0, V.mk1, V.mk2, V.mk3] at h17
          refine V.seq ?_
          refine V.region ?_
          refine V.run T_ok 2 rfl ?_
          refine V.andG T_ok 1 1 57 rfl rfl rfl rfl rfl rfl rfl rfl ?_
          refine V.run T_ok 1 rfl ?_
          refine V.andG T_ok 1 4 60 rfl rfl rfl rfl rfl rfl rfl rfl ?_
          refine V.run T_ok 1 rfl ?_
          refine V.nil ?_
          refine V.tN ?_
          refine V.ret ?_
          refine V.bR ?_
          refine V.tR ?_
          refine V.done rfl ?_
          exact ⟨congrArg Value.bool (by cases hp : (nK d.kd && fldB d) with | false => (first | (rw [cmd_plain hp]; done) | (rw [cmd_plain hp]; grind)) | true => (rw [cmd_ok hp]; unfold nS nO nA nW; (have e2 : (⟨#[]⟩ : ByteArray) = S [] := rfl); (try simp only [e2] at *); grind)), HG⟩
         ·
          try replace h17 := V.dec h17
          try simp only [V.mk0, V.mk1, V.mk2, V.mk3] at h17
          refine V.skip ?_
          refine V.bN ?_
          refine V.tN ?_
          refine V.seq ?_
          refine V.region ?_
          refine V.run T_ok 2 rfl ?_
          refine V.nil ?_
          refine V.tN ?_
          refine V.ret ?_
          refine V.done rfl ?_
          exact ⟨congrArg Value.bool (by cases hp : (nK d.kd && fldB d) with | false => (first | (rw [cmd_plain hp]; done) | (rw [cmd_plain hp]; grind)) | true => (rw [cmd_ok hp]; unfold nS nO nA nW; (have e2 : (⟨#[]⟩ : ByteArray) = S [] := rfl); (try simp only [e2] at *); grind)), HG⟩
       ·
        try replace h14 := V.dec h14
        try simp only [V.mk0, V.mk1, V.mk2, V.mk3] at h14
        refine V.region ?_
        refine V.run T_ok 2 rfl ?_
        refine V.nil ?_
        refine V.tN ?_
        refine V.condT rfl (fun h15 => ?_) (fun h15 => ?_)
        ·
         try replace h15 := V.dec h15
         try simp only [V.mk0, V.mk1, V.mk2, V.mk3] at h15
         refine V.seq ?_
         refine V.region ?_
         refine V.run T_ok 2 rfl ?_
         refine V.andG T_ok 1 1 51 rfl rfl rfl rfl rfl rfl rfl rfl ?_
         refine V.run T_ok 1 rfl ?_
         refine V.nil ?_
         refine V.tN ?_
         refine V.ret ?_
         refine V.bR ?_
         refine V.tR ?_
         refine V.done rfl ?_
         exact ⟨congrArg Value.bool (by cases hp : (nK d.kd && fldB d) with | false => (first | (rw [cmd_plain hp]; done) | (rw [cmd_plain hp]; grind)) | true => (rw [cmd_ok hp]; unfold nS nO nA nW; (have e2 : (⟨#[]⟩ : ByteArray) = S [] := rfl); (try simp only [e2] at *); grind)), HG⟩
        ·
         try replace h15 := V.dec h15
         try simp only [V.mk0, V.mk1, V.mk2, V.mk3] at h15
         refine V.seq ?_
         refine V.region ?_
         refine V.run T_ok 2 rfl ?_
         refine V.nil ?_
         refine V.tN ?_
         refine V.condT rfl (fun h17 => ?_) (fun h17 => ?_)
         ·
          try replace h17 := V.dec h17
          try simp only [V.mk0, V.mk1, V.mk2, V.mk3] at h17
          refine V.seq ?_
          refine V.region ?_
          refine V.run T_ok 2 rfl ?_
          refine V.andG T_ok 1 1 57 rfl rfl rfl rfl rfl rfl rfl rfl ?_
          refine V.run T_ok 1 rfl ?_
          refine V.andG T_ok 1 4 60 rfl rfl rfl rfl rfl rfl rfl rfl ?_
          refine V.run T_ok 1 rfl ?_
          refine V.nil ?_
          refine V.tN ?_
          refine V.ret ?_
          refine V.bR ?_
          refine V.tR ?_
          refine V.done rfl ?_
          exact ⟨congrArg Value.bool (by cases hp : (nK d.kd && fldB d) with | false => (first | (rw [cmd_plain hp]; done) | (rw [cmd_plain hp]; grind)) | true => (rw [cmd_ok hp]; unfold nS nO nA nW; (have e2 : (⟨#[]⟩ : ByteArray) = S [] := rfl); (try simp only [e2] at *); grind)), HG⟩
         ·
          try replace h17 := V.dec h17
          try simp only [V.mk0, V.mk1, V.mk2, V.mk3] at h17
          refine V.skip ?_
          refine V.bN ?_
          refine V.tN ?_
          refine V.seq ?_
          refine V.region ?_
          refine V.run T_ok 2 rfl ?_
          refine V.nil ?_
          refine V.tN ?_
          refine V.ret ?_
          refine V.done rfl ?_
          exact ⟨congrArg Value.bool (by cases hp : (nK d.kd && fldB d) with | false => (first | (rw [cmd_plain hp]; done) | (rw [cmd_plain hp]; grind)) | true => (rw [cmd_ok hp]; unfold nS nO nA nW; (have e2 : (⟨#[]⟩ : ByteArray) = S [] := rfl); (try simp only [e2] at *); grind)), HG⟩

set_option maxHeartbeats 900000 in
set_option maxRecDepth 10000 in
theorem rmeta_spec {w : World}  {i : Int} {e : Int} {a : ByteArray} {x : Int} {y : Int} (h1 : i ≤ 9223372036854775807) (h2 : e ≤ 9223372036854775807) (h3 : a.size ≤ 1000) (h4 : x ≤ 9223372036854775807) (h5 : y ≤ 9223372036854775807) :
    Meets Try.prog 61 [.agg #[.int .i64 i, .int .i64 e, .string a, .int .i64 x, .int .i64 y]] w fun r w' => ∃ (ra50 : Option Addr) (rc50 : Nat), r = .slice ra50 (nb i ++ nb e ++ tb a ++ stB x y).length rc50 ∧ V.Row V.Cod.byte 5 w' V.None' w.heap.size w'.heap.size ra50 rc50 (nb i ++ nb e ++ tb a ++ stB x y) ∧ Gr w w' := by
 have n1 := nb_len h1
 have n2 := nb_len h2
 have n3 := tb_len h3 (by omega)
 have n4 := st_len h4 h5
 unfold nb at n1 n2
 unfold tb at n3
 have HG := V.Fr.refl [] w
 refine V.enter (n := 21) Try.func61 rfl rfl (by decide) rfl ?_
 refine V.seq ?_
 refine V.region ?_
 refine V.box rfl rfl rfl rfl ?_
 rintro k1 w3 s5 s6 G4 Fk2
 have z7 := V.Fr.size G4
 replace HG := HG.grow G4
 clear G4
 try simp only [V.cellsL, V.spliceL] at Fk2
 refine V.run T_ok 1 rfl ?_
 refine V.nil ?_
 refine V.tN ?_
 refine V.seq ?_
 refine V.drawGT 5 (V.sel [(2, (fun v wz => ∃ (ra9 : Option Addr) (rc9 : Nat), v = .slice ra9 (numB i.toNat).length rc9 ∧ V.Row V.Cod.byte 5 wz V.None' w3.heap.size wz.heap.size ra9 rc9 (numB i.toNat)))]) mixed (by kernel_rfl) (V.mono_cons (by rintro v wz wz' g ⟨ra9, rc9, rfl, rF9⟩; exact ⟨ra9, rc9, rfl, (by first | exact (rF9.gr g).mono (V.In.sub (Nat.le_refl _) g.size) | exact rF9.gr g | exact (rF9.gr g).mono (fun _ h => h) (Nat.le_refl _) g.size | exact (rF9.gr g).mono (fun k h => ⟨h.1, Nat.lt_of_lt_of_le h.2 g.size⟩))⟩) V.mono_nil) ?_
 refine V.grun T_ok 1 rfl (V.sel_none rfl) ?_
 refine V.gloadO T_ok (fun w' h => Fk2.gr h.1) rfl rfl rfl rfl rfl rfl ?_
 refine V.gcall (fun w' h => (rp_number (v := i) (by omega)).mono (by rintro v w'' ⟨ra9, rc9, rfl, rF9, G⟩; exact ⟨⟨ra9, rc9, rfl, (by first | exact rF9.mono (V.In.mono_l h.1.size) | exact rF9 | exact rF9.mono (fun _ h => h) h.1.size (Nat.le_refl _))⟩, G⟩)) rfl rfl rfl rfl ?_
 rintro _ w11 - - ⟨a8, c9, rfl, -⟩
 refine V.grun T_ok 1 rfl (V.sel_none rfl) ?_
 refine V.gloadO T_ok (fun w' h => Fk2.gr h.1) rfl rfl rfl rfl rfl rfl ?_
 refine V.gnil ?_
 rintro w12 G13 hH14
 have z15 := V.Fr.size G13
 try replace Fk2 := Fk2.gr G13
 replace HG := HG.grow G13
 clear G13
 have F10 : V.Row V.Cod.byte 5 w12 V.None' w3.heap.size w12.heap.size a8 c9 (numB i.toNat) := by
   obtain ⟨_, _, he, F0⟩ := (V.Hist.here (hH14 2))
   cases he
   exact F0
 clear hH14
 refine V.call (rp_number (v := e) (by omega)) rfl rfl rfl ?_
 rintro _ w19 ⟨a16, c17, rfl, F18, G20⟩
 have z21 := V.Fr.size G20
 try replace Fk2 := Fk2.gr G20
 try replace F10 := F10.gr G20
 replace HG := HG.grow G20
 clear G20
 refine V.appendR (F10) (V.From.flat V.flat_byte (D' := V.None') (F18.sl.from Try.underlying22)) elT22_22 rfl rfl rfl rfl rfl (by first | omega | (simp only [List.length_take, List.length_drop, List.length_append, List.length_cons, List.length_nil, List.length_replicate, List.length_set, V.length_data, V.S_size]; omega)) (by unfold maxLen; first | omega | (simp only [List.length_take, List.length_drop, List.length_append, List.length_cons, List.length_nil, List.length_replicate, List.length_set, V.length_data, V.S_size]; omega)) (by omega) (by omega) (fun _ h => h.elim) (fun _ h => h.elim) ?_
 rintro a22 c23 w25 G26 s27 F24
 clear F10
 have z28 := Go.RowKit.Below.size G26
 first | replace Fk2 := V.Cells.bl Fk2 G26 (by omega) | clear Fk2 | skip
 first | replace F18 := V.Row.bl F18 G26 (by first | exact ⟨fun _ h => h.elim, by omega⟩ | exact ⟨fun _ h => by have := h.2; omega, by omega⟩) | clear F18 | skip
 replace HG := HG.bl (Go.RowKit.Below.mono G26 (by omega))
 clear G26
 refine V.run T_ok 1 rfl ?_
 refine V.nil ?_
 refine V.tN ?_
 refine V.seq ?_
 refine V.region ?_
 refine V.run T_ok 2 rfl ?_
 refine V.loadO T_ok Fk2 rfl rfl rfl rfl rfl ?_
 refine V.call (rp_text (s := a) (by first | omega | decide | (simp only [V.S_size, List.length_cons, List.length_nil]; omega))) rfl rfl rfl ?_
 rintro _ w32 ⟨a29, c30, rfl, F31, G33⟩
 have z34 := V.Fr.size G33
 try replace Fk2 := Fk2.gr G33
 try replace F18 := F18.gr G33
 try replace F24 := F24.gr G33
 replace HG := HG.grow G33
 clear G33
 refine V.appendR (F24) (V.From.flat V.flat_byte (D' := V.None') (F31.sl.from Try.underlying22)) elT22_22 rfl rfl rfl rfl rfl (by first | omega | (simp only [List.length_take, List.length_drop, List.length_append, List.length_cons, List.length_nil, List.length_replicate, List.length_set, V.length_data, V.S_size]; omega)) (by unfold maxLen; first | omega | (simp only [List.length_take, List.length_drop, List.length_append, List.length_cons, List.length_nil, List.length_replicate, List.length_set, V.length_data, V.S_size]; omega)) (by omega) (by omega) (fun _ h => h.elim) (fun _ h => h.elim) ?_
 rintro a35 c36 w38 G39 s40 F37
 clear F24
 have z41 := Go.RowKit.Below.size G39
 first | replace Fk2 := V.Cells.bl Fk2 G39 (by omega) | clear Fk2 | skip
 first | replace F18 := V.Row.bl F18 G39 (by first | exact ⟨fun _ h => h.elim, by omega⟩ | exact ⟨fun _ h => by have := h.2; omega, by omega⟩) | clear F18 | skip
 first | replace F31 := V.Row.bl F31 G39 (by first | exact ⟨fun _ h => h.elim, by omega⟩ | exact ⟨fun _ h => by have := h.2; omega, by omega⟩) | clear F31 | skip
 replace HG := HG.bl (Go.RowKit.Below.mono G39 (by omega))
 clear G39
 refine V.run T_ok 1 rfl ?_
 refine V.nil ?_
 refine V.tN ?_
 refine V.seq ?_
 refine V.region ?_
 refine V.run T_ok 2 rfl ?_
 refine V.loadO T_ok Fk2 rfl rfl rfl rfl rfl ?_
 refine V.call (rsput_spec (a := x) (b := y) (by omega) (by omega)) rfl rfl rfl ?_
 rintro _ w45 ⟨a42, c43, rfl, F44, G46⟩
 have z47 := V.Fr.size G46
 try replace Fk2 := Fk2.gr G46
 try replace F18 := F18.gr G46
 try replace F31 := F31.gr G46
 try replace F37 := F37.gr G46
 replace HG := HG.grow G46
 clear G46
 refine V.appendR (F37) (V.From.flat V.flat_byte (D' := V.None') (F44.sl.from Try.underlying22)) elT22_22 rfl rfl rfl rfl rfl (by first | omega | (simp only [List.length_take, List.length_drop, List.length_append, List.length_cons, List.length_nil, List.length_replicate, List.length_set, V.length_data, V.S_size]; omega)) (by unfold maxLen; first | omega | (simp only [List.length_take, List.length_drop, List.length_append, List.length_cons, List.length_nil, List.length_replicate, List.length_set, V.length_data, V.S_size]; omega)) (by omega) (by omega) (fun _ h => h.elim) (fun _ h => h.elim) ?_
 rintro a48 c49 w51 G52 s53 F50
 clear F37
 have z54 := Go.RowKit.Below.size G52
 first | replace Fk2 := V.Cells.bl Fk2 G52 (by omega) | clear Fk2 | skip
 first | replace F18 := V.Row.bl F18 G52 (by first | exact ⟨fun _ h => h.elim, by omega⟩ | exact ⟨fun _ h => by have := h.2; omega, by omega⟩) | clear F18 | skip
 first | replace F31 := V.Row.bl F31 G52 (by first | exact ⟨fun _ h => h.elim, by omega⟩ | exact ⟨fun _ h => by have := h.2; omega, by omega⟩) | clear F31 | skip
 first | replace F44 := V.Row.bl F44 G52 (by first | exact ⟨fun _ h => h.elim, by omega⟩ | exact ⟨fun _ h => by have := h.2; omega, by omega⟩) | clear F44 | skip
 replace HG := HG.bl (Go.RowKit.Below.mono G52 (by omega))
 clear G52
 refine V.run T_ok 1 rfl ?_
 refine V.nil ?_
 refine V.tN ?_
 refine V.ret ?_
 refine V.done rfl ?_
 exact ⟨a48, c49, (by first | rfl | simp only [List.length_set]), F50.re, HG⟩

end Go.Proofs.Ytkklebdlbmoogaa
