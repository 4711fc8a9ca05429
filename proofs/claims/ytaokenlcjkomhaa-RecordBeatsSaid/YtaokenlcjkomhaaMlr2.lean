/- Proved here: walks: what functions of this seat's program return and what they leave of memory, each as a contract. Conditions: stated at each theorem. -/
import Derived.Test.YtaokenlcjkomhaaMlr
namespace Go.Proofs.Ytaokenlcjkomhaa
set_option linter.unusedVariables false
set_option linter.unusedSimpArgs false
open Go
open V (Bytes Meets Env Sl Own Gr Fr Cells S)
theorem rB_len {d : RecV} (h : recB d = true) : d.ws.length ≤ 8 ∧ keysOk d.ws := by
  simp only [recB, Bool.and_eq_true, decide_eq_true_eq] at h
  have nil : d.ws.length = 0 → d.ws.length ≤ 8 ∧ keysOk d.ws := fun h => ⟨by omega, fun x hx => by rw [List.length_eq_zero_iff.1 h] at hx; cases hx⟩
  obtain ⟨_, h5⟩ := h
  split at h5
  · simp only [wrB, Bool.and_eq_true, List.all_eq_true, decide_eq_true_eq] at h5
    refine ⟨h5.2.2, fun x hx => ?_⟩
    have := h5.1.1 x hx
    simp only [isKey, Bool.and_eq_true, decide_eq_true_eq] at this
    omega
  · split at h5
    · exact nil (of_decide_eq_true h5).2.2.2
    · split at h5
      · exact nil (of_decide_eq_true h5).2
      · split at h5
        · exact nil (of_decide_eq_true h5)
        · simp at h5
theorem maxSt_R {a b x y : Int} (h1 : stR a b) (h2 : stR x y) : stR (maxSt a b x y).1 (maxSt a b x y).2 := by
  simp only [maxSt]; split <;> assumption
section
variable {d : RecV} {ki ep aw al nw nl mi me sw sl pr : Int} {ws : List (ByteArray × Int)} {co sg : Bool}
theorem beat_err (h : (rBeat d ep nw nl).2 ≠ 0) : (rBeat d ep nw nl).1 = d := by simp only [rBeat] at h ⊢; grind
theorem stage_err (h : (rStage d ep aw al nw nl ws).2 ≠ 0) : (rStage d ep aw al nw nl ws).1 = d := by simp only [rStage] at h ⊢; grind
theorem recov_err (h : (rRecov d ep aw al co).2 ≠ 0) : (rRecov d ep aw al co).1 = d := by simp only [rRecov] at h ⊢; grind
theorem finish_err (h : (rFinish d ep aw al co sg).2 ≠ 0) : (rFinish d ep aw al co sg).1 = d := by simp only [rFinish] at h ⊢; grind [recov_err]
theorem push_err (h : (rPush d mi me sw sl nw nl pr).2 ≠ 0) : (rPush d mi me sw sl nw nl pr).1 = d := by simp only [rPush] at h ⊢; grind
theorem play_err (h : (play d ki ep aw al nw nl ws co sg mi me sw sl pr).2 ≠ 0) : (play d ki ep aw al nw nl ws co sg mi me sw sl pr).1 = d := by
  simp only [play] at h ⊢
  split at h <;> (try split at h) <;> (try split at h) <;> simp_all [beat_err, stage_err, finish_err, push_err]
theorem play_over (h : d.st = 3 ∨ d.st = 4) : (play d ki ep aw al nw nl ws co sg mi me sw sl pr).1 = d := by
  simp only [play, rBeat, rStage, rFinish, rRecov, rPush]; grind
theorem decR_id {c : Bool} : (decR d ep aw al c).id = d.id := by simp only [decR]; split <;> rfl
theorem decR_ep {c : Bool} : (decR d ep aw al c).ep = ep := by simp only [decR]; split <;> rfl
theorem play_id : (play d ki ep aw al nw nl ws co sg mi me sw sl pr).1.id = d.id := by
  simp only [play, rBeat, rStage, rFinish, rRecov, rPush]; grind [decR_id]
theorem beat_ep : d.ep ≤ (rBeat d ep nw nl).1.ep := by simp only [rBeat]; (repeat' split) <;> (simp only; omega)
theorem stage_ep : d.ep ≤ (rStage d ep aw al nw nl ws).1.ep := by simp only [rStage]; (repeat' split) <;> (simp only; omega)
theorem recov_ep : d.ep ≤ (rRecov d ep aw al co).1.ep := by simp only [rRecov]; (repeat' split) <;> (simp only [decR_ep]; omega)
theorem finish_ep : d.ep ≤ (rFinish d ep aw al co sg).1.ep := by
  have := recov_ep (d := d) (ep := ep) (aw := aw) (al := al) (co := co)
  simp only [rFinish]; (repeat' split) <;> first | exact this | (simp only [decR_ep]; omega)
theorem push_ep : d.ep ≤ (rPush d mi me sw sl nw nl pr).1.ep := by simp only [rPush]; (repeat' split) <;> (simp only [decR_ep]; omega)
theorem play_ep : d.ep ≤ (play d ki ep aw al nw nl ws co sg mi me sw sl pr).1.ep := by
  simp only [play]
  split; exact beat_ep
  split; exact stage_ep
  split; exact finish_ep
  exact push_ep
theorem right_pend (h1 : 0 ≤ d.id ∧ d.id ≤ 1099511627776) (h2 : 0 ≤ ep ∧ ep ≤ 1099511627776) {bw bl : Int} (h3 : stR bw bl) : recB ⟨d.id, ep, 1, 0, 0, bw, bl, []⟩ = true := by
  simp only [recB, Bool.and_eq_true, decide_eq_true_eq]
  exact ⟨⟨h1, h2, by decide, h3⟩, by simp⟩
theorem rB_base (h : recB d = true) : (0 ≤ d.id ∧ d.id ≤ 1099511627776) ∧ (0 ≤ d.ep ∧ d.ep ≤ 1099511627776) ∧ stR d.aw d.al ∧ stR d.bw d.bl := by
  simp only [recB, Bool.and_eq_true, decide_eq_true_eq] at h
  exact h.1
theorem beat_right (h : recB d = true) : recB (rBeat d ep nw nl).1 = true := by
  obtain ⟨h1, h2, h3, h4⟩ := rB_base h
  simp only [rBeat]
  split
  · exact h
  · rename_i hc
    have hn : stR nw nl := by simp only [Decidable.not_not] at hc; exact hc.2
    have hm := maxSt_R h4 hn
    split; exact h
    split; exact h
    split; exact h
    split
    · exact right_pend h1 (by omega) hm
    · simp only [recB, Bool.and_eq_true, decide_eq_true_eq] at h ⊢
      rename_i h0
      refine ⟨⟨h1, h2, h3, hm⟩, ?_⟩
      have h5 := h.2
      have hn0 : ¬ d.st = 0 := by omega
      by_cases h6 : d.st = 2
      · rw [if_pos h6] at h5 ⊢; exact h5
      · rw [if_neg h6, if_neg hn0] at h5 ⊢; exact h5
theorem decR_right (h : recB d = true) (h2 : 0 ≤ ep ∧ ep ≤ 1099511627776) (h3 : stR aw al) {c : Bool} : recB (decR d ep aw al c) = true := by
  obtain ⟨h1, _, _, h4⟩ := rB_base h
  simp only [decR]
  split
  · simp only [recB, Bool.and_eq_true, decide_eq_true_eq]
    exact ⟨⟨h1, h2, h3, h4⟩, by simp⟩
  · simp only [recB, Bool.and_eq_true, decide_eq_true_eq]
    exact ⟨⟨h1, h2, by decide, h4⟩, by simp⟩
theorem stage_right (h : recB d = true) : recB (rStage d ep aw al nw nl ws).1 = true := by
  obtain ⟨h1, h2, h3, h4⟩ := rB_base h
  simp only [rStage]
  split
  · exact h
  · rename_i hc
    simp only [Decidable.not_not] at hc
    obtain ⟨c1, c2, c3, c4⟩ := hc
    have hm := maxSt_R h4 c3
    split; exact h
    split; exact h
    split; exact h
    simp only [recB, Bool.and_eq_true, decide_eq_true_eq]
    exact ⟨⟨h1, c1, c2, hm⟩, by simp [c4]⟩
theorem recov_right (h : recB d = true) (h2 : 0 ≤ ep ∧ ep ≤ 1099511627776) (h3 : stR aw al) : recB (rRecov d ep aw al co).1 = true := by
  simp only [rRecov]
  split; exact h
  split; exact h
  exact decR_right h h2 h3
theorem finish_right (h : recB d = true) : recB (rFinish d ep aw al co sg).1 = true := by
  simp only [rFinish]
  split
  · exact h
  · rename_i hc
    simp only [Decidable.not_not] at hc
    split; exact recov_right h hc.1 hc.2
    split; exact h
    split; exact h
    split; exact h
    split; exact h
    exact decR_right h hc.1 hc.2
theorem push_right (h : recB d = true) : recB (rPush d mi me sw sl nw nl pr).1 = true := by
  obtain ⟨h1, h2, h3, h4⟩ := rB_base h
  simp only [rPush]
  split
  · exact h
  · rename_i hc
    simp only [Decidable.not_not] at hc
    (repeat' split) <;> first | exact h | exact decR_right h (by omega) (by decide)
theorem play_right (h : recB d = true) : recB (play d ki ep aw al nw nl ws co sg mi me sw sl pr).1 = true := by
  simp only [play]
  split; exact beat_right h
  split; exact stage_right h
  split; exact finish_right h
  exact push_right h
end
theorem rec0_right {id : Int} (h : 0 ≤ id ∧ id ≤ 1099511627776) : recB ⟨id, 0, 0, 0, 0, 0, 0, []⟩ = true := by
  simp only [recB, Bool.and_eq_true, decide_eq_true_eq]
  exact ⟨⟨h, by decide, by decide, by decide⟩, by simp⟩

set_option maxHeartbeats 4000000 in
set_option maxRecDepth 10000 in
theorem recordOnce_walk {w : World}  {id : Int} {D_s : Nat → Prop} {c_s : Nat} {a_s : Option Addr} {s : List (Int × Int × (Int × Int) × (Int × Int) × List (ByteArray × Int) × Bool × Bool × (Int × Int × ByteArray × Int × Int) × Int)} (F_s : Sl (V.Cod.pair (V.Cod.int .i64) (V.Cod.pair (V.Cod.int .i64) (V.Cod.pair (V.Cod.pair (V.Cod.int .i64) (V.Cod.int .i64)) (V.Cod.pair (V.Cod.pair (V.Cod.int .i64) (V.Cod.int .i64)) (V.Cod.pair V.Cod.write.sl (V.Cod.pair V.Cod.bool (V.Cod.pair V.Cod.bool (V.Cod.pair (V.Cod.pair (V.Cod.int .i64) (V.Cod.pair (V.Cod.int .i64) (V.Cod.pair V.Cod.str (V.Cod.pair (V.Cod.int .i64) (V.Cod.int .i64))))) (V.Cod.int .i64))))))))) w D_s a_s c_s s) (hD_s : ∀ k, D_s k → k < w.heap.size)  :
    Meets Try.prog 7 [.int .i64 id, .slice a_s s.length c_s] w fun r w' => r = .bool true ∧ Gr w w' := by
 have HG := V.Fr.refl [] w
 refine V.enter (n := 91) Try.func7 rfl rfl (by decide) rfl ?_
 refine V.seq ?_
 refine V.region ?_
 refine V.run T_ok 1 rfl ?_
 refine V.nil ?_
 refine V.tN ?_
 refine V.seq ?_
 refine V.seq ?_
 refine V.region ?_
 refine V.run T_ok 3 rfl ?_
 refine V.orG T_ok 2 2 14 rfl rfl rfl rfl rfl rfl rfl rfl ?_
 refine V.nil ?_
 refine V.tN ?_
 refine V.condT rfl (fun h1 => ?_) (fun h1 => ?_)
 ·
  try replace h1 := V.dec h1
  try simp only [V.mk0, V.mk1, V.mk2, V.mk3] at h1
  refine V.seq ?_
  refine V.region ?_
  refine V.call (alive_spec) rfl rfl rfl ?_
  rintro _ w1 ⟨rfl, G2⟩
  have z3 := V.Fr.size G2
  try replace F_s := F_s.gr G2
  replace HG := HG.grow G2
  clear G2
  refine V.run T_ok 1 rfl ?_
  refine V.nil ?_
  refine V.tN ?_
  refine V.ret ?_
  refine V.tR ?_
  refine V.done rfl ?_
  exact ⟨(by first | rfl | simp only [List.length_set]), HG⟩
 ·
  try replace h1 := V.dec h1
  try simp only [V.mk0, V.mk1, V.mk2, V.mk3] at h1
  refine V.skip ?_
  refine V.tN ?_
  refine V.seq ?_
  refine V.region ?_
  refine V.run T_ok 1 rfl ?_
  refine V.mkStruct T_ok zero27 rfl rfl rfl rfl rfl ?_
  refine V.alloc zero27 rfl rfl rfl ?_
  rintro k4 w6 s8 s9 G7 Fk5
  have z10 := V.Fr.size G7
  try replace F_s := F_s.gr G7
  replace HG := HG.grow G7
  clear G7
  try simp only [V.cellsL, V.spliceL] at Fk5
  refine V.storeO Fk5 rfl rfl rfl rfl sz27 rfl rfl rfl rfl ?_
  rintro w11 G12 z14 Fs13
  clear Fk5
  have z15 := V.Fr.size G12
  first | replace F_s := F_s.mb G12 hD_s | clear F_s | skip
  replace HG := HG.n1 G12
  clear G12
  have Fk5 := Fs13; clear Fs13
  simp only [V.spliceL, V.cellsL] at Fk5
  refine V.nil ?_
  refine V.tN ?_
  refine V.seq ?_
  refine V.seq ?_
  refine V.region ?_
  refine V.run T_ok 1 rfl ?_
  refine V.nil ?_
  refine V.tN ?_
  refine V.block ?_
  have hl63 := F_s.len63
  refine V.loopM (fun m e v17 => Fr [] w v17 ∧ w11.heap.size ≤ v17.heap.size ∧ Sl (V.Cod.pair (V.Cod.int .i64) (V.Cod.pair (V.Cod.int .i64) (V.Cod.pair (V.Cod.pair (V.Cod.int .i64) (V.Cod.int .i64)) (V.Cod.pair (V.Cod.pair (V.Cod.int .i64) (V.Cod.int .i64)) (V.Cod.pair V.Cod.write.sl (V.Cod.pair V.Cod.bool (V.Cod.pair V.Cod.bool (V.Cod.pair (V.Cod.pair (V.Cod.int .i64) (V.Cod.pair (V.Cod.int .i64) (V.Cod.pair V.Cod.str (V.Cod.pair (V.Cod.int .i64) (V.Cod.int .i64))))) (V.Cod.int .i64))))))))) v17 D_s a_s c_s s ∧ ∃ (i : Nat) (rr : RecV) (ra8 : Option Addr) (rc8 : Nat), m = s.length - i ∧ i ≤ s.length ∧ i ≤ 60 ∧ recB rr = true ∧ rr.id = id ∧ Cells v17 k4 [.int .i64 rr.id, .int .i64 rr.ep, .int .i64 rr.st, .int .i64 rr.aw, .int .i64 rr.al, .int .i64 rr.bw, .int .i64 rr.bl, .slice ra8 rr.ws.length rc8] 27 ∧ Sl V.Cod.write v17 (V.In w11.heap.size v17.heap.size) ra8 rc8 rr.ws ∧ e 0 = .int .i64 id ∧ e 1 = .slice a_s s.length c_s ∧ e 5 = .pointer (some ⟨k4, 0, none⟩) ∧ e 6 = .int .i64 (i : Int)) ?_ ?_
  ·
   exact ⟨_, HG, (by omega), F_s, (0), ((⟨id, 0, 0, 0, 0, 0, 0, []⟩ : RecV)), _, _, rfl, (by omega), (by omega), (rec0_right (by omega)), (rfl), Fk5, (Sl.nil _ _ _ _ _ (Nat.zero_le _)), rfl, rfl, rfl, rfl⟩
  try clear Fk5
  clear HG F_s
  rintro _ e v17 ⟨HG, z18, F_s, i, rr, ra8, rc8, rfl, hi, hi2, hrr, hid, rFk8, rF8, he0_0, he0_1, he0_5, he0_6⟩
  refine V.knownC (t := 0) he0_0 ?_
  refine V.knownC (t := 1) he0_1 ?_
  refine V.knownC (t := 5) he0_5 ?_
  refine V.knownC (t := 6) he0_6 ?_
  refine V.seq ?_
  refine V.seq ?_
  refine V.region ?_
  refine V.run T_ok 5 rfl ?_
  refine V.andG T_ok 2 4 25 rfl rfl rfl rfl rfl rfl rfl rfl ?_
  refine V.nil ?_
  refine V.tN ?_
  refine V.condT rfl (fun h5 => ?_) (fun h5 => ?_)
  ·
   try replace h5 := V.dec h5
   try simp only [V.mk0, V.mk1, V.mk2, V.mk3] at h5
   refine V.skip ?_
   refine V.tN ?_
   refine V.seq ?_
   refine V.block ?_
   refine V.seq ?_
   have hrb := rB_len hrr
   refine V.region ?_
   refine V.run T_ok 2 rfl ?_
   refine V.elem T_ok F_s rfl rfl sz31 rfl rfl rfl rfl (by first | omega | (simp only [List.length_take, List.length_drop, List.length_append, List.length_cons, List.length_nil, List.length_replicate, List.length_set, V.length_data, V.S_size]; omega)) (by first | omega | (simp only [List.length_take, List.length_drop, List.length_append, List.length_cons, List.length_nil, List.length_replicate, List.length_set, V.length_data, V.S_size]; omega)) ?_
   rintro b19 o20 cs21 hx22 hb23 hR29 hA24
   obtain ⟨x25, hx25⟩ : ∃ z', s[((i : Int)).toNat] = z' := ⟨_, rfl⟩
   rw [hx25] at hR29
   obtain ⟨_, _, rfl, rfl, ⟨_, _, rfl, rfl, ⟨_, _, rfl, ⟨_, _, rfl, rfl, rfl⟩, ⟨_, _, rfl, ⟨_, _, rfl, rfl, rfl⟩, ⟨_, _, rfl, ⟨a26, c27, rfl, F28⟩, ⟨_, _, rfl, rfl, ⟨_, _, rfl, rfl, ⟨_, _, rfl, ⟨_, _, rfl, rfl, ⟨_, _, rfl, rfl, ⟨_, _, rfl, rfl, ⟨_, _, rfl, rfl, rfl⟩⟩⟩⟩, rfl⟩⟩⟩⟩⟩⟩⟩⟩ := hR29
   try simp only [Int.toNat_natCast] at hx25 hx22
   refine V.loadA T_ok (o0 := o20) (off := 0) hA24 rfl rfl rfl rfl rfl ?_
   refine V.call (fitsA_spec (ki := x25.1) (ep := x25.2.1) (aw := x25.2.2.1.1) (al := x25.2.2.1.2) (nw := x25.2.2.2.1.1) (nl := x25.2.2.2.1.2) (co := x25.2.2.2.2.2.1) (sg := x25.2.2.2.2.2.2.1) (mi := x25.2.2.2.2.2.2.2.1.1) (me := x25.2.2.2.2.2.2.2.1.2.1) (an := x25.2.2.2.2.2.2.2.1.2.2.1) (sw := x25.2.2.2.2.2.2.2.1.2.2.2.1) (sl := x25.2.2.2.2.2.2.2.1.2.2.2.2) (pr := x25.2.2.2.2.2.2.2.2) F28 (fun k hk => by have := hD_s k hk; omega)) rfl rfl rfl ?_
   rintro _ w30 ⟨rfl, G31⟩
   have z32 := V.Fr.size G31
   try replace F_s := F_s.gr G31
   try replace rFk8 := rFk8.gr G31
   try replace rF8 := rF8.gr G31
   try replace F28 := F28.gr G31
   replace HG := HG.grow G31
   clear G31
   refine V.run T_ok 1 rfl ?_
   refine V.nil ?_
   refine V.tN ?_
   refine V.seq ?_
   refine V.seq ?_
   refine V.region ?_
   refine V.run T_ok 2 rfl ?_
   refine V.nil ?_
   refine V.tN ?_
   refine V.condT rfl (fun h8 => ?_) (fun h8 => ?_)
   ·
    try replace h8 := V.dec h8
    try simp only [V.mk0, V.mk1, V.mk2, V.mk3] at h8
    refine V.exit ?_
    refine V.tX ?_
    refine V.bE ?_
    refine V.tN ?_
    refine V.region ?_
    refine V.run T_ok 1 rfl ?_
    refine V.addN rfl rfl rfl rfl rfl (by first | omega | (simp only [List.length_take, List.length_drop, List.length_append, List.length_cons, List.length_nil, List.length_replicate, List.length_set, V.length_data, V.S_size]; omega)) (by first | omega | (simp only [List.length_take, List.length_drop, List.length_append, List.length_cons, List.length_nil, List.length_replicate, List.length_set, V.length_data, V.S_size]; omega)) ?_
    refine V.run T_ok 1 rfl ?_
    refine V.nil ?_
    refine V.tN ?_
    exact ⟨_, (by omega), HG, (by omega), F_s, (i + 1), (rr), _, _, rfl, (by omega), (by omega), (by first | exact hrr | exact hnr), (by first | exact hid | exact hid2), rFk8, rF8.re, rfl, rfl, rfl, rfl⟩
   ·
    try replace h8 := V.dec h8
    try simp only [V.mk0, V.mk1, V.mk2, V.mk3] at h8
    obtain ⟨hkw, hlw⟩ := fitsA_keys h8
    refine V.skip ?_
    refine V.tN ?_
    refine V.seq ?_
    refine V.region ?_
    refine V.loadO T_ok rFk8 rfl rfl rfl rfl rfl ?_
    refine V.alloc zero27 rfl rfl rfl ?_
    rintro k33 w35 s37 s38 G36 Fk34
    have z39 := V.Fr.size G36
    try replace F_s := F_s.gr G36
    try replace rFk8 := rFk8.gr G36
    try replace rF8 := rF8.gr G36
    try replace F28 := F28.gr G36
    replace HG := HG.grow G36
    clear G36
    try simp only [V.cellsL, V.spliceL] at Fk34
    refine V.storeO Fk34 rfl rfl rfl rfl sz27 rfl rfl rfl rfl ?_
    rintro w40 G41 z43 Fs42
    clear Fk34
    have z44 := V.Fr.size G41
    first | replace F_s := F_s.mb G41 hD_s | clear F_s | skip
    first | replace rFk8 := rFk8.mv1 G41 (by omega) | clear rFk8 | skip
    first | replace rF8 := rF8.ma G41 | clear rF8 | skip
    first | replace F28 := F28.mb G41 hD_s | clear F28 | skip
    replace HG := HG.n1 G41
    clear G41
    have Fk34 := Fs42; clear Fs42
    simp only [V.spliceL, V.cellsL] at Fk34
    refine V.nil ?_
    refine V.tN ?_
    refine V.seq ?_
    refine V.drawE 8 10 mixed rfl (V.pure_extract rfl) (by kernel_rfl) ?_
    refine V.drawGT_any 10 (V.sel [(5, (fun v wz => ∃ (ra29 : Option Addr) (rc29 : Nat), v = .tuple #[.agg #[.int .i64 ((play rr x25.1 x25.2.1 x25.2.2.1.1 x25.2.2.1.2 x25.2.2.2.1.1 x25.2.2.2.1.2 x25.2.2.2.2.1 x25.2.2.2.2.2.1 x25.2.2.2.2.2.2.1 x25.2.2.2.2.2.2.2.1.1 x25.2.2.2.2.2.2.2.1.2.1 x25.2.2.2.2.2.2.2.1.2.2.2.1 x25.2.2.2.2.2.2.2.1.2.2.2.2 x25.2.2.2.2.2.2.2.2).1.id), .int .i64 ((play rr x25.1 x25.2.1 x25.2.2.1.1 x25.2.2.1.2 x25.2.2.2.1.1 x25.2.2.2.1.2 x25.2.2.2.2.1 x25.2.2.2.2.2.1 x25.2.2.2.2.2.2.1 x25.2.2.2.2.2.2.2.1.1 x25.2.2.2.2.2.2.2.1.2.1 x25.2.2.2.2.2.2.2.1.2.2.2.1 x25.2.2.2.2.2.2.2.1.2.2.2.2 x25.2.2.2.2.2.2.2.2).1.ep), .int .i64 ((play rr x25.1 x25.2.1 x25.2.2.1.1 x25.2.2.1.2 x25.2.2.2.1.1 x25.2.2.2.1.2 x25.2.2.2.2.1 x25.2.2.2.2.2.1 x25.2.2.2.2.2.2.1 x25.2.2.2.2.2.2.2.1.1 x25.2.2.2.2.2.2.2.1.2.1 x25.2.2.2.2.2.2.2.1.2.2.2.1 x25.2.2.2.2.2.2.2.1.2.2.2.2 x25.2.2.2.2.2.2.2.2).1.st), .int .i64 ((play rr x25.1 x25.2.1 x25.2.2.1.1 x25.2.2.1.2 x25.2.2.2.1.1 x25.2.2.2.1.2 x25.2.2.2.2.1 x25.2.2.2.2.2.1 x25.2.2.2.2.2.2.1 x25.2.2.2.2.2.2.2.1.1 x25.2.2.2.2.2.2.2.1.2.1 x25.2.2.2.2.2.2.2.1.2.2.2.1 x25.2.2.2.2.2.2.2.1.2.2.2.2 x25.2.2.2.2.2.2.2.2).1.aw), .int .i64 ((play rr x25.1 x25.2.1 x25.2.2.1.1 x25.2.2.1.2 x25.2.2.2.1.1 x25.2.2.2.1.2 x25.2.2.2.2.1 x25.2.2.2.2.2.1 x25.2.2.2.2.2.2.1 x25.2.2.2.2.2.2.2.1.1 x25.2.2.2.2.2.2.2.1.2.1 x25.2.2.2.2.2.2.2.1.2.2.2.1 x25.2.2.2.2.2.2.2.1.2.2.2.2 x25.2.2.2.2.2.2.2.2).1.al), .int .i64 ((play rr x25.1 x25.2.1 x25.2.2.1.1 x25.2.2.1.2 x25.2.2.2.1.1 x25.2.2.2.1.2 x25.2.2.2.2.1 x25.2.2.2.2.2.1 x25.2.2.2.2.2.2.1 x25.2.2.2.2.2.2.2.1.1 x25.2.2.2.2.2.2.2.1.2.1 x25.2.2.2.2.2.2.2.1.2.2.2.1 x25.2.2.2.2.2.2.2.1.2.2.2.2 x25.2.2.2.2.2.2.2.2).1.bw), .int .i64 ((play rr x25.1 x25.2.1 x25.2.2.1.1 x25.2.2.1.2 x25.2.2.2.1.1 x25.2.2.2.1.2 x25.2.2.2.2.1 x25.2.2.2.2.2.1 x25.2.2.2.2.2.2.1 x25.2.2.2.2.2.2.2.1.1 x25.2.2.2.2.2.2.2.1.2.1 x25.2.2.2.2.2.2.2.1.2.2.2.1 x25.2.2.2.2.2.2.2.1.2.2.2.2 x25.2.2.2.2.2.2.2.2).1.bl), .slice ra29 ((play rr x25.1 x25.2.1 x25.2.2.1.1 x25.2.2.1.2 x25.2.2.2.1.1 x25.2.2.2.1.2 x25.2.2.2.2.1 x25.2.2.2.2.2.1 x25.2.2.2.2.2.2.1 x25.2.2.2.2.2.2.2.1.1 x25.2.2.2.2.2.2.2.1.2.1 x25.2.2.2.2.2.2.2.1.2.2.2.1 x25.2.2.2.2.2.2.2.1.2.2.2.2 x25.2.2.2.2.2.2.2.2).1.ws).length rc29], .int .i64 ((play rr x25.1 x25.2.1 x25.2.2.1.1 x25.2.2.1.2 x25.2.2.2.1.1 x25.2.2.2.1.2 x25.2.2.2.2.1 x25.2.2.2.2.2.1 x25.2.2.2.2.2.2.1 x25.2.2.2.2.2.2.2.1.1 x25.2.2.2.2.2.2.2.1.2.1 x25.2.2.2.2.2.2.2.1.2.2.2.1 x25.2.2.2.2.2.2.2.1.2.2.2.2 x25.2.2.2.2.2.2.2.2).2)] ∧ Sl V.Cod.write wz (V.In w40.heap.size wz.heap.size) ra29 rc29 ((play rr x25.1 x25.2.1 x25.2.2.1.1 x25.2.2.1.2 x25.2.2.2.1.1 x25.2.2.2.1.2 x25.2.2.2.2.1 x25.2.2.2.2.2.1 x25.2.2.2.2.2.2.1 x25.2.2.2.2.2.2.2.1.1 x25.2.2.2.2.2.2.2.1.2.1 x25.2.2.2.2.2.2.2.1.2.2.2.1 x25.2.2.2.2.2.2.2.1.2.2.2.2 x25.2.2.2.2.2.2.2.2).1.ws))), (9, V.newC w40.heap.size [.int .i64 0, .int .i64 0, .int .i64 0, .int .i64 0, .int .i64 0, .int .i64 0, .int .i64 0, .slice none 0 0] 27)]) (by kernel_rfl) (V.mono_cons (by rintro v wz wz' g ⟨ra29, rc29, rfl, rF29⟩; exact ⟨ra29, rc29, rfl, (by first | exact (rF29.gr g).mono (V.In.sub (Nat.le_refl _) g.size) | exact rF29.gr g | exact (rF29.gr g).mono (fun _ h => h) (Nat.le_refl _) g.size | exact (rF29.gr g).mono (fun k h => ⟨h.1, Nat.lt_of_lt_of_le h.2 g.size⟩))⟩) (V.mono_cons V.newC_mono V.mono_nil)) ?_
    refine V.grun T_ok 2 rfl (V.sel_none rfl) ?_
    refine V.gelem T_ok F_s rfl rfl sz31 rfl rfl rfl rfl (by first | omega | (simp only [List.length_take, List.length_drop, List.length_append, List.length_cons, List.length_nil, List.length_replicate, List.length_set, V.length_data, V.S_size]; omega)) (by first | omega | (simp only [List.length_take, List.length_drop, List.length_append, List.length_cons, List.length_nil, List.length_replicate, List.length_set, V.length_data, V.S_size]; omega)) ?_
    rintro b45 o46 cs47 hx48 hb49 hR55 hA50
    obtain ⟨x51, hx51⟩ : ∃ z', s[((i : Int)).toNat] = z' := ⟨_, rfl⟩
    rw [hx51] at hR55
    obtain ⟨_, _, rfl, rfl, ⟨_, _, rfl, rfl, ⟨_, _, rfl, ⟨_, _, rfl, rfl, rfl⟩, ⟨_, _, rfl, ⟨_, _, rfl, rfl, rfl⟩, ⟨_, _, rfl, ⟨a52, c53, rfl, F54⟩, ⟨_, _, rfl, rfl, ⟨_, _, rfl, rfl, ⟨_, _, rfl, ⟨_, _, rfl, rfl, ⟨_, _, rfl, rfl, ⟨_, _, rfl, rfl, ⟨_, _, rfl, rfl, rfl⟩⟩⟩⟩, rfl⟩⟩⟩⟩⟩⟩⟩⟩ := hR55
    try simp only [Int.toNat_natCast] at hx51 hx48
    obtain rfl : x25 = x51 := hx25.symm.trans hx51
    refine V.gloadA T_ok (o0 := o46) (off := 0) (fun w' h => hA50.mv h.1 (by simp)) rfl rfl rfl rfl rfl rfl ?_
    refine V.gloadO T_ok (fun w' h => rFk8.gr h.1) rfl rfl rfl rfl rfl rfl ?_
    refine V.gcall (fun w' h => (do_spec (ki := x25.1) (ep := x25.2.1) (aw := x25.2.2.1.1) (al := x25.2.2.1.2) (nw := x25.2.2.2.1.1) (nl := x25.2.2.2.1.2) (co := x25.2.2.2.2.2.1) (sg := x25.2.2.2.2.2.2.1) (mi := x25.2.2.2.2.2.2.2.1.1) (me := x25.2.2.2.2.2.2.2.1.2.1) (an := x25.2.2.2.2.2.2.2.1.2.2.1) (sw := x25.2.2.2.2.2.2.2.1.2.2.2.1) (sl := x25.2.2.2.2.2.2.2.1.2.2.2.2) (pr := x25.2.2.2.2.2.2.2.2) (d := rr) (F54.gr h.1) (fun k hk => by have := Fr.size h.1; have := hD_s k hk; omega) (rF8.gr h.1) (fun k hk => by have := Fr.size h.1; have := hk.2; omega) (by first | assumption | omega) (by first | assumption | omega) (by assumption)).mono (by rintro v w'' ⟨ra29, rc29, rfl, rF29, G⟩; exact ⟨⟨ra29, rc29, rfl, (by first | exact rF29.mono (V.In.mono_l h.1.size) | exact rF29 | exact rF29.mono (fun _ h => h) h.1.size (Nat.le_refl _))⟩, G⟩)) rfl rfl rfl rfl ?_
    rintro _ w59 - - ⟨a56, c57, rfl, -⟩
    refine V.grun T_ok 3 rfl (V.sel_none rfl) ?_
    refine V.galloc (lo := w40.heap.size) zero27 (by omega) rfl rfl rfl rfl ?_
    rintro k60
    refine V.gnil ?_
    rintro w62 G63 hH64
    have z65 := V.Fr.size G63
    try replace F_s := F_s.gr G63
    try replace rFk8 := rFk8.gr G63
    try replace rF8 := rF8.gr G63
    try replace F28 := F28.gr G63
    try replace Fk34 := Fk34.gr G63
    try replace F54 := F54.gr G63
    replace HG := HG.grow G63
    clear G63
    have F58 : Sl V.Cod.write w62 (V.In w40.heap.size w62.heap.size) a56 c57 ((play rr x25.1 x25.2.1 x25.2.2.1.1 x25.2.2.1.2 x25.2.2.2.1.1 x25.2.2.2.1.2 x25.2.2.2.2.1 x25.2.2.2.2.2.1 x25.2.2.2.2.2.2.1 x25.2.2.2.2.2.2.2.1.1 x25.2.2.2.2.2.2.2.1.2.1 x25.2.2.2.2.2.2.2.1.2.2.2.1 x25.2.2.2.2.2.2.2.1.2.2.2.2 x25.2.2.2.2.2.2.2.2).1.ws) := by
      obtain ⟨_, _, he, F0⟩ := (V.Hist.here (V.Hist.old (hH64 5)))
      cases he
      exact F0
    have Fk61 := V.newC_get (V.Hist.here (hH64 9))
    have hk66 := V.newC_lt (V.Hist.here (hH64 9))
    clear hH64
    replace F58 := V.Sl.apartS V.flat_write F58 Fk61 rfl
    refine V.storeO Fk61 rfl rfl rfl rfl sz27 rfl rfl rfl rfl ?_
    rintro w67 G68 z70 Fs69
    clear Fk61
    have z71 := V.Fr.size G68
    first | replace F_s := F_s.mb G68 hD_s | clear F_s | skip
    first | replace rFk8 := rFk8.mv1 G68 (by omega) | clear rFk8 | skip
    first | replace rF8 := rF8.ma G68 | clear rF8 | skip
    first | replace F28 := F28.mb G68 hD_s | clear F28 | skip
    first | replace Fk34 := Fk34.mv1 G68 (by omega) | clear Fk34 | skip
    first | replace F54 := F54.mb G68 hD_s | clear F54 | skip
    first | replace F58 := F58.ma G68 | clear F58 | skip
    replace HG := HG.n1 G68
    clear G68
    have Fk61 := Fs69; clear Fs69
    simp only [V.spliceL, V.cellsL] at Fk61
    refine V.run T_ok 1 rfl ?_
    refine V.nil ?_
    refine V.to_nrm ?_
    refine V.tN ?_
    refine V.seq ?_
    refine V.seq ?_
    have hnr : recB (play rr x25.1 x25.2.1 x25.2.2.1.1 x25.2.2.1.2 x25.2.2.2.1.1 x25.2.2.2.1.2 x25.2.2.2.2.1 x25.2.2.2.2.2.1 x25.2.2.2.2.2.2.1 x25.2.2.2.2.2.2.2.1.1 x25.2.2.2.2.2.2.2.1.2.1 x25.2.2.2.2.2.2.2.1.2.2.2.1 x25.2.2.2.2.2.2.2.1.2.2.2.2 x25.2.2.2.2.2.2.2.2).1 = true := play_right hrr
    have hep : rr.ep ≤ (play rr x25.1 x25.2.1 x25.2.2.1.1 x25.2.2.1.2 x25.2.2.2.1.1 x25.2.2.2.1.2 x25.2.2.2.2.1 x25.2.2.2.2.2.1 x25.2.2.2.2.2.2.1 x25.2.2.2.2.2.2.2.1.1 x25.2.2.2.2.2.2.2.1.2.1 x25.2.2.2.2.2.2.2.1.2.2.2.1 x25.2.2.2.2.2.2.2.1.2.2.2.2 x25.2.2.2.2.2.2.2.2).1.ep := play_ep
    have hid2 : (play rr x25.1 x25.2.1 x25.2.2.1.1 x25.2.2.1.2 x25.2.2.2.1.1 x25.2.2.2.1.2 x25.2.2.2.2.1 x25.2.2.2.2.2.1 x25.2.2.2.2.2.2.1 x25.2.2.2.2.2.2.2.1.1 x25.2.2.2.2.2.2.2.1.2.1 x25.2.2.2.2.2.2.2.1.2.2.2.1 x25.2.2.2.2.2.2.2.1.2.2.2.2 x25.2.2.2.2.2.2.2.2).1.id = id := play_id.trans hid
    have hov : rr.st = 3 ∨ rr.st = 4 → (play rr x25.1 x25.2.1 x25.2.2.1.1 x25.2.2.1.2 x25.2.2.2.1.1 x25.2.2.2.1.2 x25.2.2.2.2.1 x25.2.2.2.2.2.1 x25.2.2.2.2.2.2.1 x25.2.2.2.2.2.2.2.1.1 x25.2.2.2.2.2.2.2.1.2.1 x25.2.2.2.2.2.2.2.1.2.2.2.1 x25.2.2.2.2.2.2.2.1.2.2.2.2 x25.2.2.2.2.2.2.2.2).1 = rr := play_over
    have her : (play rr x25.1 x25.2.1 x25.2.2.1.1 x25.2.2.1.2 x25.2.2.2.1.1 x25.2.2.2.1.2 x25.2.2.2.2.1 x25.2.2.2.2.2.1 x25.2.2.2.2.2.2.1 x25.2.2.2.2.2.2.2.1.1 x25.2.2.2.2.2.2.2.1.2.1 x25.2.2.2.2.2.2.2.1.2.2.2.1 x25.2.2.2.2.2.2.2.1.2.2.2.2 x25.2.2.2.2.2.2.2.2).2 ≠ 0 → (play rr x25.1 x25.2.1 x25.2.2.1.1 x25.2.2.1.2 x25.2.2.2.1.1 x25.2.2.2.1.2 x25.2.2.2.2.1 x25.2.2.2.2.2.1 x25.2.2.2.2.2.2.1 x25.2.2.2.2.2.2.2.1.1 x25.2.2.2.2.2.2.2.1.2.1 x25.2.2.2.2.2.2.2.1.2.2.2.1 x25.2.2.2.2.2.2.2.1.2.2.2.2 x25.2.2.2.2.2.2.2.2).1 = rr := play_err
    have hnk := (rB_len hnr).2
    generalize play rr x25.1 x25.2.1 x25.2.2.1.1 x25.2.2.1.2 x25.2.2.2.1.1 x25.2.2.2.1.2 x25.2.2.2.2.1 x25.2.2.2.2.2.1 x25.2.2.2.2.2.2.1 x25.2.2.2.2.2.2.2.1.1 x25.2.2.2.2.2.2.2.1.2.1 x25.2.2.2.2.2.2.2.1.2.2.2.1 x25.2.2.2.2.2.2.2.1.2.2.2.2 x25.2.2.2.2.2.2.2.2 = pv at F58 Fk61 hnr hep hid2 hov her hnk ⊢
    refine V.region ?_
    refine V.run T_ok 3 rfl ?_
    refine V.split (j := 2) (t := 50) rfl rfl (fun g11_2 => ?_) (fun g11_2 => ?_)
    ·
     try replace g11_2 := V.dec g11_2
     try simp only [V.mk0, V.mk1, V.mk2, V.mk3] at g11_2
     refine V.yes rfl rfl rfl ?_
     refine V.loadO T_ok Fk61 rfl rfl rfl rfl rfl ?_
     refine V.yes rfl rfl rfl ?_
     refine V.loadO T_ok Fk34 rfl rfl rfl rfl rfl ?_
     refine V.yes rfl rfl rfl ?_
     refine V.call (same_spec (d := pv.1) (x := rr) F58 (fun k hk => by first | omega | (have := hD k hk; omega)) rF8 (fun k hk => by have := hk.2; omega)) rfl rfl rfl ?_
     rintro _ w67_ ⟨rfl, G73⟩
     have z74 := V.Fr.size G73
     try replace F_s := F_s.gr G73
     try replace rFk8 := rFk8.gr G73
     try replace rF8 := rF8.gr G73
     try replace F28 := F28.gr G73
     try replace Fk34 := Fk34.gr G73
     try replace F54 := F54.gr G73
     try replace F58 := F58.gr G73
     try replace Fk61 := Fk61.gr G73
     replace HG := HG.grow G73
     clear G73
     refine V.run T_ok 2 rfl ?_
     refine V.nil ?_
     refine V.tN ?_
     refine V.condN rfl (by (first | rfl | (rw [her (by assumption), sameR_self]; rfl))) ?_
     refine V.skip ?_
     refine V.tN ?_
     refine V.seq ?_
     refine V.region ?_
     refine V.loadO T_ok Fk61 rfl rfl rfl rfl rfl ?_
     refine V.storeO rFk8 rfl rfl rfl rfl sz27 rfl rfl rfl rfl ?_
     rintro w75 G76 z78 Fs77
     clear rFk8
     have z79 := V.Fr.size G76
     first | replace F_s := F_s.mb G76 hD_s | clear F_s | skip
     first | replace rF8 := rF8.ma G76 | clear rF8 | skip
     first | replace F28 := F28.mb G76 hD_s | clear F28 | skip
     first | replace Fk34 := Fk34.mv1 G76 (by omega) | clear Fk34 | skip
     first | replace F54 := F54.mb G76 hD_s | clear F54 | skip
     first | replace F58 := F58.ma G76 | clear F58 | skip
     first | replace Fk61 := Fk61.mv1 G76 (by omega) | clear Fk61 | skip
     replace HG := HG.n1 G76
     clear G76
     have rFk8 := Fs77; clear Fs77
     simp only [V.spliceL, V.cellsL] at rFk8
     refine V.nil ?_
     refine V.tN ?_
     refine V.seq ?_
     refine V.region ?_
     refine V.run T_ok 1 rfl ?_
     refine V.loadO T_ok Fk34 rfl rfl rfl rfl rfl ?_
     refine V.run T_ok 2 rfl ?_
     refine V.split (j := 3) (t := 60) rfl rfl (fun g14_3 => ?_) (fun g14_3 => ?_)
     ·
      try replace g14_3 := V.dec g14_3
      try simp only [V.mk0, V.mk1, V.mk2, V.mk3] at g14_3
      refine V.run T_ok 5 rfl ?_
      refine V.nil ?_
      refine V.tN ?_
      refine V.seq ?_
      refine V.region ?_
      refine V.run T_ok 2 rfl ?_
      refine V.yes rfl rfl rfl ?_
      refine V.loadO T_ok rFk8 rfl rfl rfl rfl rfl ?_
      refine V.yes rfl rfl rfl ?_
      refine V.loadO T_ok Fk34 rfl rfl rfl rfl rfl ?_
      refine V.yes rfl rfl rfl ?_
      refine V.call (same_spec (d := pv.1) (x := rr) F58 (fun k hk => by first | omega | (have := hD k hk; omega)) rF8 (fun k hk => by have := hk.2; omega)) rfl rfl rfl ?_
      rintro _ w75_ ⟨rfl, G81⟩
      have z82 := V.Fr.size G81
      try replace F_s := F_s.gr G81
      try replace rF8 := rF8.gr G81
      try replace F28 := F28.gr G81
      try replace Fk34 := Fk34.gr G81
      try replace F54 := F54.gr G81
      try replace F58 := F58.gr G81
      try replace Fk61 := Fk61.gr G81
      try replace rFk8 := rFk8.gr G81
      replace HG := HG.grow G81
      clear G81
      refine V.run T_ok 3 rfl ?_
      refine V.splitF (j := 7) (t := 72) rfl rfl (by (first | rfl | (rw [hov (by first | assumption | exact .inl (by assumption) | exact .inr (by assumption)), sameR_self]; rfl))) ?_
      refine V.run T_ok 1 rfl ?_
      refine V.yes rfl rfl rfl ?_
      refine V.loadO T_ok rFk8 rfl rfl rfl rfl rfl ?_
      refine V.run T_ok 1 rfl ?_
      refine V.yes rfl rfl rfl ?_
      refine V.loadO T_ok Fk34 rfl rfl rfl rfl rfl ?_
      refine V.run T_ok 3 rfl ?_
      refine V.splitF (j := 14) (t := 79) rfl rfl (by (apply decide_eq_false; omega)) ?_
      refine V.run T_ok 1 rfl ?_
      refine V.yes rfl rfl rfl ?_
      refine V.loadO T_ok rFk8 rfl rfl rfl rfl rfl ?_
      refine V.run T_ok 4 rfl ?_
      refine V.splitF (j := 20) (t := 85) rfl rfl (by (apply decide_eq_false; omega)) ?_
      refine V.yes rfl rfl rfl ?_
      refine V.loadO T_ok rFk8 rfl rfl rfl rfl rfl ?_
      refine V.yes rfl rfl rfl ?_
      refine V.call (recR_spec (d := pv.1) F58 (fun k hk => by first | omega | (have := hD k hk; omega)) (by first | assumption | (unfold keysOk; decide))) rfl rfl rfl ?_
      rintro _ w83 ⟨rfl, G84⟩
      have z85 := V.Fr.size G84
      try replace F_s := F_s.gr G84
      try replace rF8 := rF8.gr G84
      try replace F28 := F28.gr G84
      try replace Fk34 := Fk34.gr G84
      try replace F54 := F54.gr G84
      try replace F58 := F58.gr G84
      try replace Fk61 := Fk61.gr G84
      try replace rFk8 := rFk8.gr G84
      replace HG := HG.grow G84
      clear G84
      refine V.run T_ok 2 rfl ?_
      refine V.nil ?_
      refine V.tN ?_
      refine V.condN rfl (by (rw [hnr]; rfl)) ?_
      refine V.skip ?_
      refine V.bN ?_
      refine V.tN ?_
      refine V.region ?_
      refine V.run T_ok 1 rfl ?_
      refine V.addN rfl rfl rfl rfl rfl (by first | omega | (simp only [List.length_take, List.length_drop, List.length_append, List.length_cons, List.length_nil, List.length_replicate, List.length_set, V.length_data, V.S_size]; omega)) (by first | omega | (simp only [List.length_take, List.length_drop, List.length_append, List.length_cons, List.length_nil, List.length_replicate, List.length_set, V.length_data, V.S_size]; omega)) ?_
      refine V.run T_ok 1 rfl ?_
      refine V.nil ?_
      refine V.tN ?_
      exact ⟨_, (by omega), HG, (by omega), F_s, (i + 1), (pv.1), _, _, rfl, (by omega), (by omega), (by first | exact hrr | exact hnr), (by first | exact hid | exact hid2), rFk8, F58.re, rfl, rfl, rfl, rfl⟩
     ·
      try replace g14_3 := V.dec g14_3
      try simp only [V.mk0, V.mk1, V.mk2, V.mk3] at g14_3
      refine V.run T_ok 1 rfl ?_
      refine V.yes rfl rfl rfl ?_
      refine V.loadO T_ok Fk34 rfl rfl rfl rfl rfl ?_
      refine V.run T_ok 3 rfl ?_
      refine V.nil ?_
      refine V.tN ?_
      refine V.seq ?_
      refine V.region ?_
      refine V.run T_ok 2 rfl ?_
      refine V.split (j := 1) (t := 66) rfl rfl (fun g15_1 => ?_) (fun g15_1 => ?_)
      ·
       try replace g15_1 := V.dec g15_1
       try simp only [V.mk0, V.mk1, V.mk2, V.mk3] at g15_1
       refine V.yes rfl rfl rfl ?_
       refine V.loadO T_ok rFk8 rfl rfl rfl rfl rfl ?_
       refine V.yes rfl rfl rfl ?_
       refine V.loadO T_ok Fk34 rfl rfl rfl rfl rfl ?_
       refine V.yes rfl rfl rfl ?_
       refine V.call (same_spec (d := pv.1) (x := rr) F58 (fun k hk => by first | omega | (have := hD k hk; omega)) rF8 (fun k hk => by have := hk.2; omega)) rfl rfl rfl ?_
       rintro _ w75_ ⟨rfl, G87⟩
       have z88 := V.Fr.size G87
       try replace F_s := F_s.gr G87
       try replace rF8 := rF8.gr G87
       try replace F28 := F28.gr G87
       try replace Fk34 := Fk34.gr G87
       try replace F54 := F54.gr G87
       try replace F58 := F58.gr G87
       try replace Fk61 := Fk61.gr G87
       try replace rFk8 := rFk8.gr G87
       replace HG := HG.grow G87
       clear G87
       refine V.run T_ok 3 rfl ?_
       refine V.splitF (j := 7) (t := 72) rfl rfl (by (first | rfl | (rw [hov (by first | assumption | exact .inl (by assumption) | exact .inr (by assumption)), sameR_self]; rfl))) ?_
       refine V.run T_ok 1 rfl ?_
       refine V.yes rfl rfl rfl ?_
       refine V.loadO T_ok rFk8 rfl rfl rfl rfl rfl ?_
       refine V.run T_ok 1 rfl ?_
       refine V.yes rfl rfl rfl ?_
       refine V.loadO T_ok Fk34 rfl rfl rfl rfl rfl ?_
       refine V.run T_ok 3 rfl ?_
       refine V.splitF (j := 14) (t := 79) rfl rfl (by (apply decide_eq_false; omega)) ?_
       refine V.run T_ok 1 rfl ?_
       refine V.yes rfl rfl rfl ?_
       refine V.loadO T_ok rFk8 rfl rfl rfl rfl rfl ?_
       refine V.run T_ok 4 rfl ?_
       refine V.splitF (j := 20) (t := 85) rfl rfl (by (apply decide_eq_false; omega)) ?_
       refine V.yes rfl rfl rfl ?_
       refine V.loadO T_ok rFk8 rfl rfl rfl rfl rfl ?_
       refine V.yes rfl rfl rfl ?_
       refine V.call (recR_spec (d := pv.1) F58 (fun k hk => by first | omega | (have := hD k hk; omega)) (by first | assumption | (unfold keysOk; decide))) rfl rfl rfl ?_
       rintro _ w89 ⟨rfl, G90⟩
       have z91 := V.Fr.size G90
       try replace F_s := F_s.gr G90
       try replace rF8 := rF8.gr G90
       try replace F28 := F28.gr G90
       try replace Fk34 := Fk34.gr G90
       try replace F54 := F54.gr G90
       try replace F58 := F58.gr G90
       try replace Fk61 := Fk61.gr G90
       try replace rFk8 := rFk8.gr G90
       replace HG := HG.grow G90
       clear G90
       refine V.run T_ok 2 rfl ?_
       refine V.nil ?_
       refine V.tN ?_
       refine V.condN rfl (by (rw [hnr]; rfl)) ?_
       refine V.skip ?_
       refine V.bN ?_
       refine V.tN ?_
       refine V.region ?_
       refine V.run T_ok 1 rfl ?_
       refine V.addN rfl rfl rfl rfl rfl (by first | omega | (simp only [List.length_take, List.length_drop, List.length_append, List.length_cons, List.length_nil, List.length_replicate, List.length_set, V.length_data, V.S_size]; omega)) (by first | omega | (simp only [List.length_take, List.length_drop, List.length_append, List.length_cons, List.length_nil, List.length_replicate, List.length_set, V.length_data, V.S_size]; omega)) ?_
       refine V.run T_ok 1 rfl ?_
       refine V.nil ?_
       refine V.tN ?_
       exact ⟨_, (by omega), HG, (by omega), F_s, (i + 1), (pv.1), _, _, rfl, (by omega), (by omega), (by first | exact hrr | exact hnr), (by first | exact hid | exact hid2), rFk8, F58.re, rfl, rfl, rfl, rfl⟩
      ·
       try replace g15_1 := V.dec g15_1
       try simp only [V.mk0, V.mk1, V.mk2, V.mk3] at g15_1
       refine V.run T_ok 7 rfl ?_
       refine V.yes rfl rfl rfl ?_
       refine V.loadO T_ok rFk8 rfl rfl rfl rfl rfl ?_
       refine V.run T_ok 1 rfl ?_
       refine V.yes rfl rfl rfl ?_
       refine V.loadO T_ok Fk34 rfl rfl rfl rfl rfl ?_
       refine V.run T_ok 3 rfl ?_
       refine V.splitF (j := 14) (t := 79) rfl rfl (by (apply decide_eq_false; omega)) ?_
       refine V.run T_ok 1 rfl ?_
       refine V.yes rfl rfl rfl ?_
       refine V.loadO T_ok rFk8 rfl rfl rfl rfl rfl ?_
       refine V.run T_ok 4 rfl ?_
       refine V.splitF (j := 20) (t := 85) rfl rfl (by (apply decide_eq_false; omega)) ?_
       refine V.yes rfl rfl rfl ?_
       refine V.loadO T_ok rFk8 rfl rfl rfl rfl rfl ?_
       refine V.yes rfl rfl rfl ?_
       refine V.call (recR_spec (d := pv.1) F58 (fun k hk => by first | omega | (have := hD k hk; omega)) (by first | assumption | (unfold keysOk; decide))) rfl rfl rfl ?_
       rintro _ w92 ⟨rfl, G93⟩
       have z94 := V.Fr.size G93
       try replace F_s := F_s.gr G93
       try replace rF8 := rF8.gr G93
       try replace F28 := F28.gr G93
       try replace Fk34 := Fk34.gr G93
       try replace F54 := F54.gr G93
       try replace F58 := F58.gr G93
       try replace Fk61 := Fk61.gr G93
       try replace rFk8 := rFk8.gr G93
       replace HG := HG.grow G93
       clear G93
       refine V.run T_ok 2 rfl ?_
       refine V.nil ?_
       refine V.tN ?_
       refine V.condN rfl (by (rw [hnr]; rfl)) ?_
       refine V.skip ?_
       refine V.bN ?_
       refine V.tN ?_
       refine V.region ?_
       refine V.run T_ok 1 rfl ?_
       refine V.addN rfl rfl rfl rfl rfl (by first | omega | (simp only [List.length_take, List.length_drop, List.length_append, List.length_cons, List.length_nil, List.length_replicate, List.length_set, V.length_data, V.S_size]; omega)) (by first | omega | (simp only [List.length_take, List.length_drop, List.length_append, List.length_cons, List.length_nil, List.length_replicate, List.length_set, V.length_data, V.S_size]; omega)) ?_
       refine V.run T_ok 1 rfl ?_
       refine V.nil ?_
       refine V.tN ?_
       exact ⟨_, (by omega), HG, (by omega), F_s, (i + 1), (pv.1), _, _, rfl, (by omega), (by omega), (by first | exact hrr | exact hnr), (by first | exact hid | exact hid2), rFk8, F58.re, rfl, rfl, rfl, rfl⟩
    ·
     try replace g11_2 := V.dec g11_2
     try simp only [V.mk0, V.mk1, V.mk2, V.mk3] at g11_2
     refine V.run T_ok 5 rfl ?_
     refine V.nil ?_
     refine V.tN ?_
     refine V.condN rfl (by (first | rfl | (rw [her (by assumption), sameR_self]; rfl))) ?_
     refine V.skip ?_
     refine V.tN ?_
     refine V.seq ?_
     refine V.region ?_
     refine V.loadO T_ok Fk61 rfl rfl rfl rfl rfl ?_
     refine V.storeO rFk8 rfl rfl rfl rfl sz27 rfl rfl rfl rfl ?_
     rintro w95 G96 z98 Fs97
     clear rFk8
     have z99 := V.Fr.size G96
     first | replace F_s := F_s.mb G96 hD_s | clear F_s | skip
     first | replace rF8 := rF8.ma G96 | clear rF8 | skip
     first | replace F28 := F28.mb G96 hD_s | clear F28 | skip
     first | replace Fk34 := Fk34.mv1 G96 (by omega) | clear Fk34 | skip
     first | replace F54 := F54.mb G96 hD_s | clear F54 | skip
     first | replace F58 := F58.ma G96 | clear F58 | skip
     first | replace Fk61 := Fk61.mv1 G96 (by omega) | clear Fk61 | skip
     replace HG := HG.n1 G96
     clear G96
     have rFk8 := Fs97; clear Fs97
     simp only [V.spliceL, V.cellsL] at rFk8
     refine V.nil ?_
     refine V.tN ?_
     refine V.seq ?_
     refine V.region ?_
     refine V.run T_ok 1 rfl ?_
     refine V.loadO T_ok Fk34 rfl rfl rfl rfl rfl ?_
     refine V.run T_ok 2 rfl ?_
     refine V.split (j := 3) (t := 60) rfl rfl (fun g14_3 => ?_) (fun g14_3 => ?_)
     ·
      try replace g14_3 := V.dec g14_3
      try simp only [V.mk0, V.mk1, V.mk2, V.mk3] at g14_3
      refine V.run T_ok 5 rfl ?_
      refine V.nil ?_
      refine V.tN ?_
      refine V.seq ?_
      refine V.region ?_
      refine V.run T_ok 2 rfl ?_
      refine V.yes rfl rfl rfl ?_
      refine V.loadO T_ok rFk8 rfl rfl rfl rfl rfl ?_
      refine V.yes rfl rfl rfl ?_
      refine V.loadO T_ok Fk34 rfl rfl rfl rfl rfl ?_
      refine V.yes rfl rfl rfl ?_
      refine V.call (same_spec (d := pv.1) (x := rr) F58 (fun k hk => by first | omega | (have := hD k hk; omega)) rF8 (fun k hk => by have := hk.2; omega)) rfl rfl rfl ?_
      rintro _ w95_ ⟨rfl, G101⟩
      have z102 := V.Fr.size G101
      try replace F_s := F_s.gr G101
      try replace rF8 := rF8.gr G101
      try replace F28 := F28.gr G101
      try replace Fk34 := Fk34.gr G101
      try replace F54 := F54.gr G101
      try replace F58 := F58.gr G101
      try replace Fk61 := Fk61.gr G101
      try replace rFk8 := rFk8.gr G101
      replace HG := HG.grow G101
      clear G101
      refine V.run T_ok 3 rfl ?_
      refine V.splitF (j := 7) (t := 72) rfl rfl (by (first | rfl | (rw [hov (by first | assumption | exact .inl (by assumption) | exact .inr (by assumption)), sameR_self]; rfl))) ?_
      refine V.run T_ok 1 rfl ?_
      refine V.yes rfl rfl rfl ?_
      refine V.loadO T_ok rFk8 rfl rfl rfl rfl rfl ?_
      refine V.run T_ok 1 rfl ?_
      refine V.yes rfl rfl rfl ?_
      refine V.loadO T_ok Fk34 rfl rfl rfl rfl rfl ?_
      refine V.run T_ok 3 rfl ?_
      refine V.splitF (j := 14) (t := 79) rfl rfl (by (apply decide_eq_false; omega)) ?_
      refine V.run T_ok 1 rfl ?_
      refine V.yes rfl rfl rfl ?_
      refine V.loadO T_ok rFk8 rfl rfl rfl rfl rfl ?_
      refine V.run T_ok 4 rfl ?_
      refine V.splitF (j := 20) (t := 85) rfl rfl (by (apply decide_eq_false; omega)) ?_
      refine V.yes rfl rfl rfl ?_
      refine V.loadO T_ok rFk8 rfl rfl rfl rfl rfl ?_
      refine V.yes rfl rfl rfl ?_
      refine V.call (recR_spec (d := pv.1) F58 (fun k hk => by first | omega | (have := hD k hk; omega)) (by first | assumption | (unfold keysOk; decide))) rfl rfl rfl ?_
      rintro _ w103 ⟨rfl, G104⟩
      have z105 := V.Fr.size G104
      try replace F_s := F_s.gr G104
      try replace rF8 := rF8.gr G104
      try replace F28 := F28.gr G104
      try replace Fk34 := Fk34.gr G104
      try replace F54 := F54.gr G104
      try replace F58 := F58.gr G104
      try replace Fk61 := Fk61.gr G104
      try replace rFk8 := rFk8.gr G104
      replace HG := HG.grow G104
      clear G104
      refine V.run T_ok 2 rfl ?_
      refine V.nil ?_
      refine V.tN ?_
      refine V.condN rfl (by (rw [hnr]; rfl)) ?_
      refine V.skip ?_
      refine V.bN ?_
      refine V.tN ?_
      refine V.region ?_
      refine V.run T_ok 1 rfl ?_
      refine V.addN rfl rfl rfl rfl rfl (by first | omega | (simp only [List.length_take, List.length_drop, List.length_append, List.length_cons, List.length_nil, List.length_replicate, List.length_set, V.length_data, V.S_size]; omega)) (by first | omega | (simp only [List.length_take, List.length_drop, List.length_append, List.length_cons, List.length_nil, List.length_replicate, List.length_set, V.length_data, V.S_size]; omega)) ?_
      refine V.run T_ok 1 rfl ?_
      refine V.nil ?_
      refine V.tN ?_
      exact ⟨_, (by omega), HG, (by omega), F_s, (i + 1), (pv.1), _, _, rfl, (by omega), (by omega), (by first | exact hrr | exact hnr), (by first | exact hid | exact hid2), rFk8, F58.re, rfl, rfl, rfl, rfl⟩
     ·
      try replace g14_3 := V.dec g14_3
      try simp only [V.mk0, V.mk1, V.mk2, V.mk3] at g14_3
      refine V.run T_ok 1 rfl ?_
      refine V.yes rfl rfl rfl ?_
      refine V.loadO T_ok Fk34 rfl rfl rfl rfl rfl ?_
      refine V.run T_ok 3 rfl ?_
      refine V.nil ?_
      refine V.tN ?_
      refine V.seq ?_
      refine V.region ?_
      refine V.run T_ok 2 rfl ?_
      refine V.split (j := 1) (t := 66) rfl rfl (fun g15_1 => ?_) (fun g15_1 => ?_)
      ·
       try replace g15_1 := V.dec g15_1
       try simp only [V.mk0, V.mk1, V.mk2, V.mk3] at g15_1
       refine V.yes rfl rfl rfl ?_
       refine V.loadO T_ok rFk8 rfl rfl rfl rfl rfl ?_
       refine V.yes rfl rfl rfl ?_
       refine V.loadO T_ok Fk34 rfl rfl rfl rfl rfl ?_
       refine V.yes rfl rfl rfl ?_
       refine V.call (same_spec (d := pv.1) (x := rr) F58 (fun k hk => by first | omega | (have := hD k hk; omega)) rF8 (fun k hk => by have := hk.2; omega)) rfl rfl rfl ?_
       rintro _ w95_ ⟨rfl, G107⟩
       have z108 := V.Fr.size G107
       try replace F_s := F_s.gr G107
       try replace rF8 := rF8.gr G107
       try replace F28 := F28.gr G107
       try replace Fk34 := Fk34.gr G107
       try replace F54 := F54.gr G107
       try replace F58 := F58.gr G107
       try replace Fk61 := Fk61.gr G107
       try replace rFk8 := rFk8.gr G107
       replace HG := HG.grow G107
       clear G107
       refine V.run T_ok 3 rfl ?_
       refine V.splitF (j := 7) (t := 72) rfl rfl (by (first | rfl | (rw [hov (by first | assumption | exact .inl (by assumption) | exact .inr (by assumption)), sameR_self]; rfl))) ?_
       refine V.run T_ok 1 rfl ?_
       refine V.yes rfl rfl rfl ?_
       refine V.loadO T_ok rFk8 rfl rfl rfl rfl rfl ?_
       refine V.run T_ok 1 rfl ?_
       refine V.yes rfl rfl rfl ?_
       refine V.loadO T_ok Fk34 rfl rfl rfl rfl rfl ?_
       refine V.run T_ok 3 rfl ?_
       refine V.splitF (j := 14) (t := 79) rfl rfl (by (apply decide_eq_false; omega)) ?_
       refine V.run T_ok 1 rfl ?_
       refine V.yes rfl rfl rfl ?_
       refine V.loadO T_ok rFk8 rfl rfl rfl rfl rfl ?_
       refine V.run T_ok 4 rfl ?_
       refine V.splitF (j := 20) (t := 85) rfl rfl (by (apply decide_eq_false; omega)) ?_
       refine V.yes rfl rfl rfl ?_
       refine V.loadO T_ok rFk8 rfl rfl rfl rfl rfl ?_
       refine V.yes rfl rfl rfl ?_
       refine V.call (recR_spec (d := pv.1) F58 (fun k hk => by first | omega | (have := hD k hk; omega)) (by first | assumption | (unfold keysOk; decide))) rfl rfl rfl ?_
       rintro _ w109 ⟨rfl, G110⟩
       have z111 := V.Fr.size G110
       try replace F_s := F_s.gr G110
       try replace rF8 := rF8.gr G110
       try replace F28 := F28.gr G110
       try replace Fk34 := Fk34.gr G110
       try replace F54 := F54.gr G110
       try replace F58 := F58.gr G110
       try replace Fk61 := Fk61.gr G110
       try replace rFk8 := rFk8.gr G110
       replace HG := HG.grow G110
       clear G110
       refine V.run T_ok 2 rfl ?_
       refine V.nil ?_
       refine V.tN ?_
       refine V.condN rfl (by (rw [hnr]; rfl)) ?_
       refine V.skip ?_
       refine V.bN ?_
       refine V.tN ?_
       refine V.region ?_
       refine V.run T_ok 1 rfl ?_
       refine V.addN rfl rfl rfl rfl rfl (by first | omega | (simp only [List.length_take, List.length_drop, List.length_append, List.length_cons, List.length_nil, List.length_replicate, List.length_set, V.length_data, V.S_size]; omega)) (by first | omega | (simp only [List.length_take, List.length_drop, List.length_append, List.length_cons, List.length_nil, List.length_replicate, List.length_set, V.length_data, V.S_size]; omega)) ?_
       refine V.run T_ok 1 rfl ?_
       refine V.nil ?_
       refine V.tN ?_
       exact ⟨_, (by omega), HG, (by omega), F_s, (i + 1), (pv.1), _, _, rfl, (by omega), (by omega), (by first | exact hrr | exact hnr), (by first | exact hid | exact hid2), rFk8, F58.re, rfl, rfl, rfl, rfl⟩
      ·
       try replace g15_1 := V.dec g15_1
       try simp only [V.mk0, V.mk1, V.mk2, V.mk3] at g15_1
       refine V.run T_ok 7 rfl ?_
       refine V.yes rfl rfl rfl ?_
       refine V.loadO T_ok rFk8 rfl rfl rfl rfl rfl ?_
       refine V.run T_ok 1 rfl ?_
       refine V.yes rfl rfl rfl ?_
       refine V.loadO T_ok Fk34 rfl rfl rfl rfl rfl ?_
       refine V.run T_ok 3 rfl ?_
       refine V.splitF (j := 14) (t := 79) rfl rfl (by (apply decide_eq_false; omega)) ?_
       refine V.run T_ok 1 rfl ?_
       refine V.yes rfl rfl rfl ?_
       refine V.loadO T_ok rFk8 rfl rfl rfl rfl rfl ?_
       refine V.run T_ok 4 rfl ?_
       refine V.splitF (j := 20) (t := 85) rfl rfl (by (apply decide_eq_false; omega)) ?_
       refine V.yes rfl rfl rfl ?_
       refine V.loadO T_ok rFk8 rfl rfl rfl rfl rfl ?_
       refine V.yes rfl rfl rfl ?_
       refine V.call (recR_spec (d := pv.1) F58 (fun k hk => by first | omega | (have := hD k hk; omega)) (by first | assumption | (unfold keysOk; decide))) rfl rfl rfl ?_
       rintro _ w112 ⟨rfl, G113⟩
       have z114 := V.Fr.size G113
       try replace F_s := F_s.gr G113
       try replace rF8 := rF8.gr G113
       try replace F28 := F28.gr G113
       try replace Fk34 := Fk34.gr G113
       try replace F54 := F54.gr G113
       try replace F58 := F58.gr G113
       try replace Fk61 := Fk61.gr G113
       try replace rFk8 := rFk8.gr G113
       replace HG := HG.grow G113
       clear G113
       refine V.run T_ok 2 rfl ?_
       refine V.nil ?_
       refine V.tN ?_
       refine V.condN rfl (by (rw [hnr]; rfl)) ?_
       refine V.skip ?_
       refine V.bN ?_
       refine V.tN ?_
       refine V.region ?_
       refine V.run T_ok 1 rfl ?_
       refine V.addN rfl rfl rfl rfl rfl (by first | omega | (simp only [List.length_take, List.length_drop, List.length_append, List.length_cons, List.length_nil, List.length_replicate, List.length_set, V.length_data, V.S_size]; omega)) (by first | omega | (simp only [List.length_take, List.length_drop, List.length_append, List.length_cons, List.length_nil, List.length_replicate, List.length_set, V.length_data, V.S_size]; omega)) ?_
       refine V.run T_ok 1 rfl ?_
       refine V.nil ?_
       refine V.tN ?_
       exact ⟨_, (by omega), HG, (by omega), F_s, (i + 1), (pv.1), _, _, rfl, (by omega), (by omega), (by first | exact hrr | exact hnr), (by first | exact hid | exact hid2), rFk8, F58.re, rfl, rfl, rfl, rfl⟩
  ·
   try replace h5 := V.dec h5
   try simp only [V.mk0, V.mk1, V.mk2, V.mk3] at h5
   refine V.exit ?_
   refine V.tX ?_
   refine V.tX ?_
   refine V.bE ?_
   refine V.tN ?_
   refine V.seq ?_
   refine V.region ?_
   refine V.call (alive_spec) rfl rfl rfl ?_
   rintro _ w115 ⟨rfl, G116⟩
   have z117 := V.Fr.size G116
   try replace F_s := F_s.gr G116
   try replace rFk8 := rFk8.gr G116
   try replace rF8 := rF8.gr G116
   replace HG := HG.grow G116
   clear G116
   refine V.run T_ok 1 rfl ?_
   refine V.nil ?_
   refine V.tN ?_
   refine V.ret ?_
   refine V.done rfl ?_
   exact ⟨(by first | rfl | simp only [List.length_set]), HG⟩

end Go.Proofs.Ytaokenlcjkomhaa
