/- Proved here: walks: what functions of this seat's program return and what they leave of memory, each as a contract. Conditions: stated at each theorem. -/
import Derived.Test.YtaokenlcjkomhaaMlr2
namespace Go.Proofs.Ytaokenlcjkomhaa
set_option linter.unusedVariables false
set_option linter.unusedSimpArgs false
open Go
open V (Bytes Meets Env Sl Own Gr Fr Cells S)
section
variable {d : RecV} {ki ep aw al nw nl mi me sw sl pr : Int} {ws : List (ByteArray × Int)} {co sg : Bool}
/-- what becomes of a staged record -/
def stagedOk (d P : RecV) (ki ep aw al : Int) (co sg : Bool) : Prop :=
  (P.st = 4 → ki = 3 ∧ sg = true ∧ co = false ∧ ep = d.ep ∧ aw = d.aw ∧ al = d.al) ∧ (P.st = 3 → ki = 3 ∧ co = true ∧ P.aw = d.aw ∧ P.al = d.al ∧ P.ep = d.ep) ∧
  (P.st = 2 → P.ep = d.ep → d.aw < P.aw ∨ P.aw = d.aw ∧ d.al ≤ P.al) ∧ (¬ P.st = 4 → ¬ P.st = 3 → ¬ P.st = 2 → d.ep < P.ep ∧ P.st = 1)
theorem stagedOk_self (h : d.st = 2) : stagedOk d d ki ep aw al co sg := ⟨fun h1 => by omega, fun h1 => by omega, fun _ _ => by omega, fun _ _ h1 => absurd h h1⟩
theorem beat_staged (h : d.st = 2) : stagedOk d (rBeat d ep nw nl).1 ki ep aw al co sg := by
  simp only [rBeat]
  split; exact stagedOk_self h
  split; exact stagedOk_self h
  split; exact stagedOk_self h
  split; exact stagedOk_self h
  split
  · exact ⟨fun h1 => by simp at h1, fun h1 => by simp at h1, fun h1 => by simp at h1, fun _ _ _ => ⟨by simp only; omega, rfl⟩⟩
  · exact ⟨fun h1 => by simp only at h1; omega, fun h1 => by simp only at h1; omega, fun _ _ => .inr ⟨rfl, Int.le_refl _⟩, fun _ _ h1 => absurd h h1⟩
theorem stage_staged (h : d.st = 2) : stagedOk d (rStage d ep aw al nw nl ws).1 ki ep aw al co sg := by
  simp only [rStage]
  split; exact stagedOk_self h
  split; exact stagedOk_self h
  split; exact stagedOk_self h
  split; exact stagedOk_self h
  exact ⟨fun h1 => by simp at h1, fun h1 => by simp at h1, fun _ h2 => by simp only at h2 ⊢; omega, fun _ _ h1 => absurd rfl h1⟩
theorem decR_staged (hk : ki = 3) (h2 : ep = d.ep) (h3 : aw = d.aw ∧ al = d.al) (hs : co = true ∨ sg = true) : stagedOk d (decR d ep aw al co) ki ep aw al co sg := by
  simp only [decR]
  split
  · rename_i hc
    exact ⟨fun h1 => by simp at h1, fun _ => ⟨hk, hc, h3.1, h3.2, h2⟩, fun h1 => by simp at h1, fun _ h1 => absurd rfl h1⟩
  · rename_i hc
    refine ⟨fun _ => ⟨hk, ?_, by simpa using hc, h2, h3.1, h3.2⟩, fun h1 => by simp at h1, fun h1 => by simp at h1, fun h1 => absurd rfl h1⟩
    rcases hs with h4 | h4
    · exact absurd h4 hc
    · exact h4
theorem finish_staged (h : d.st = 2) (hk : ki = 3) : stagedOk d (rFinish d ep aw al co sg).1 ki ep aw al co sg := by
  simp only [rFinish]
  split; exact stagedOk_self h
  split
  · rename_i hs
    simp only [rRecov]
    split; exact stagedOk_self h
    split; exact stagedOk_self h
    rename_i hc
    exact decR_staged hk (by omega) (by omega) (.inr hs)
  split; exact stagedOk_self h
  split; exact stagedOk_self h
  split; exact stagedOk_self h
  split; exact stagedOk_self h
  rename_i hc
  have h5 : co = true := by cases hco : co with
    | true => rfl
    | false => exact absurd ⟨h, .inl hco⟩ hc
  have h6 : ¬ d.ep < ep ∧ (aw = d.aw ∧ al = d.al) := by
    refine ⟨fun h7 => hc ⟨h, .inr (.inl h7)⟩, ?_⟩
    by_cases h7 : d.aw = aw ∧ d.al = al
    · exact ⟨h7.1.symm, h7.2.symm⟩
    · exact absurd ⟨h, .inr (.inr h7)⟩ hc
  exact decR_staged hk (by omega) h6.2 (.inl h5)
theorem push_staged (h : d.st = 2) : stagedOk d (rPush d mi me sw sl nw nl pr).1 ki ep aw al co sg := by
  simp only [rPush, if_pos h]
  (repeat' split) <;> exact stagedOk_self h
theorem play_staged (h : d.st = 2) : stagedOk d (play d ki ep aw al nw nl ws co sg mi me sw sl pr).1 ki ep aw al co sg := by
  simp only [play]
  split; exact beat_staged h
  split; exact stage_staged h
  split
  · exact finish_staged h (by assumption)
  · exact push_staged h
end

set_option maxHeartbeats 4000000 in
set_option maxRecDepth 10000 in
theorem recordStaged_walk {w : World}  {id : Int} {D_s : Nat → Prop} {c_s : Nat} {a_s : Option Addr} {s : List (Int × Int × (Int × Int) × (Int × Int) × List (ByteArray × Int) × Bool × Bool × (Int × Int × ByteArray × Int × Int) × Int)} (F_s : Sl (V.Cod.pair (V.Cod.int .i64) (V.Cod.pair (V.Cod.int .i64) (V.Cod.pair (V.Cod.pair (V.Cod.int .i64) (V.Cod.int .i64)) (V.Cod.pair (V.Cod.pair (V.Cod.int .i64) (V.Cod.int .i64)) (V.Cod.pair V.Cod.write.sl (V.Cod.pair V.Cod.bool (V.Cod.pair V.Cod.bool (V.Cod.pair (V.Cod.pair (V.Cod.int .i64) (V.Cod.pair (V.Cod.int .i64) (V.Cod.pair V.Cod.str (V.Cod.pair (V.Cod.int .i64) (V.Cod.int .i64))))) (V.Cod.int .i64))))))))) w D_s a_s c_s s) (hD_s : ∀ k, D_s k → k < w.heap.size)  :
    Meets Try.prog 4 [.int .i64 id, .slice a_s s.length c_s] w fun r w' => r = .bool true ∧ Gr w w' := by
 have HG := V.Fr.refl [] w
 refine V.enter (n := 149) Try.func4 rfl rfl (by decide) rfl ?_
 refine V.seq ?_
 refine V.region ?_
 refine V.run T_ok 1 rfl ?_
 refine V.nil ?_
 refine V.tN ?_
 refine V.seq ?_
 refine V.seq ?_
 refine V.region ?_
 refine V.run T_ok 3 rfl ?_
 refine V.orG T_ok 2 2 13 rfl rfl rfl rfl rfl rfl rfl rfl ?_
 refine V.nil ?_
 refine V.tN ?_
 refine V.condT rfl (fun h1 => ?_) (fun h1 => ?_)
 ·
  try replace h1 := V.dec h1
  try simp only [V.mk0, V.mk1, V.mk2, V.mk3] at h1
  refine V.seq ?_
  refine V.region ?_
  refine V.call (alive_spec) rfl rfl rfl ?_
  rintro _ w1 ⟨rfl, G2⟩
  have z3 := V.Fr.size G2
  try replace F_s := F_s.gr G2
  replace HG := HG.grow G2
  clear G2
  refine V.run T_ok 1 rfl ?_
  refine V.nil ?_
  refine V.tN ?_
  refine V.ret ?_
  refine V.tR ?_
  refine V.done rfl ?_
  exact ⟨(by first | rfl | simp only [List.length_set]), HG⟩
 ·
  try replace h1 := V.dec h1
  try simp only [V.mk0, V.mk1, V.mk2, V.mk3] at h1
  refine V.skip ?_
  refine V.tN ?_
  refine V.seq ?_
  refine V.region ?_
  refine V.run T_ok 1 rfl ?_
  refine V.mkStruct T_ok zero27 rfl rfl rfl rfl rfl ?_
  refine V.alloc zero27 rfl rfl rfl ?_
  rintro k4 w6 s8 s9 G7 Fk5
  have z10 := V.Fr.size G7
  try replace F_s := F_s.gr G7
  replace HG := HG.grow G7
  clear G7
  try simp only [V.cellsL, V.spliceL] at Fk5
  refine V.storeO Fk5 rfl rfl rfl rfl sz27 rfl rfl rfl rfl ?_
  rintro w11 G12 z14 Fs13
  clear Fk5
  have z15 := V.Fr.size G12
  first | replace F_s := F_s.mb G12 hD_s | clear F_s | skip
  replace HG := HG.n1 G12
  clear G12
  have Fk5 := Fs13; clear Fs13
  simp only [V.spliceL, V.cellsL] at Fk5
  refine V.nil ?_
  refine V.tN ?_
  refine V.seq ?_
  refine V.seq ?_
  refine V.region ?_
  refine V.run T_ok 1 rfl ?_
  refine V.nil ?_
  refine V.tN ?_
  refine V.block ?_
  have hl63 := F_s.len63
  refine V.loopM (fun m e v17 => Fr [] w v17 ∧ w11.heap.size ≤ v17.heap.size ∧ Sl (V.Cod.pair (V.Cod.int .i64) (V.Cod.pair (V.Cod.int .i64) (V.Cod.pair (V.Cod.pair (V.Cod.int .i64) (V.Cod.int .i64)) (V.Cod.pair (V.Cod.pair (V.Cod.int .i64) (V.Cod.int .i64)) (V.Cod.pair V.Cod.write.sl (V.Cod.pair V.Cod.bool (V.Cod.pair V.Cod.bool (V.Cod.pair (V.Cod.pair (V.Cod.int .i64) (V.Cod.pair (V.Cod.int .i64) (V.Cod.pair V.Cod.str (V.Cod.pair (V.Cod.int .i64) (V.Cod.int .i64))))) (V.Cod.int .i64))))))))) v17 D_s a_s c_s s ∧ ∃ (i : Nat) (rr : RecV) (ra8 : Option Addr) (rc8 : Nat), m = s.length - i ∧ i ≤ s.length ∧ i ≤ 60 ∧ recB rr = true ∧ Cells v17 k4 [.int .i64 rr.id, .int .i64 rr.ep, .int .i64 rr.st, .int .i64 rr.aw, .int .i64 rr.al, .int .i64 rr.bw, .int .i64 rr.bl, .slice ra8 rr.ws.length rc8] 27 ∧ Sl V.Cod.write v17 (V.In w11.heap.size v17.heap.size) ra8 rc8 rr.ws ∧ e 1 = .slice a_s s.length c_s ∧ e 5 = .pointer (some ⟨k4, 0, none⟩) ∧ e 6 = .int .i64 (i : Int)) ?_ ?_
  ·
   exact ⟨_, HG, (by omega), F_s, (0), ((⟨id, 0, 0, 0, 0, 0, 0, []⟩ : RecV)), _, _, rfl, (by omega), (by omega), (rec0_right (by omega)), Fk5, (Sl.nil _ _ _ _ _ (Nat.zero_le _)), rfl, rfl, rfl⟩
  try clear Fk5
  clear HG F_s
  rintro _ e v17 ⟨HG, z18, F_s, i, rr, ra8, rc8, rfl, hi, hi2, hrr, rFk8, rF8, he0_1, he0_5, he0_6⟩
  refine V.knownC (t := 1) he0_1 ?_
  refine V.knownC (t := 5) he0_5 ?_
  refine V.knownC (t := 6) he0_6 ?_
  refine V.seq ?_
  refine V.seq ?_
  refine V.region ?_
  refine V.run T_ok 5 rfl ?_
  refine V.andG T_ok 2 4 24 rfl rfl rfl rfl rfl rfl rfl rfl ?_
  refine V.nil ?_
  refine V.tN ?_
  refine V.condT rfl (fun h5 => ?_) (fun h5 => ?_)
  ·
   try replace h5 := V.dec h5
   try simp only [V.mk0, V.mk1, V.mk2, V.mk3] at h5
   refine V.skip ?_
   refine V.tN ?_
   refine V.seq ?_
   refine V.block ?_
   refine V.seq ?_
   refine V.region ?_
   refine V.run T_ok 2 rfl ?_
   refine V.elem T_ok F_s rfl rfl sz31 rfl rfl rfl rfl (by first | omega | (simp only [List.length_take, List.length_drop, List.length_append, List.length_cons, List.length_nil, List.length_replicate, List.length_set, V.length_data, V.S_size]; omega)) (by first | omega | (simp only [List.length_take, List.length_drop, List.length_append, List.length_cons, List.length_nil, List.length_replicate, List.length_set, V.length_data, V.S_size]; omega)) ?_
   rintro b19 o20 cs21 hx22 hb23 hR29 hA24
   obtain ⟨x25, hx25⟩ : ∃ z', s[((i : Int)).toNat] = z' := ⟨_, rfl⟩
   rw [hx25] at hR29
   obtain ⟨_, _, rfl, rfl, ⟨_, _, rfl, rfl, ⟨_, _, rfl, ⟨_, _, rfl, rfl, rfl⟩, ⟨_, _, rfl, ⟨_, _, rfl, rfl, rfl⟩, ⟨_, _, rfl, ⟨a26, c27, rfl, F28⟩, ⟨_, _, rfl, rfl, ⟨_, _, rfl, rfl, ⟨_, _, rfl, ⟨_, _, rfl, rfl, ⟨_, _, rfl, rfl, ⟨_, _, rfl, rfl, ⟨_, _, rfl, rfl, rfl⟩⟩⟩⟩, rfl⟩⟩⟩⟩⟩⟩⟩⟩ := hR29
   try simp only [Int.toNat_natCast] at hx25 hx22
   refine V.loadA T_ok (o0 := o20) (off := 0) hA24 rfl rfl rfl rfl rfl ?_
   refine V.alloc zero31 rfl rfl rfl ?_
   rintro k30 w32 s34 s35 G33 Fk31
   have z36 := V.Fr.size G33
   try replace F_s := F_s.gr G33
   try replace rFk8 := rFk8.gr G33
   try replace rF8 := rF8.gr G33
   try replace F28 := F28.gr G33
   replace HG := HG.grow G33
   clear G33
   try simp only [V.cellsL, V.spliceL] at Fk31
   refine V.storeO Fk31 rfl rfl rfl rfl sz31 rfl rfl rfl rfl ?_
   rintro w37 G38 z40 Fs39
   clear Fk31
   have z41 := V.Fr.size G38
   first | replace F_s := F_s.mb G38 hD_s | clear F_s | skip
   first | replace rFk8 := rFk8.mv1 G38 (by omega) | clear rFk8 | skip
   first | replace rF8 := rF8.ma G38 | clear rF8 | skip
   first | replace F28 := F28.mb G38 hD_s | clear F28 | skip
   replace HG := HG.n1 G38
   clear G38
   have Fk31 := Fs39; clear Fs39
   simp only [V.spliceL, V.cellsL] at Fk31
   refine V.nil ?_
   refine V.tN ?_
   refine V.seq ?_
   have hrb := rB_len hrr
   refine V.region ?_
   refine V.loadO T_ok Fk31 rfl rfl rfl rfl rfl ?_
   refine V.call (fitsA_spec (ki := x25.1) (ep := x25.2.1) (aw := x25.2.2.1.1) (al := x25.2.2.1.2) (nw := x25.2.2.2.1.1) (nl := x25.2.2.2.1.2) (co := x25.2.2.2.2.2.1) (sg := x25.2.2.2.2.2.2.1) (mi := x25.2.2.2.2.2.2.2.1.1) (me := x25.2.2.2.2.2.2.2.1.2.1) (an := x25.2.2.2.2.2.2.2.1.2.2.1) (sw := x25.2.2.2.2.2.2.2.1.2.2.2.1) (sl := x25.2.2.2.2.2.2.2.1.2.2.2.2) (pr := x25.2.2.2.2.2.2.2.2) F28 (fun k hk => by have := hD_s k hk; omega)) rfl rfl rfl ?_
   rintro _ w42 ⟨rfl, G43⟩
   have z44 := V.Fr.size G43
   try replace F_s := F_s.gr G43
   try replace rFk8 := rFk8.gr G43
   try replace rF8 := rF8.gr G43
   try replace F28 := F28.gr G43
   try replace Fk31 := Fk31.gr G43
   replace HG := HG.grow G43
   clear G43
   refine V.run T_ok 1 rfl ?_
   refine V.nil ?_
   refine V.tN ?_
   refine V.seq ?_
   refine V.seq ?_
   refine V.region ?_
   refine V.run T_ok 2 rfl ?_
   refine V.nil ?_
   refine V.tN ?_
   refine V.condT rfl (fun h9 => ?_) (fun h9 => ?_)
   ·
    try replace h9 := V.dec h9
    try simp only [V.mk0, V.mk1, V.mk2, V.mk3] at h9
    refine V.exit ?_
    refine V.tX ?_
    refine V.bE ?_
    refine V.tN ?_
    refine V.region ?_
    refine V.run T_ok 1 rfl ?_
    refine V.addN rfl rfl rfl rfl rfl (by first | omega | (simp only [List.length_take, List.length_drop, List.length_append, List.length_cons, List.length_nil, List.length_replicate, List.length_set, V.length_data, V.S_size]; omega)) (by first | omega | (simp only [List.length_take, List.length_drop, List.length_append, List.length_cons, List.length_nil, List.length_replicate, List.length_set, V.length_data, V.S_size]; omega)) ?_
    refine V.run T_ok 1 rfl ?_
    refine V.nil ?_
    refine V.tN ?_
    exact ⟨_, (by omega), HG, (by omega), F_s, (i + 1), (rr), _, _, rfl, (by omega), (by omega), (by first | exact hrr | exact hnr), rFk8, rF8.re, rfl, rfl, rfl⟩
   ·
    try replace h9 := V.dec h9
    try simp only [V.mk0, V.mk1, V.mk2, V.mk3] at h9
    obtain ⟨hkw, hlw⟩ := fitsA_keys h9
    refine V.skip ?_
    refine V.tN ?_
    refine V.seq ?_
    refine V.region ?_
    refine V.loadO T_ok rFk8 rfl rfl rfl rfl rfl ?_
    refine V.alloc zero27 rfl rfl rfl ?_
    rintro k45 w47 s49 s50 G48 Fk46
    have z51 := V.Fr.size G48
    try replace F_s := F_s.gr G48
    try replace rFk8 := rFk8.gr G48
    try replace rF8 := rF8.gr G48
    try replace F28 := F28.gr G48
    try replace Fk31 := Fk31.gr G48
    replace HG := HG.grow G48
    clear G48
    try simp only [V.cellsL, V.spliceL] at Fk46
    refine V.storeO Fk46 rfl rfl rfl rfl sz27 rfl rfl rfl rfl ?_
    rintro w52 G53 z55 Fs54
    clear Fk46
    have z56 := V.Fr.size G53
    first | replace F_s := F_s.mb G53 hD_s | clear F_s | skip
    first | replace rFk8 := rFk8.mv1 G53 (by omega) | clear rFk8 | skip
    first | replace rF8 := rF8.ma G53 | clear rF8 | skip
    first | replace F28 := F28.mb G53 hD_s | clear F28 | skip
    first | replace Fk31 := Fk31.mv1 G53 (by omega) | clear Fk31 | skip
    replace HG := HG.n1 G53
    clear G53
    have Fk46 := Fs54; clear Fs54
    simp only [V.spliceL, V.cellsL] at Fk46
    refine V.nil ?_
    refine V.tN ?_
    refine V.seq ?_
    refine V.region ?_
    refine V.loadO T_ok Fk31 rfl rfl rfl rfl rfl ?_
    refine V.loadO T_ok rFk8 rfl rfl rfl rfl rfl ?_
    refine V.call (do_spec (ki := x25.1) (ep := x25.2.1) (aw := x25.2.2.1.1) (al := x25.2.2.1.2) (nw := x25.2.2.2.1.1) (nl := x25.2.2.2.1.2) (co := x25.2.2.2.2.2.1) (sg := x25.2.2.2.2.2.2.1) (mi := x25.2.2.2.2.2.2.2.1.1) (me := x25.2.2.2.2.2.2.2.1.2.1) (an := x25.2.2.2.2.2.2.2.1.2.2.1) (sw := x25.2.2.2.2.2.2.2.1.2.2.2.1) (sl := x25.2.2.2.2.2.2.2.1.2.2.2.2) (pr := x25.2.2.2.2.2.2.2.2) (d := rr) F28 (fun k hk => by have := hD_s k hk; omega) rF8 (fun k hk => by have := hk.2; omega) (by first | assumption | omega) (by first | assumption | omega) (by assumption)) rfl rfl rfl ?_
    rintro _ w60 ⟨a57, c58, rfl, F59, G61⟩
    have z62 := V.Fr.size G61
    try replace F_s := F_s.gr G61
    try replace rFk8 := rFk8.gr G61
    try replace rF8 := rF8.gr G61
    try replace F28 := F28.gr G61
    try replace Fk31 := Fk31.gr G61
    try replace Fk46 := Fk46.gr G61
    replace HG := HG.grow G61
    clear G61
    refine V.run T_ok 3 rfl ?_
    refine V.storeO rFk8 rfl rfl rfl rfl sz27 rfl rfl rfl rfl ?_
    rintro w63 G64 z66 Fs65
    clear rFk8
    have z67 := V.Fr.size G64
    first | replace F_s := F_s.mb G64 hD_s | clear F_s | skip
    first | replace rF8 := rF8.ma G64 | clear rF8 | skip
    first | replace F28 := F28.mb G64 hD_s | clear F28 | skip
    first | replace Fk31 := Fk31.mv1 G64 (by omega) | clear Fk31 | skip
    first | replace Fk46 := Fk46.mv1 G64 (by omega) | clear Fk46 | skip
    first | replace F59 := F59.ma G64 | clear F59 | skip
    replace HG := HG.n1 G64
    clear G64
    have rFk8 := Fs65; clear Fs65
    simp only [V.spliceL, V.cellsL] at rFk8
    refine V.nil ?_
    refine V.tN ?_
    refine V.seq ?_
    refine V.seq ?_
    have hnr : recB (play rr x25.1 x25.2.1 x25.2.2.1.1 x25.2.2.1.2 x25.2.2.2.1.1 x25.2.2.2.1.2 x25.2.2.2.2.1 x25.2.2.2.2.2.1 x25.2.2.2.2.2.2.1 x25.2.2.2.2.2.2.2.1.1 x25.2.2.2.2.2.2.2.1.2.1 x25.2.2.2.2.2.2.2.1.2.2.2.1 x25.2.2.2.2.2.2.2.1.2.2.2.2 x25.2.2.2.2.2.2.2.2).1 = true := play_right hrr
    have hsl : rr.st = 2 → stagedOk rr (play rr x25.1 x25.2.1 x25.2.2.1.1 x25.2.2.1.2 x25.2.2.2.1.1 x25.2.2.2.1.2 x25.2.2.2.2.1 x25.2.2.2.2.2.1 x25.2.2.2.2.2.2.1 x25.2.2.2.2.2.2.2.1.1 x25.2.2.2.2.2.2.2.1.2.1 x25.2.2.2.2.2.2.2.1.2.2.2.1 x25.2.2.2.2.2.2.2.1.2.2.2.2 x25.2.2.2.2.2.2.2.2).1 x25.1 x25.2.1 x25.2.2.1.1 x25.2.2.1.2 x25.2.2.2.2.2.1 x25.2.2.2.2.2.2.1 := play_staged
    generalize play rr x25.1 x25.2.1 x25.2.2.1.1 x25.2.2.1.2 x25.2.2.2.1.1 x25.2.2.2.1.2 x25.2.2.2.2.1 x25.2.2.2.2.2.1 x25.2.2.2.2.2.2.1 x25.2.2.2.2.2.2.2.1.1 x25.2.2.2.2.2.2.2.1.2.1 x25.2.2.2.2.2.2.2.1.2.2.2.1 x25.2.2.2.2.2.2.2.1.2.2.2.2 x25.2.2.2.2.2.2.2.2 = pv at F59 rFk8 hnr hsl ⊢
    refine V.region ?_
    refine V.run T_ok 1 rfl ?_
    refine V.loadO T_ok Fk46 rfl rfl rfl rfl rfl ?_
    refine V.run T_ok 1 rfl ?_
    refine V.nil ?_
    refine V.tN ?_
    refine V.condT rfl (fun h12 => ?_) (fun h12 => ?_)
    ·
     try replace h12 := V.dec h12
     try simp only [V.mk0, V.mk1, V.mk2, V.mk3] at h12
     refine V.exit ?_
     refine V.tX ?_
     refine V.bE ?_
     refine V.tN ?_
     refine V.region ?_
     refine V.run T_ok 1 rfl ?_
     refine V.addN rfl rfl rfl rfl rfl (by first | omega | (simp only [List.length_take, List.length_drop, List.length_append, List.length_cons, List.length_nil, List.length_replicate, List.length_set, V.length_data, V.S_size]; omega)) (by first | omega | (simp only [List.length_take, List.length_drop, List.length_append, List.length_cons, List.length_nil, List.length_replicate, List.length_set, V.length_data, V.S_size]; omega)) ?_
     refine V.run T_ok 1 rfl ?_
     refine V.nil ?_
     refine V.tN ?_
     exact ⟨_, (by omega), HG, (by omega), F_s, (i + 1), (pv.1), _, _, rfl, (by omega), (by omega), (by first | exact hrr | exact hnr), rFk8, F59.re, rfl, rfl, rfl⟩
    ·
     try replace h12 := V.dec h12
     try simp only [V.mk0, V.mk1, V.mk2, V.mk3] at h12
     obtain ⟨hs4, hs3, hs2, hs1⟩ := hsl h12
     refine V.skip ?_
     refine V.tN ?_
     refine V.seq ?_
     refine V.region ?_
     refine V.run T_ok 2 rfl ?_
     refine V.loadO T_ok rFk8 rfl rfl rfl rfl rfl ?_
     refine V.run T_ok 2 rfl ?_
     refine V.loadO T_ok Fk46 rfl rfl rfl rfl rfl ?_
     refine V.run T_ok 2 rfl ?_
     refine V.split (j := 7) (t := 55) rfl rfl (fun g13_7 => ?_) (fun g13_7 => ?_)
     ·
      try replace g13_7 := V.dec g13_7
      try simp only [V.mk0, V.mk1, V.mk2, V.mk3] at g13_7
      refine V.run T_ok 18 rfl ?_
      refine V.nil ?_
      refine V.tN ?_
      refine V.seq ?_
      refine V.region ?_
      refine V.run T_ok 1 rfl ?_
      refine V.loadO T_ok rFk8 rfl rfl rfl rfl rfl ?_
      refine V.nil ?_
      refine V.tN ?_
      refine V.block ?_
      refine V.seq ?_
      refine V.region ?_
      refine V.run T_ok 2 rfl ?_
      refine V.nil ?_
      refine V.tN ?_
      refine V.condT rfl (fun h17 => ?_) (fun h17 => ?_)
      ·
       try replace h17 := V.dec h17
       try simp only [V.mk0, V.mk1, V.mk2, V.mk3] at h17
       obtain ⟨e1, e2, e3, e4, e5, e6⟩ := hs4 h17
       refine V.seq ?_
       refine V.region ?_
       refine V.run T_ok 1 rfl ?_
       refine V.loadO T_ok Fk31 rfl rfl rfl rfl rfl ?_
       refine V.run T_ok 2 rfl ?_
       refine V.splitF (j := 3) (t := 90) rfl rfl (by (simp [e1])) ?_
       refine V.run T_ok 1 rfl ?_
       refine V.yes rfl rfl rfl ?_
       refine V.loadO T_ok Fk31 rfl rfl rfl rfl rfl ?_
       refine V.run T_ok 3 rfl ?_
       refine V.splitF (j := 8) (t := 95) rfl rfl (by (rw [e2]; rfl)) ?_
       refine V.run T_ok 1 rfl ?_
       refine V.yes rfl rfl rfl ?_
       refine V.loadO T_ok Fk31 rfl rfl rfl rfl rfl ?_
       refine V.run T_ok 2 rfl ?_
       refine V.splitF (j := 12) (t := 99) rfl rfl (by (exact e3)) ?_
       refine V.run T_ok 1 rfl ?_
       refine V.yes rfl rfl rfl ?_
       refine V.loadO T_ok Fk31 rfl rfl rfl rfl rfl ?_
       refine V.run T_ok 1 rfl ?_
       refine V.yes rfl rfl rfl ?_
       refine V.loadO T_ok Fk46 rfl rfl rfl rfl rfl ?_
       refine V.run T_ok 3 rfl ?_
       refine V.splitF (j := 19) (t := 106) rfl rfl (by (simp [e4])) ?_
       refine V.run T_ok 1 rfl ?_
       refine V.yes rfl rfl rfl ?_
       refine V.loadO T_ok Fk31 rfl rfl rfl rfl rfl ?_
       refine V.run T_ok 1 rfl ?_
       refine V.yes rfl rfl rfl ?_
       refine V.loadO T_ok Fk46 rfl rfl rfl rfl rfl ?_
       refine V.yes rfl rfl rfl ?_
       refine V.step rfl rfl (V.neA_run rfl rfl rfl eqG24 (eqS24 _)) ?_
       refine V.run T_ok 1 rfl ?_
       refine V.nil ?_
       refine V.tN ?_
       refine V.condN rfl (by (simp [e5, e6])) ?_
       refine V.skip ?_
       refine V.bN ?_
       refine V.bN ?_
       refine V.tN ?_
       refine V.region ?_
       refine V.run T_ok 1 rfl ?_
       refine V.addN rfl rfl rfl rfl rfl (by first | omega | (simp only [List.length_take, List.length_drop, List.length_append, List.length_cons, List.length_nil, List.length_replicate, List.length_set, V.length_data, V.S_size]; omega)) (by first | omega | (simp only [List.length_take, List.length_drop, List.length_append, List.length_cons, List.length_nil, List.length_replicate, List.length_set, V.length_data, V.S_size]; omega)) ?_
       refine V.run T_ok 1 rfl ?_
       refine V.nil ?_
       refine V.tN ?_
       exact ⟨_, (by omega), HG, (by omega), F_s, (i + 1), (pv.1), _, _, rfl, (by omega), (by omega), (by first | exact hrr | exact hnr), rFk8, F59.re, rfl, rfl, rfl⟩
      ·
       try replace h17 := V.dec h17
       try simp only [V.mk0, V.mk1, V.mk2, V.mk3] at h17
       refine V.seq ?_
       refine V.region ?_
       refine V.run T_ok 2 rfl ?_
       refine V.nil ?_
       refine V.tN ?_
       refine V.condT rfl (fun h20 => ?_) (fun h20 => ?_)
       ·
        try replace h20 := V.dec h20
        try simp only [V.mk0, V.mk1, V.mk2, V.mk3] at h20
        obtain ⟨e1, e2, e3, e4, e5⟩ := hs3 h20
        refine V.seq ?_
        refine V.region ?_
        refine V.run T_ok 1 rfl ?_
        refine V.loadO T_ok Fk31 rfl rfl rfl rfl rfl ?_
        refine V.run T_ok 2 rfl ?_
        refine V.splitF (j := 3) (t := 118) rfl rfl (by (simp [e1])) ?_
        refine V.run T_ok 1 rfl ?_
        refine V.yes rfl rfl rfl ?_
        refine V.loadO T_ok Fk31 rfl rfl rfl rfl rfl ?_
        refine V.run T_ok 3 rfl ?_
        refine V.splitF (j := 8) (t := 123) rfl rfl (by (rw [e2]; rfl)) ?_
        refine V.run T_ok 1 rfl ?_
        refine V.yes rfl rfl rfl ?_
        refine V.loadO T_ok rFk8 rfl rfl rfl rfl rfl ?_
        refine V.run T_ok 1 rfl ?_
        refine V.yes rfl rfl rfl ?_
        refine V.loadO T_ok Fk46 rfl rfl rfl rfl rfl ?_
        refine V.yes rfl rfl rfl ?_
        refine V.step rfl rfl (V.neA_run rfl rfl rfl eqG24 (eqS24 _)) ?_
        refine V.run T_ok 2 rfl ?_
        refine V.splitF (j := 15) (t := 130) rfl rfl (by (simp [e3, e4])) ?_
        refine V.run T_ok 1 rfl ?_
        refine V.yes rfl rfl rfl ?_
        refine V.loadO T_ok rFk8 rfl rfl rfl rfl rfl ?_
        refine V.run T_ok 1 rfl ?_
        refine V.yes rfl rfl rfl ?_
        refine V.loadO T_ok Fk46 rfl rfl rfl rfl rfl ?_
        refine V.run T_ok 2 rfl ?_
        refine V.nil ?_
        refine V.tN ?_
        refine V.condN rfl (by (simp [e5])) ?_
        refine V.skip ?_
        refine V.bN ?_
        refine V.bN ?_
        refine V.tN ?_
        refine V.region ?_
        refine V.run T_ok 1 rfl ?_
        refine V.addN rfl rfl rfl rfl rfl (by first | omega | (simp only [List.length_take, List.length_drop, List.length_append, List.length_cons, List.length_nil, List.length_replicate, List.length_set, V.length_data, V.S_size]; omega)) (by first | omega | (simp only [List.length_take, List.length_drop, List.length_append, List.length_cons, List.length_nil, List.length_replicate, List.length_set, V.length_data, V.S_size]; omega)) ?_
        refine V.run T_ok 1 rfl ?_
        refine V.nil ?_
        refine V.tN ?_
        exact ⟨_, (by omega), HG, (by omega), F_s, (i + 1), (pv.1), _, _, rfl, (by omega), (by omega), (by first | exact hrr | exact hnr), rFk8, F59.re, rfl, rfl, rfl⟩
       ·
        try replace h20 := V.dec h20
        try simp only [V.mk0, V.mk1, V.mk2, V.mk3] at h20
        refine V.seq ?_
        refine V.region ?_
        refine V.run T_ok 2 rfl ?_
        refine V.nil ?_
        refine V.tN ?_
        refine V.condT rfl (fun h23 => ?_) (fun h23 => ?_)
        ·
         try replace h23 := V.dec h23
         try simp only [V.mk0, V.mk1, V.mk2, V.mk3] at h23
         have e1 := hs2 h23
         refine V.seq ?_
         refine V.region ?_
         refine V.run T_ok 1 rfl ?_
         refine V.loadO T_ok rFk8 rfl rfl rfl rfl rfl ?_
         refine V.run T_ok 1 rfl ?_
         refine V.loadO T_ok Fk46 rfl rfl rfl rfl rfl ?_
         refine V.run T_ok 2 rfl ?_
         refine V.andG T_ok 2 5 144 rfl rfl rfl rfl rfl rfl rfl rfl ?_
         refine V.nil ?_
         refine V.tN ?_
         refine V.condN rfl (by (grind)) ?_
         refine V.skip ?_
         refine V.bN ?_
         refine V.bN ?_
         refine V.tN ?_
         refine V.region ?_
         refine V.run T_ok 1 rfl ?_
         refine V.addN rfl rfl rfl rfl rfl (by first | omega | (simp only [List.length_take, List.length_drop, List.length_append, List.length_cons, List.length_nil, List.length_replicate, List.length_set, V.length_data, V.S_size]; omega)) (by first | omega | (simp only [List.length_take, List.length_drop, List.length_append, List.length_cons, List.length_nil, List.length_replicate, List.length_set, V.length_data, V.S_size]; omega)) ?_
         refine V.run T_ok 1 rfl ?_
         refine V.nil ?_
         refine V.tN ?_
         exact ⟨_, (by omega), HG, (by omega), F_s, (i + 1), (pv.1), _, _, rfl, (by omega), (by omega), (by first | exact hrr | exact hnr), rFk8, F59.re, rfl, rfl, rfl⟩
        ·
         try replace h23 := V.dec h23
         try simp only [V.mk0, V.mk1, V.mk2, V.mk3] at h23
         have e1 := hs1 h17 h20 h23
         refine V.seq ?_
         refine V.region ?_
         refine V.run T_ok 1 rfl ?_
         refine V.loadO T_ok rFk8 rfl rfl rfl rfl rfl ?_
         refine V.run T_ok 1 rfl ?_
         refine V.loadO T_ok Fk46 rfl rfl rfl rfl rfl ?_
         refine V.run T_ok 2 rfl ?_
         refine V.splitF (j := 5) (t := 80) rfl rfl (by (apply decide_eq_false; omega)) ?_
         refine V.run T_ok 1 rfl ?_
         refine V.yes rfl rfl rfl ?_
         refine V.loadO T_ok rFk8 rfl rfl rfl rfl rfl ?_
         refine V.run T_ok 2 rfl ?_
         refine V.nil ?_
         refine V.tN ?_
         refine V.condN rfl (by (simp [e1.2])) ?_
         refine V.skip ?_
         refine V.bN ?_
         refine V.bN ?_
         refine V.tN ?_
         refine V.region ?_
         refine V.run T_ok 1 rfl ?_
         refine V.addN rfl rfl rfl rfl rfl (by first | omega | (simp only [List.length_take, List.length_drop, List.length_append, List.length_cons, List.length_nil, List.length_replicate, List.length_set, V.length_data, V.S_size]; omega)) (by first | omega | (simp only [List.length_take, List.length_drop, List.length_append, List.length_cons, List.length_nil, List.length_replicate, List.length_set, V.length_data, V.S_size]; omega)) ?_
         refine V.run T_ok 1 rfl ?_
         refine V.nil ?_
         refine V.tN ?_
         exact ⟨_, (by omega), HG, (by omega), F_s, (i + 1), (pv.1), _, _, rfl, (by omega), (by omega), (by first | exact hrr | exact hnr), rFk8, F59.re, rfl, rfl, rfl⟩
     ·
      try replace g13_7 := V.dec g13_7
      try simp only [V.mk0, V.mk1, V.mk2, V.mk3] at g13_7
      refine V.run T_ok 2 rfl ?_
      refine V.yes rfl rfl rfl ?_
      refine V.loadO T_ok rFk8 rfl rfl rfl rfl rfl ?_
      refine V.run T_ok 2 rfl ?_
      refine V.yes rfl rfl rfl ?_
      refine V.loadO T_ok Fk46 rfl rfl rfl rfl rfl ?_
      refine V.run T_ok 2 rfl ?_
      refine V.split (j := 15) (t := 63) rfl rfl (fun g13_15 => ?_) (fun g13_15 => ?_)
      ·
       try replace g13_15 := V.dec g13_15
       try simp only [V.mk0, V.mk1, V.mk2, V.mk3] at g13_15
       refine V.run T_ok 2 rfl ?_
       refine V.yes rfl rfl rfl ?_
       refine V.loadO T_ok rFk8 rfl rfl rfl rfl rfl ?_
       refine V.run T_ok 2 rfl ?_
       refine V.yes rfl rfl rfl ?_
       refine V.loadO T_ok Fk46 rfl rfl rfl rfl rfl ?_
       refine V.run T_ok 4 rfl ?_
       refine V.nil ?_
       refine V.tN ?_
       refine V.seq ?_
       refine V.region ?_
       refine V.run T_ok 1 rfl ?_
       refine V.loadO T_ok rFk8 rfl rfl rfl rfl rfl ?_
       refine V.nil ?_
       refine V.tN ?_
       refine V.block ?_
       refine V.seq ?_
       refine V.region ?_
       refine V.run T_ok 2 rfl ?_
       refine V.nil ?_
       refine V.tN ?_
       refine V.condT rfl (fun h17 => ?_) (fun h17 => ?_)
       ·
        try replace h17 := V.dec h17
        try simp only [V.mk0, V.mk1, V.mk2, V.mk3] at h17
        obtain ⟨e1, e2, e3, e4, e5, e6⟩ := hs4 h17
        refine V.seq ?_
        refine V.region ?_
        refine V.run T_ok 1 rfl ?_
        refine V.loadO T_ok Fk31 rfl rfl rfl rfl rfl ?_
        refine V.run T_ok 2 rfl ?_
        refine V.splitF (j := 3) (t := 90) rfl rfl (by (simp [e1])) ?_
        refine V.run T_ok 1 rfl ?_
        refine V.yes rfl rfl rfl ?_
        refine V.loadO T_ok Fk31 rfl rfl rfl rfl rfl ?_
        refine V.run T_ok 3 rfl ?_
        refine V.splitF (j := 8) (t := 95) rfl rfl (by (rw [e2]; rfl)) ?_
        refine V.run T_ok 1 rfl ?_
        refine V.yes rfl rfl rfl ?_
        refine V.loadO T_ok Fk31 rfl rfl rfl rfl rfl ?_
        refine V.run T_ok 2 rfl ?_
        refine V.splitF (j := 12) (t := 99) rfl rfl (by (exact e3)) ?_
        refine V.run T_ok 1 rfl ?_
        refine V.yes rfl rfl rfl ?_
        refine V.loadO T_ok Fk31 rfl rfl rfl rfl rfl ?_
        refine V.run T_ok 1 rfl ?_
        refine V.yes rfl rfl rfl ?_
        refine V.loadO T_ok Fk46 rfl rfl rfl rfl rfl ?_
        refine V.run T_ok 3 rfl ?_
        refine V.splitF (j := 19) (t := 106) rfl rfl (by (simp [e4])) ?_
        refine V.run T_ok 1 rfl ?_
        refine V.yes rfl rfl rfl ?_
        refine V.loadO T_ok Fk31 rfl rfl rfl rfl rfl ?_
        refine V.run T_ok 1 rfl ?_
        refine V.yes rfl rfl rfl ?_
        refine V.loadO T_ok Fk46 rfl rfl rfl rfl rfl ?_
        refine V.yes rfl rfl rfl ?_
        refine V.step rfl rfl (V.neA_run rfl rfl rfl eqG24 (eqS24 _)) ?_
        refine V.run T_ok 1 rfl ?_
        refine V.nil ?_
        refine V.tN ?_
        refine V.condN rfl (by (simp [e5, e6])) ?_
        refine V.skip ?_
        refine V.bN ?_
        refine V.bN ?_
        refine V.tN ?_
        refine V.region ?_
        refine V.run T_ok 1 rfl ?_
        refine V.addN rfl rfl rfl rfl rfl (by first | omega | (simp only [List.length_take, List.length_drop, List.length_append, List.length_cons, List.length_nil, List.length_replicate, List.length_set, V.length_data, V.S_size]; omega)) (by first | omega | (simp only [List.length_take, List.length_drop, List.length_append, List.length_cons, List.length_nil, List.length_replicate, List.length_set, V.length_data, V.S_size]; omega)) ?_
        refine V.run T_ok 1 rfl ?_
        refine V.nil ?_
        refine V.tN ?_
        exact ⟨_, (by omega), HG, (by omega), F_s, (i + 1), (pv.1), _, _, rfl, (by omega), (by omega), (by first | exact hrr | exact hnr), rFk8, F59.re, rfl, rfl, rfl⟩
       ·
        try replace h17 := V.dec h17
        try simp only [V.mk0, V.mk1, V.mk2, V.mk3] at h17
        refine V.seq ?_
        refine V.region ?_
        refine V.run T_ok 2 rfl ?_
        refine V.nil ?_
        refine V.tN ?_
        refine V.condT rfl (fun h20 => ?_) (fun h20 => ?_)
        ·
         try replace h20 := V.dec h20
         try simp only [V.mk0, V.mk1, V.mk2, V.mk3] at h20
         obtain ⟨e1, e2, e3, e4, e5⟩ := hs3 h20
         refine V.seq ?_
         refine V.region ?_
         refine V.run T_ok 1 rfl ?_
         refine V.loadO T_ok Fk31 rfl rfl rfl rfl rfl ?_
         refine V.run T_ok 2 rfl ?_
         refine V.splitF (j := 3) (t := 118) rfl rfl (by (simp [e1])) ?_
         refine V.run T_ok 1 rfl ?_
         refine V.yes rfl rfl rfl ?_
         refine V.loadO T_ok Fk31 rfl rfl rfl rfl rfl ?_
         refine V.run T_ok 3 rfl ?_
         refine V.splitF (j := 8) (t := 123) rfl rfl (by (rw [e2]; rfl)) ?_
         refine V.run T_ok 1 rfl ?_
         refine V.yes rfl rfl rfl ?_
         refine V.loadO T_ok rFk8 rfl rfl rfl rfl rfl ?_
         refine V.run T_ok 1 rfl ?_
         refine V.yes rfl rfl rfl ?_
         refine V.loadO T_ok Fk46 rfl rfl rfl rfl rfl ?_
         refine V.yes rfl rfl rfl ?_
         refine V.step rfl rfl (V.neA_run rfl rfl rfl eqG24 (eqS24 _)) ?_
         refine V.run T_ok 2 rfl ?_
         refine V.splitF (j := 15) (t := 130) rfl rfl (by (simp [e3, e4])) ?_
         refine V.run T_ok 1 rfl ?_
         refine V.yes rfl rfl rfl ?_
         refine V.loadO T_ok rFk8 rfl rfl rfl rfl rfl ?_
         refine V.run T_ok 1 rfl ?_
         refine V.yes rfl rfl rfl ?_
         refine V.loadO T_ok Fk46 rfl rfl rfl rfl rfl ?_
         refine V.run T_ok 2 rfl ?_
         refine V.nil ?_
         refine V.tN ?_
         refine V.condN rfl (by (simp [e5])) ?_
         refine V.skip ?_
         refine V.bN ?_
         refine V.bN ?_
         refine V.tN ?_
         refine V.region ?_
         refine V.run T_ok 1 rfl ?_
         refine V.addN rfl rfl rfl rfl rfl (by first | omega | (simp only [List.length_take, List.length_drop, List.length_append, List.length_cons, List.length_nil, List.length_replicate, List.length_set, V.length_data, V.S_size]; omega)) (by first | omega | (simp only [List.length_take, List.length_drop, List.length_append, List.length_cons, List.length_nil, List.length_replicate, List.length_set, V.length_data, V.S_size]; omega)) ?_
         refine V.run T_ok 1 rfl ?_
         refine V.nil ?_
         refine V.tN ?_
         exact ⟨_, (by omega), HG, (by omega), F_s, (i + 1), (pv.1), _, _, rfl, (by omega), (by omega), (by first | exact hrr | exact hnr), rFk8, F59.re, rfl, rfl, rfl⟩
        ·
         try replace h20 := V.dec h20
         try simp only [V.mk0, V.mk1, V.mk2, V.mk3] at h20
         refine V.seq ?_
         refine V.region ?_
         refine V.run T_ok 2 rfl ?_
         refine V.nil ?_
         refine V.tN ?_
         refine V.condT rfl (fun h23 => ?_) (fun h23 => ?_)
         ·
          try replace h23 := V.dec h23
          try simp only [V.mk0, V.mk1, V.mk2, V.mk3] at h23
          have e1 := hs2 h23
          refine V.seq ?_
          refine V.region ?_
          refine V.run T_ok 1 rfl ?_
          refine V.loadO T_ok rFk8 rfl rfl rfl rfl rfl ?_
          refine V.run T_ok 1 rfl ?_
          refine V.loadO T_ok Fk46 rfl rfl rfl rfl rfl ?_
          refine V.run T_ok 2 rfl ?_
          refine V.andG T_ok 2 5 144 rfl rfl rfl rfl rfl rfl rfl rfl ?_
          refine V.nil ?_
          refine V.tN ?_
          refine V.condN rfl (by (grind)) ?_
          refine V.skip ?_
          refine V.bN ?_
          refine V.bN ?_
          refine V.tN ?_
          refine V.region ?_
          refine V.run T_ok 1 rfl ?_
          refine V.addN rfl rfl rfl rfl rfl (by first | omega | (simp only [List.length_take, List.length_drop, List.length_append, List.length_cons, List.length_nil, List.length_replicate, List.length_set, V.length_data, V.S_size]; omega)) (by first | omega | (simp only [List.length_take, List.length_drop, List.length_append, List.length_cons, List.length_nil, List.length_replicate, List.length_set, V.length_data, V.S_size]; omega)) ?_
          refine V.run T_ok 1 rfl ?_
          refine V.nil ?_
          refine V.tN ?_
          exact ⟨_, (by omega), HG, (by omega), F_s, (i + 1), (pv.1), _, _, rfl, (by omega), (by omega), (by first | exact hrr | exact hnr), rFk8, F59.re, rfl, rfl, rfl⟩
         ·
          try replace h23 := V.dec h23
          try simp only [V.mk0, V.mk1, V.mk2, V.mk3] at h23
          have e1 := hs1 h17 h20 h23
          refine V.seq ?_
          refine V.region ?_
          refine V.run T_ok 1 rfl ?_
          refine V.loadO T_ok rFk8 rfl rfl rfl rfl rfl ?_
          refine V.run T_ok 1 rfl ?_
          refine V.loadO T_ok Fk46 rfl rfl rfl rfl rfl ?_
          refine V.run T_ok 2 rfl ?_
          refine V.splitF (j := 5) (t := 80) rfl rfl (by (apply decide_eq_false; omega)) ?_
          refine V.run T_ok 1 rfl ?_
          refine V.yes rfl rfl rfl ?_
          refine V.loadO T_ok rFk8 rfl rfl rfl rfl rfl ?_
          refine V.run T_ok 2 rfl ?_
          refine V.nil ?_
          refine V.tN ?_
          refine V.condN rfl (by (simp [e1.2])) ?_
          refine V.skip ?_
          refine V.bN ?_
          refine V.bN ?_
          refine V.tN ?_
          refine V.region ?_
          refine V.run T_ok 1 rfl ?_
          refine V.addN rfl rfl rfl rfl rfl (by first | omega | (simp only [List.length_take, List.length_drop, List.length_append, List.length_cons, List.length_nil, List.length_replicate, List.length_set, V.length_data, V.S_size]; omega)) (by first | omega | (simp only [List.length_take, List.length_drop, List.length_append, List.length_cons, List.length_nil, List.length_replicate, List.length_set, V.length_data, V.S_size]; omega)) ?_
          refine V.run T_ok 1 rfl ?_
          refine V.nil ?_
          refine V.tN ?_
          exact ⟨_, (by omega), HG, (by omega), F_s, (i + 1), (pv.1), _, _, rfl, (by omega), (by omega), (by first | exact hrr | exact hnr), rFk8, F59.re, rfl, rfl, rfl⟩
      ·
       try replace g13_15 := V.dec g13_15
       try simp only [V.mk0, V.mk1, V.mk2, V.mk3] at g13_15
       refine V.run T_ok 10 rfl ?_
       refine V.nil ?_
       refine V.tN ?_
       refine V.seq ?_
       refine V.region ?_
       refine V.run T_ok 1 rfl ?_
       refine V.loadO T_ok rFk8 rfl rfl rfl rfl rfl ?_
       refine V.nil ?_
       refine V.tN ?_
       refine V.block ?_
       refine V.seq ?_
       refine V.region ?_
       refine V.run T_ok 2 rfl ?_
       refine V.nil ?_
       refine V.tN ?_
       refine V.condT rfl (fun h17 => ?_) (fun h17 => ?_)
       ·
        try replace h17 := V.dec h17
        try simp only [V.mk0, V.mk1, V.mk2, V.mk3] at h17
        obtain ⟨e1, e2, e3, e4, e5, e6⟩ := hs4 h17
        refine V.seq ?_
        refine V.region ?_
        refine V.run T_ok 1 rfl ?_
        refine V.loadO T_ok Fk31 rfl rfl rfl rfl rfl ?_
        refine V.run T_ok 2 rfl ?_
        refine V.splitF (j := 3) (t := 90) rfl rfl (by (simp [e1])) ?_
        refine V.run T_ok 1 rfl ?_
        refine V.yes rfl rfl rfl ?_
        refine V.loadO T_ok Fk31 rfl rfl rfl rfl rfl ?_
        refine V.run T_ok 3 rfl ?_
        refine V.splitF (j := 8) (t := 95) rfl rfl (by (rw [e2]; rfl)) ?_
        refine V.run T_ok 1 rfl ?_
        refine V.yes rfl rfl rfl ?_
        refine V.loadO T_ok Fk31 rfl rfl rfl rfl rfl ?_
        refine V.run T_ok 2 rfl ?_
        refine V.splitF (j := 12) (t := 99) rfl rfl (by (exact e3)) ?_
        refine V.run T_ok 1 rfl ?_
        refine V.yes rfl rfl rfl ?_
        refine V.loadO T_ok Fk31 rfl rfl rfl rfl rfl ?_
        refine V.run T_ok 1 rfl ?_
        refine V.yes rfl rfl rfl ?_
        refine V.loadO T_ok Fk46 rfl rfl rfl rfl rfl ?_
        refine V.run T_ok 3 rfl ?_
        refine V.splitF (j := 19) (t := 106) rfl rfl (by (simp [e4])) ?_
        refine V.run T_ok 1 rfl ?_
        refine V.yes rfl rfl rfl ?_
        refine V.loadO T_ok Fk31 rfl rfl rfl rfl rfl ?_
        refine V.run T_ok 1 rfl ?_
        refine V.yes rfl rfl rfl ?_
        refine V.loadO T_ok Fk46 rfl rfl rfl rfl rfl ?_
        refine V.yes rfl rfl rfl ?_
        refine V.step rfl rfl (V.neA_run rfl rfl rfl eqG24 (eqS24 _)) ?_
        refine V.run T_ok 1 rfl ?_
        refine V.nil ?_
        refine V.tN ?_
        refine V.condN rfl (by (simp [e5, e6])) ?_
        refine V.skip ?_
        refine V.bN ?_
        refine V.bN ?_
        refine V.tN ?_
        refine V.region ?_
        refine V.run T_ok 1 rfl ?_
        refine V.addN rfl rfl rfl rfl rfl (by first | omega | (simp only [List.length_take, List.length_drop, List.length_append, List.length_cons, List.length_nil, List.length_replicate, List.length_set, V.length_data, V.S_size]; omega)) (by first | omega | (simp only [List.length_take, List.length_drop, List.length_append, List.length_cons, List.length_nil, List.length_replicate, List.length_set, V.length_data, V.S_size]; omega)) ?_
        refine V.run T_ok 1 rfl ?_
        refine V.nil ?_
        refine V.tN ?_
        exact ⟨_, (by omega), HG, (by omega), F_s, (i + 1), (pv.1), _, _, rfl, (by omega), (by omega), (by first | exact hrr | exact hnr), rFk8, F59.re, rfl, rfl, rfl⟩
       ·
        try replace h17 := V.dec h17
        try simp only [V.mk0, V.mk1, V.mk2, V.mk3] at h17
        refine V.seq ?_
        refine V.region ?_
        refine V.run T_ok 2 rfl ?_
        refine V.nil ?_
        refine V.tN ?_
        refine V.condT rfl (fun h20 => ?_) (fun h20 => ?_)
        ·
         try replace h20 := V.dec h20
         try simp only [V.mk0, V.mk1, V.mk2, V.mk3] at h20
         obtain ⟨e1, e2, e3, e4, e5⟩ := hs3 h20
         refine V.seq ?_
         refine V.region ?_
         refine V.run T_ok 1 rfl ?_
         refine V.loadO T_ok Fk31 rfl rfl rfl rfl rfl ?_
         refine V.run T_ok 2 rfl ?_
         refine V.splitF (j := 3) (t := 118) rfl rfl (by (simp [e1])) ?_
         refine V.run T_ok 1 rfl ?_
         refine V.yes rfl rfl rfl ?_
         refine V.loadO T_ok Fk31 rfl rfl rfl rfl rfl ?_
         refine V.run T_ok 3 rfl ?_
         refine V.splitF (j := 8) (t := 123) rfl rfl (by (rw [e2]; rfl)) ?_
         refine V.run T_ok 1 rfl ?_
         refine V.yes rfl rfl rfl ?_
         refine V.loadO T_ok rFk8 rfl rfl rfl rfl rfl ?_
         refine V.run T_ok 1 rfl ?_
         refine V.yes rfl rfl rfl ?_
         refine V.loadO T_ok Fk46 rfl rfl rfl rfl rfl ?_
         refine V.yes rfl rfl rfl ?_
         refine V.step rfl rfl (V.neA_run rfl rfl rfl eqG24 (eqS24 _)) ?_
         refine V.run T_ok 2 rfl ?_
         refine V.splitF (j := 15) (t := 130) rfl rfl (by (simp [e3, e4])) ?_
         refine V.run T_ok 1 rfl ?_
         refine V.yes rfl rfl rfl ?_
         refine V.loadO T_ok rFk8 rfl rfl rfl rfl rfl ?_
         refine V.run T_ok 1 rfl ?_
         refine V.yes rfl rfl rfl ?_
         refine V.loadO T_ok Fk46 rfl rfl rfl rfl rfl ?_
         refine V.run T_ok 2 rfl ?_
         refine V.nil ?_
         refine V.tN ?_
         refine V.condN rfl (by (simp [e5])) ?_
         refine V.skip ?_
         refine V.bN ?_
         refine V.bN ?_
         refine V.tN ?_
         refine V.region ?_
         refine V.run T_ok 1 rfl ?_
         refine V.addN rfl rfl rfl rfl rfl (by first | omega | (simp only [List.length_take, List.length_drop, List.length_append, List.length_cons, List.length_nil, List.length_replicate, List.length_set, V.length_data, V.S_size]; omega)) (by first | omega | (simp only [List.length_take, List.length_drop, List.length_append, List.length_cons, List.length_nil, List.length_replicate, List.length_set, V.length_data, V.S_size]; omega)) ?_
         refine V.run T_ok 1 rfl ?_
         refine V.nil ?_
         refine V.tN ?_
         exact ⟨_, (by omega), HG, (by omega), F_s, (i + 1), (pv.1), _, _, rfl, (by omega), (by omega), (by first | exact hrr | exact hnr), rFk8, F59.re, rfl, rfl, rfl⟩
        ·
         try replace h20 := V.dec h20
         try simp only [V.mk0, V.mk1, V.mk2, V.mk3] at h20
         refine V.seq ?_
         refine V.region ?_
         refine V.run T_ok 2 rfl ?_
         refine V.nil ?_
         refine V.tN ?_
         refine V.condT rfl (fun h23 => ?_) (fun h23 => ?_)
         ·
          try replace h23 := V.dec h23
          try simp only [V.mk0, V.mk1, V.mk2, V.mk3] at h23
          have e1 := hs2 h23
          refine V.seq ?_
          refine V.region ?_
          refine V.run T_ok 1 rfl ?_
          refine V.loadO T_ok rFk8 rfl rfl rfl rfl rfl ?_
          refine V.run T_ok 1 rfl ?_
          refine V.loadO T_ok Fk46 rfl rfl rfl rfl rfl ?_
          refine V.run T_ok 2 rfl ?_
          refine V.andG T_ok 2 5 144 rfl rfl rfl rfl rfl rfl rfl rfl ?_
          refine V.nil ?_
          refine V.tN ?_
          refine V.condN rfl (by (grind)) ?_
          refine V.skip ?_
          refine V.bN ?_
          refine V.bN ?_
          refine V.tN ?_
          refine V.region ?_
          refine V.run T_ok 1 rfl ?_
          refine V.addN rfl rfl rfl rfl rfl (by first | omega | (simp only [List.length_take, List.length_drop, List.length_append, List.length_cons, List.length_nil, List.length_replicate, List.length_set, V.length_data, V.S_size]; omega)) (by first | omega | (simp only [List.length_take, List.length_drop, List.length_append, List.length_cons, List.length_nil, List.length_replicate, List.length_set, V.length_data, V.S_size]; omega)) ?_
          refine V.run T_ok 1 rfl ?_
          refine V.nil ?_
          refine V.tN ?_
          exact ⟨_, (by omega), HG, (by omega), F_s, (i + 1), (pv.1), _, _, rfl, (by omega), (by omega), (by first | exact hrr | exact hnr), rFk8, F59.re, rfl, rfl, rfl⟩
         ·
          try replace h23 := V.dec h23
          try simp only [V.mk0, V.mk1, V.mk2, V.mk3] at h23
          have e1 := hs1 h17 h20 h23
          refine V.seq ?_
          refine V.region ?_
          refine V.run T_ok 1 rfl ?_
          refine V.loadO T_ok rFk8 rfl rfl rfl rfl rfl ?_
          refine V.run T_ok 1 rfl ?_
          refine V.loadO T_ok Fk46 rfl rfl rfl rfl rfl ?_
          refine V.run T_ok 2 rfl ?_
          refine V.splitF (j := 5) (t := 80) rfl rfl (by (apply decide_eq_false; omega)) ?_
          refine V.run T_ok 1 rfl ?_
          refine V.yes rfl rfl rfl ?_
          refine V.loadO T_ok rFk8 rfl rfl rfl rfl rfl ?_
          refine V.run T_ok 2 rfl ?_
          refine V.nil ?_
          refine V.tN ?_
          refine V.condN rfl (by (simp [e1.2])) ?_
          refine V.skip ?_
          refine V.bN ?_
          refine V.bN ?_
          refine V.tN ?_
          refine V.region ?_
          refine V.run T_ok 1 rfl ?_
          refine V.addN rfl rfl rfl rfl rfl (by first | omega | (simp only [List.length_take, List.length_drop, List.length_append, List.length_cons, List.length_nil, List.length_replicate, List.length_set, V.length_data, V.S_size]; omega)) (by first | omega | (simp only [List.length_take, List.length_drop, List.length_append, List.length_cons, List.length_nil, List.length_replicate, List.length_set, V.length_data, V.S_size]; omega)) ?_
          refine V.run T_ok 1 rfl ?_
          refine V.nil ?_
          refine V.tN ?_
          exact ⟨_, (by omega), HG, (by omega), F_s, (i + 1), (pv.1), _, _, rfl, (by omega), (by omega), (by first | exact hrr | exact hnr), rFk8, F59.re, rfl, rfl, rfl⟩
  ·
   try replace h5 := V.dec h5
   try simp only [V.mk0, V.mk1, V.mk2, V.mk3] at h5
   refine V.exit ?_
   refine V.tX ?_
   refine V.tX ?_
   refine V.bE ?_
   refine V.tN ?_
   refine V.seq ?_
   refine V.region ?_
   refine V.call (alive_spec) rfl rfl rfl ?_
   rintro _ w68 ⟨rfl, G69⟩
   have z70 := V.Fr.size G69
   try replace F_s := F_s.gr G69
   try replace rFk8 := rFk8.gr G69
   try replace rF8 := rF8.gr G69
   replace HG := HG.grow G69
   clear G69
   refine V.run T_ok 1 rfl ?_
   refine V.nil ?_
   refine V.tN ?_
   refine V.ret ?_
   refine V.done rfl ?_
   exact ⟨(by first | rfl | simp only [List.length_set]), HG⟩

end Go.Proofs.Ytaokenlcjkomhaa
