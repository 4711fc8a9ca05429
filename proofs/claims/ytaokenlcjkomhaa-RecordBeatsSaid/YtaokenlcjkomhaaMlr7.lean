/- Proved here: walks: what functions of this seat's program return and what they leave of memory, each as a contract. Conditions: stated at each theorem. -/
import Derived.Test.YtaokenlcjkomhaaMlr2
namespace Go.Proofs.Ytaokenlcjkomhaa
set_option linter.unusedVariables false
set_option linter.unusedSimpArgs false
open Go
open V (Bytes Meets Env Sl Own Gr Fr Cells S)
def lessS (a b x y : Int) : Bool := decide (a < x ∨ a = x ∧ b < y)
theorem maxSt_up (a b x y : Int) : lessS (maxSt a b x y).1 (maxSt a b x y).2 a b = false ∧ lessS (maxSt a b x y).1 (maxSt a b x y).2 x y = false := by
  simp only [lessS, maxSt, decide_eq_false_iff_not]
  split <;> constructor <;> grind
section
variable {d : RecV} {ep nw nl : Int}
theorem beats_ok (h : ¬ (rBeat d ep nw nl).2 = 1) : (0 ≤ ep ∧ ep ≤ 1099511627776) ∧ stR nw nl := by
  by_cases hc : (0 ≤ ep ∧ ep ≤ 1099511627776) ∧ stR nw nl
  · exact hc
  · exfalso; apply h; unfold rBeat; rw [if_pos hc]
theorem beats_none (h : ¬ (rBeat d ep nw nl).2 = 1) (h1 : d.st = 3 ∨ d.st = 4 ∨ ¬ d.st = 0 ∧ ep < d.ep) : (rBeat d ep nw nl).1 = d ∧ decide ((rBeat d ep nw nl).2 = 0) = decide (d.st = 3) := by
  have hc := beats_ok h
  unfold rBeat
  rw [if_neg (fun hn => hn hc)]
  by_cases h3 : d.st = 3
  · rw [if_pos h3]; exact ⟨rfl, by simp [h3]⟩
  · rw [if_neg h3]
    by_cases h4 : d.st = 4
    · rw [if_pos h4]; exact ⟨rfl, by simp [h3]⟩
    · rw [if_neg h4, if_pos (by omega)]; exact ⟨rfl, by simp [h3]⟩
theorem beats_some (hr : recB d = true) (h : ¬ (rBeat d ep nw nl).2 = 1) (h1 : ¬ (d.st = 3 ∨ d.st = 4 ∨ ¬ d.st = 0 ∧ ep < d.ep)) :
    (rBeat d ep nw nl).2 = 0 ∧ (rBeat d ep nw nl).1.ep = ep ∧ lessS (rBeat d ep nw nl).1.bw (rBeat d ep nw nl).1.bl d.bw d.bl = false ∧ lessS (rBeat d ep nw nl).1.bw (rBeat d ep nw nl).1.bl nw nl = false ∧
    ((d.st = 0 ∨ d.ep < ep) → (rBeat d ep nw nl).1.st = 1 ∧ (rBeat d ep nw nl).1.ws.length = 0) ∧ (¬ (d.st = 0 ∨ d.ep < ep) → (rBeat d ep nw nl).1.st = d.st) ∧ ¬ (rBeat d ep nw nl).1.st = 0 ∧ ¬ (rBeat d ep nw nl).1.st = 3 ∧ ¬ (rBeat d ep nw nl).1.st = 4 := by
  have hc := beats_ok h
  have h0 : d.st = 0 → d.ep = 0 := fun h0 => by
    simp only [recB, Bool.and_eq_true, decide_eq_true_eq] at hr
    have h5 := hr.2
    rw [if_neg (by omega), if_pos h0] at h5
    exact (of_decide_eq_true h5).1
  have hm := maxSt_up d.bw d.bl nw nl
  have e : rBeat d ep nw nl = if d.st = 0 ∨ d.ep < ep then (⟨d.id, ep, 1, 0, 0, (maxSt d.bw d.bl nw nl).1, (maxSt d.bw d.bl nw nl).2, []⟩, 0) else (⟨d.id, d.ep, d.st, d.aw, d.al, (maxSt d.bw d.bl nw nl).1, (maxSt d.bw d.bl nw nl).2, d.ws⟩, 0) := by
    unfold rBeat
    rw [if_neg (fun hn => hn hc), if_neg (by omega), if_neg (by omega), if_neg (by omega)]
  rw [e]
  split
  · exact ⟨rfl, rfl, hm.1, hm.2, fun _ => ⟨rfl, rfl⟩, fun hn => absurd ‹_› hn, by simp, by simp, by simp⟩
  · exact ⟨rfl, by simp only; omega, hm.1, hm.2, fun hn => absurd hn ‹_›, fun _ => rfl, by simp only; omega, by simp only; omega, by simp only; omega⟩
theorem beats_next (h : ¬ (rBeat d ep nw nl).2 = 1) (h0 : ¬ d.st = 0) (h3 : ¬ d.st = 3) (h4 : ¬ d.st = 4) (he : d.ep = ep) :
    (rBeat d ep nw nl).2 = 0 ∧ lessS (rBeat d ep nw nl).1.bw (rBeat d ep nw nl).1.bl d.bw d.bl = false ∧ lessS (rBeat d ep nw nl).1.bw (rBeat d ep nw nl).1.bl nw nl = false := by
  have hc := beats_ok h
  have hm := maxSt_up d.bw d.bl nw nl
  have e : rBeat d ep nw nl = (⟨d.id, d.ep, d.st, d.aw, d.al, (maxSt d.bw d.bl nw nl).1, (maxSt d.bw d.bl nw nl).2, d.ws⟩, 0) := by
    unfold rBeat
    rw [if_neg (fun hn => hn hc), if_neg h3, if_neg h4, if_neg (by omega), if_neg (by omega)]
  rw [e]
  exact ⟨rfl, hm.1, hm.2⟩
end

set_option maxHeartbeats 4000000 in
set_option maxRecDepth 10000 in
theorem lessS_spec {w : World}  {a : Int} {b : Int} {x : Int} {y : Int}  :
    Meets Try.prog 21 [.agg #[.int .i64 a, .int .i64 b], .agg #[.int .i64 x, .int .i64 y]] w fun r w' => r = .bool (lessS a b x y) ∧ Gr w w' := by
 have HG := V.Fr.refl [] w
 refine V.enter (n := 24) Try.func21 rfl rfl (by decide) rfl ?_
 refine V.seq ?_
 refine V.region ?_
 refine V.box rfl rfl rfl rfl ?_
 rintro k1 w3 s5 s6 G4 Fk2
 have z7 := V.Fr.size G4
 replace HG := HG.grow G4
 clear G4
 try simp only [V.cellsL, V.spliceL] at Fk2
 refine V.box rfl rfl rfl rfl ?_
 rintro k8 w10 s12 s13 G11 Fk9
 have z14 := V.Fr.size G11
 try replace Fk2 := Fk2.gr G11
 replace HG := HG.grow G11
 clear G11
 try simp only [V.cellsL, V.spliceL] at Fk9
 refine V.run T_ok 1 rfl ?_
 refine V.nil ?_
 refine V.tN ?_
 refine V.seq ?_
 refine V.region ?_
 refine V.run T_ok 1 rfl ?_
 refine V.loadO T_ok Fk2 rfl rfl rfl rfl rfl ?_
 refine V.run T_ok 1 rfl ?_
 refine V.loadO T_ok Fk9 rfl rfl rfl rfl rfl ?_
 refine V.run T_ok 2 rfl ?_
 refine V.split (j := 5) (t := 10) rfl rfl (fun g1_5 => ?_) (fun g1_5 => ?_)
 ·
  try replace g1_5 := V.dec g1_5
  try simp only [V.mk0, V.mk1, V.mk2, V.mk3] at g1_5
  refine V.run T_ok 14 rfl ?_
  refine V.nil ?_
  refine V.tN ?_
  refine V.ret ?_
  refine V.done rfl ?_
  exact ⟨(congrArg Value.bool (by first | rfl | (simp only [lessS]; grind))), HG⟩
 ·
  try replace g1_5 := V.dec g1_5
  try simp only [V.mk0, V.mk1, V.mk2, V.mk3] at g1_5
  refine V.run T_ok 1 rfl ?_
  refine V.yes rfl rfl rfl ?_
  refine V.loadO T_ok Fk2 rfl rfl rfl rfl rfl ?_
  refine V.run T_ok 1 rfl ?_
  refine V.yes rfl rfl rfl ?_
  refine V.loadO T_ok Fk9 rfl rfl rfl rfl rfl ?_
  refine V.run T_ok 2 rfl ?_
  refine V.split (j := 11) (t := 16) rfl rfl (fun g1_11 => ?_) (fun g1_11 => ?_)
  ·
   try replace g1_11 := V.dec g1_11
   try simp only [V.mk0, V.mk1, V.mk2, V.mk3] at g1_11
   refine V.run T_ok 1 rfl ?_
   refine V.yes rfl rfl rfl ?_
   refine V.loadO T_ok Fk2 rfl rfl rfl rfl rfl ?_
   refine V.run T_ok 1 rfl ?_
   refine V.yes rfl rfl rfl ?_
   refine V.loadO T_ok Fk9 rfl rfl rfl rfl rfl ?_
   refine V.run T_ok 4 rfl ?_
   refine V.nil ?_
   refine V.tN ?_
   refine V.ret ?_
   refine V.done rfl ?_
   exact ⟨(congrArg Value.bool (by first | rfl | (simp only [lessS]; grind))), HG⟩
  ·
   try replace g1_11 := V.dec g1_11
   try simp only [V.mk0, V.mk1, V.mk2, V.mk3] at g1_11
   refine V.run T_ok 8 rfl ?_
   refine V.nil ?_
   refine V.tN ?_
   refine V.ret ?_
   refine V.done rfl ?_
   exact ⟨(congrArg Value.bool (by first | rfl | (simp only [lessS]; grind))), HG⟩

set_option maxHeartbeats 4000000 in
set_option maxRecDepth 10000 in
theorem recordBeats_walk {w : World} {d : RecV} {D_o : Nat → Prop} {c_o : Nat} {a_o : Option Addr} (F_o : Sl V.Cod.write w D_o a_o c_o d.ws) (hD_o : ∀ k, D_o k → k < w.heap.size) {ep : Int} {nw : Int} {nl : Int} {mw : Int} {ml : Int} (hkr : keysOk d.ws) (hl : d.ws.length ≤ 5864062014805) :
    Meets Try.prog 6 [.agg #[.int .i64 d.id, .int .i64 d.ep, .int .i64 d.st, .int .i64 d.aw, .int .i64 d.al, .int .i64 d.bw, .int .i64 d.bl, .slice a_o d.ws.length c_o], .int .i64 ep, .agg #[.int .i64 nw, .int .i64 nl, .int .i64 mw, .int .i64 ml]] w fun r w' => r = .bool true ∧ Gr w w' := by
 have HG := V.Fr.refl [] w
 refine V.enter (n := 159) Try.func6 rfl rfl (by decide) rfl ?_
 refine V.seq ?_
 refine V.region ?_
 refine V.box rfl rfl rfl rfl ?_
 rintro k1 w3 s5 s6 G4 Fk2
 have z7 := V.Fr.size G4
 try replace F_o := F_o.gr G4
 replace HG := HG.grow G4
 clear G4
 try simp only [V.cellsL, V.spliceL] at Fk2
 refine V.box rfl rfl rfl rfl ?_
 rintro k8 w10 s12 s13 G11 Fk9
 have z14 := V.Fr.size G11
 try replace F_o := F_o.gr G11
 try replace Fk2 := Fk2.gr G11
 replace HG := HG.grow G11
 clear G11
 try simp only [V.cellsL, V.spliceL] at Fk9
 refine V.run T_ok 1 rfl ?_
 refine V.nil ?_
 refine V.tN ?_
 refine V.seq ?_
 refine V.region ?_
 refine V.loadO T_ok Fk2 rfl rfl rfl rfl rfl ?_
 refine V.call (fitsR_spec (d := d) F_o (fun k hk => by have := hD_o k hk; omega) (by first | assumption | (unfold keysOk; decide))) rfl rfl rfl ?_
 rintro _ w15 ⟨rfl, G16⟩
 have z17 := V.Fr.size G16
 try replace F_o := F_o.gr G16
 try replace Fk2 := Fk2.gr G16
 try replace Fk9 := Fk9.gr G16
 replace HG := HG.grow G16
 clear G16
 refine V.run T_ok 1 rfl ?_
 refine V.nil ?_
 refine V.tN ?_
 refine V.seq ?_
 refine V.region ?_
 refine V.loadO T_ok Fk2 rfl rfl rfl rfl rfl ?_
 refine V.run T_ok 1 rfl ?_
 refine V.elemP T_ok rfl rfl rfl rfl rfl rfl (by first | omega | decide) (by first | omega | decide) ?_
 refine V.loadO T_ok Fk9 rfl rfl rfl rfl rfl ?_
 refine V.call (beat_spec (ep := ep) (nw := nw) (nl := nl) (d := d) F_o (fun k hk => by have := hD_o k hk; omega) (by first | assumption | omega | decide)) rfl rfl rfl ?_
 rintro _ w21 ⟨a18, c19, rfl, F20, G22⟩
 have z23 := V.Fr.size G22
 try replace F_o := F_o.gr G22
 try replace Fk2 := Fk2.gr G22
 try replace Fk9 := Fk9.gr G22
 replace HG := HG.grow G22
 clear G22
 refine V.run T_ok 3 rfl ?_
 refine V.alloc zero27 rfl rfl rfl ?_
 rintro k24 w26 s28 s29 G27 Fk25
 have z30 := V.Fr.size G27
 try replace F_o := F_o.gr G27
 try replace Fk2 := Fk2.gr G27
 try replace Fk9 := Fk9.gr G27
 try replace F20 := F20.gr G27
 replace HG := HG.grow G27
 clear G27
 try simp only [V.cellsL, V.spliceL] at Fk25
 refine V.storeO Fk25 rfl rfl rfl rfl sz27 rfl rfl rfl rfl ?_
 rintro w31 G32 z34 Fs33
 clear Fk25
 have z35 := V.Fr.size G32
 first | replace F_o := F_o.mb G32 hD_o | clear F_o | skip
 first | replace Fk2 := Fk2.mv1 G32 (by omega) | clear Fk2 | skip
 first | replace Fk9 := Fk9.mv1 G32 (by omega) | clear Fk9 | skip
 first | replace F20 := F20.ma G32 | clear F20 | skip
 replace HG := HG.n1 G32
 clear G32
 have Fk25 := Fs33; clear Fs33
 simp only [V.spliceL, V.cellsL] at Fk25
 refine V.run T_ok 1 rfl ?_
 refine V.nil ?_
 refine V.tN ?_
 refine V.seq ?_
 refine V.seq ?_
 refine V.region ?_
 refine V.run T_ok 3 rfl ?_
 refine V.orG T_ok 2 2 27 rfl rfl rfl rfl rfl rfl rfl rfl ?_
 refine V.nil ?_
 refine V.tN ?_
 refine V.condT rfl (fun h3 => ?_) (fun h3 => ?_)
 ·
  try replace h3 := V.dec h3
  try simp only [V.mk0, V.mk1, V.mk2, V.mk3] at h3
  refine V.seq ?_
  refine V.region ?_
  refine V.call (alive_spec) rfl rfl rfl ?_
  rintro _ w36 ⟨rfl, G37⟩
  have z38 := V.Fr.size G37
  try replace F_o := F_o.gr G37
  try replace Fk2 := Fk2.gr G37
  try replace Fk9 := Fk9.gr G37
  try replace F20 := F20.gr G37
  try replace Fk25 := Fk25.gr G37
  replace HG := HG.grow G37
  clear G37
  refine V.run T_ok 1 rfl ?_
  refine V.nil ?_
  refine V.tN ?_
  refine V.ret ?_
  refine V.tR ?_
  refine V.done rfl ?_
  exact ⟨(congrArg Value.bool (by first | rfl | (grind))), HG⟩
 ·
  try replace h3 := V.dec h3
  try simp only [V.mk0, V.mk1, V.mk2, V.mk3] at h3
  refine V.skip ?_
  refine V.tN ?_
  refine V.seq ?_
  obtain ⟨hfr, hne⟩ := h3
  obtain ⟨hlr, hrb⟩ := fitsR_len hfr
  have hw8 : (rBeat d ep nw nl).1.ws.length ≤ 8 := (rB_len (beat_right hrb)).1
  have hn1 := beats_none hne
  have hs1 := beats_some hrb hne
  clear hne
  generalize rBeat d ep nw nl = pv at F20 Fk25 hw8 hn1 hs1 ⊢
  refine V.region ?_
  refine V.run T_ok 1 rfl ?_
  refine V.loadO T_ok Fk2 rfl rfl rfl rfl rfl ?_
  refine V.run T_ok 2 rfl ?_
  refine V.split (j := 3) (t := 35) rfl rfl (fun g5_3 => ?_) (fun g5_3 => ?_)
  ·
   try replace g5_3 := V.dec g5_3
   try simp only [V.mk0, V.mk1, V.mk2, V.mk3] at g5_3
   refine V.run T_ok 5 rfl ?_
   refine V.nil ?_
   refine V.tN ?_
   refine V.seq ?_
   refine V.seq ?_
   refine V.region ?_
   refine V.run T_ok 12 rfl ?_
   refine V.nil ?_
   refine V.tN ?_
   refine V.condY rfl rfl ?_
   refine V.seq ?_
   have hA : d.st = 3 ∨ d.st = 4 ∨ ¬ d.st = 0 ∧ ep < d.ep := by grind
   obtain ⟨e1, e2⟩ := hn1 hA
   refine V.region ?_
   refine V.call (alive_spec) rfl rfl rfl ?_
   rintro _ w39 ⟨rfl, G40⟩
   have z41 := V.Fr.size G40
   try replace F_o := F_o.gr G40
   try replace Fk2 := Fk2.gr G40
   try replace Fk9 := Fk9.gr G40
   try replace F20 := F20.gr G40
   try replace Fk25 := Fk25.gr G40
   replace HG := HG.grow G40
   clear G40
   refine V.run T_ok 1 rfl ?_
   refine V.yes rfl rfl rfl ?_
   refine V.loadO T_ok Fk25 rfl rfl rfl rfl rfl ?_
   refine V.yes rfl rfl rfl ?_
   refine V.loadO T_ok Fk2 rfl rfl rfl rfl rfl ?_
   refine V.yes rfl rfl rfl ?_
   refine V.call (same_spec (d := pv.1) (x := d) F20 (fun k hk => by have := hk.2; omega) F_o (fun k hk => by have := hD_o k hk; omega)) rfl rfl rfl ?_
   rintro _ w39_ ⟨rfl, G43⟩
   have z44 := V.Fr.size G43
   try replace F_o := F_o.gr G43
   try replace Fk2 := Fk2.gr G43
   try replace Fk9 := Fk9.gr G43
   try replace F20 := F20.gr G43
   try replace Fk25 := Fk25.gr G43
   replace HG := HG.grow G43
   clear G43
   refine V.run T_ok 2 rfl ?_
   refine V.splitT (j := 6) (t := 58) rfl rfl (by (rw [e1]; exact sameR_self d)) ?_
   refine V.run T_ok 3 rfl ?_
   refine V.yes rfl rfl rfl ?_
   refine V.loadO T_ok Fk2 rfl rfl rfl rfl rfl ?_
   refine V.run T_ok 4 rfl ?_
   refine V.nil ?_
   refine V.tN ?_
   refine V.ret ?_
   refine V.tR ?_
   refine V.done rfl ?_
   exact ⟨congrArg Value.bool (by rw [e2]; simp), HG⟩
  ·
   try replace g5_3 := V.dec g5_3
   try simp only [V.mk0, V.mk1, V.mk2, V.mk3] at g5_3
   refine V.run T_ok 1 rfl ?_
   refine V.yes rfl rfl rfl ?_
   refine V.loadO T_ok Fk2 rfl rfl rfl rfl rfl ?_
   refine V.run T_ok 3 rfl ?_
   refine V.nil ?_
   refine V.tN ?_
   refine V.seq ?_
   refine V.seq ?_
   refine V.region ?_
   refine V.run T_ok 2 rfl ?_
   refine V.split (j := 1) (t := 41) rfl rfl (fun g6_1 => ?_) (fun g6_1 => ?_)
   ·
    try replace g6_1 := V.dec g6_1
    try simp only [V.mk0, V.mk1, V.mk2, V.mk3] at g6_1
    refine V.run T_ok 10 rfl ?_
    refine V.nil ?_
    refine V.tN ?_
    refine V.condY rfl rfl ?_
    refine V.seq ?_
    have hA : d.st = 3 ∨ d.st = 4 ∨ ¬ d.st = 0 ∧ ep < d.ep := by grind
    obtain ⟨e1, e2⟩ := hn1 hA
    refine V.region ?_
    refine V.call (alive_spec) rfl rfl rfl ?_
    rintro _ w45 ⟨rfl, G46⟩
    have z47 := V.Fr.size G46
    try replace F_o := F_o.gr G46
    try replace Fk2 := Fk2.gr G46
    try replace Fk9 := Fk9.gr G46
    try replace F20 := F20.gr G46
    try replace Fk25 := Fk25.gr G46
    replace HG := HG.grow G46
    clear G46
    refine V.run T_ok 1 rfl ?_
    refine V.yes rfl rfl rfl ?_
    refine V.loadO T_ok Fk25 rfl rfl rfl rfl rfl ?_
    refine V.yes rfl rfl rfl ?_
    refine V.loadO T_ok Fk2 rfl rfl rfl rfl rfl ?_
    refine V.yes rfl rfl rfl ?_
    refine V.call (same_spec (d := pv.1) (x := d) F20 (fun k hk => by have := hk.2; omega) F_o (fun k hk => by have := hD_o k hk; omega)) rfl rfl rfl ?_
    rintro _ w45_ ⟨rfl, G49⟩
    have z50 := V.Fr.size G49
    try replace F_o := F_o.gr G49
    try replace Fk2 := Fk2.gr G49
    try replace Fk9 := Fk9.gr G49
    try replace F20 := F20.gr G49
    try replace Fk25 := Fk25.gr G49
    replace HG := HG.grow G49
    clear G49
    refine V.run T_ok 2 rfl ?_
    refine V.splitT (j := 6) (t := 58) rfl rfl (by (rw [e1]; exact sameR_self d)) ?_
    refine V.run T_ok 3 rfl ?_
    refine V.yes rfl rfl rfl ?_
    refine V.loadO T_ok Fk2 rfl rfl rfl rfl rfl ?_
    refine V.run T_ok 4 rfl ?_
    refine V.nil ?_
    refine V.tN ?_
    refine V.ret ?_
    refine V.tR ?_
    refine V.done rfl ?_
    exact ⟨congrArg Value.bool (by rw [e2]; simp), HG⟩
   ·
    try replace g6_1 := V.dec g6_1
    try simp only [V.mk0, V.mk1, V.mk2, V.mk3] at g6_1
    refine V.run T_ok 1 rfl ?_
    refine V.yes rfl rfl rfl ?_
    refine V.loadO T_ok Fk2 rfl rfl rfl rfl rfl ?_
    refine V.run T_ok 2 rfl ?_
    refine V.split (j := 5) (t := 45) rfl rfl (fun g6_5 => ?_) (fun g6_5 => ?_)
    ·
     try replace g6_5 := V.dec g6_5
     try simp only [V.mk0, V.mk1, V.mk2, V.mk3] at g6_5
     refine V.run T_ok 1 rfl ?_
     refine V.yes rfl rfl rfl ?_
     refine V.loadO T_ok Fk2 rfl rfl rfl rfl rfl ?_
     refine V.run T_ok 4 rfl ?_
     refine V.nil ?_
     refine V.tN ?_
     refine V.condT rfl (fun h6 => ?_) (fun h6 => ?_)
     ·
      try replace h6 := V.dec h6
      try simp only [V.mk0, V.mk1, V.mk2, V.mk3] at h6
      refine V.seq ?_
      have hA : d.st = 3 ∨ d.st = 4 ∨ ¬ d.st = 0 ∧ ep < d.ep := by grind
      obtain ⟨e1, e2⟩ := hn1 hA
      refine V.region ?_
      refine V.call (alive_spec) rfl rfl rfl ?_
      rintro _ w51 ⟨rfl, G52⟩
      have z53 := V.Fr.size G52
      try replace F_o := F_o.gr G52
      try replace Fk2 := Fk2.gr G52
      try replace Fk9 := Fk9.gr G52
      try replace F20 := F20.gr G52
      try replace Fk25 := Fk25.gr G52
      replace HG := HG.grow G52
      clear G52
      refine V.run T_ok 1 rfl ?_
      refine V.yes rfl rfl rfl ?_
      refine V.loadO T_ok Fk25 rfl rfl rfl rfl rfl ?_
      refine V.yes rfl rfl rfl ?_
      refine V.loadO T_ok Fk2 rfl rfl rfl rfl rfl ?_
      refine V.yes rfl rfl rfl ?_
      refine V.call (same_spec (d := pv.1) (x := d) F20 (fun k hk => by have := hk.2; omega) F_o (fun k hk => by have := hD_o k hk; omega)) rfl rfl rfl ?_
      rintro _ w51_ ⟨rfl, G55⟩
      have z56 := V.Fr.size G55
      try replace F_o := F_o.gr G55
      try replace Fk2 := Fk2.gr G55
      try replace Fk9 := Fk9.gr G55
      try replace F20 := F20.gr G55
      try replace Fk25 := Fk25.gr G55
      replace HG := HG.grow G55
      clear G55
      refine V.run T_ok 2 rfl ?_
      refine V.splitT (j := 6) (t := 58) rfl rfl (by (rw [e1]; exact sameR_self d)) ?_
      refine V.run T_ok 3 rfl ?_
      refine V.yes rfl rfl rfl ?_
      refine V.loadO T_ok Fk2 rfl rfl rfl rfl rfl ?_
      refine V.run T_ok 4 rfl ?_
      refine V.nil ?_
      refine V.tN ?_
      refine V.ret ?_
      refine V.tR ?_
      refine V.done rfl ?_
      exact ⟨congrArg Value.bool (by rw [e2]; simp), HG⟩
     ·
      try replace h6 := V.dec h6
      try simp only [V.mk0, V.mk1, V.mk2, V.mk3] at h6
      refine V.skip ?_
      refine V.tN ?_
      refine V.seq ?_
      have hA : ¬ (d.st = 3 ∨ d.st = 4 ∨ ¬ d.st = 0 ∧ ep < d.ep) := by grind
      obtain ⟨e1, e2, e3, e4, e5, e6, e7, e8, e9⟩ := hs1 hA
      refine V.region ?_
      refine V.loadO T_ok Fk25 rfl rfl rfl rfl rfl ?_
      refine V.run T_ok 1 rfl ?_
      refine V.elemP T_ok rfl rfl rfl rfl rfl rfl (by first | omega | decide) (by first | omega | decide) ?_
      refine V.loadO T_ok Fk9 rfl rfl rfl rfl rfl ?_
      refine V.call (beat_spec (ep := ep) (nw := mw) (nl := ml) (d := pv.1) F20 (fun k hk => by have := hk.2; omega) (by first | assumption | omega | decide)) rfl rfl rfl ?_
      rintro _ w60 ⟨a57, c58, rfl, F59, G61⟩
      have z62 := V.Fr.size G61
      try replace F_o := F_o.gr G61
      try replace Fk2 := Fk2.gr G61
      try replace Fk9 := Fk9.gr G61
      try replace F20 := F20.gr G61
      try replace Fk25 := Fk25.gr G61
      replace HG := HG.grow G61
      clear G61
      refine V.run T_ok 3 rfl ?_
      refine V.alloc zero27 rfl rfl rfl ?_
      rintro k63 w65 s67 s68 G66 Fk64
      have z69 := V.Fr.size G66
      try replace F_o := F_o.gr G66
      try replace Fk2 := Fk2.gr G66
      try replace Fk9 := Fk9.gr G66
      try replace F20 := F20.gr G66
      try replace Fk25 := Fk25.gr G66
      try replace F59 := F59.gr G66
      replace HG := HG.grow G66
      clear G66
      try simp only [V.cellsL, V.spliceL] at Fk64
      refine V.storeO Fk64 rfl rfl rfl rfl sz27 rfl rfl rfl rfl ?_
      rintro w70 G71 z73 Fs72
      clear Fk64
      have z74 := V.Fr.size G71
      first | replace F_o := F_o.mb G71 hD_o | clear F_o | skip
      first | replace Fk2 := Fk2.mv1 G71 (by omega) | clear Fk2 | skip
      first | replace Fk9 := Fk9.mv1 G71 (by omega) | clear Fk9 | skip
      first | replace F20 := F20.ma G71 | clear F20 | skip
      first | replace Fk25 := Fk25.mv1 G71 (by omega) | clear Fk25 | skip
      first | replace F59 := F59.ma G71 | clear F59 | skip
      replace HG := HG.n1 G71
      clear G71
      have Fk64 := Fs72; clear Fs72
      simp only [V.spliceL, V.cellsL] at Fk64
      refine V.run T_ok 1 rfl ?_
      refine V.nil ?_
      refine V.tN ?_
      refine V.seq ?_
      refine V.seq ?_
      refine V.region ?_
      refine V.run T_ok 2 rfl ?_
      refine V.nil ?_
      refine V.tN ?_
      refine V.condT rfl (fun h9 => ?_) (fun h9 => ?_)
      ·
       try replace h9 := V.dec h9
       try simp only [V.mk0, V.mk1, V.mk2, V.mk3] at h9
       refine V.seq ?_
       refine V.region ?_
       refine V.call (alive_spec) rfl rfl rfl ?_
       rintro _ w75 ⟨rfl, G76⟩
       have z77 := V.Fr.size G76
       try replace F_o := F_o.gr G76
       try replace Fk2 := Fk2.gr G76
       try replace Fk9 := Fk9.gr G76
       try replace F20 := F20.gr G76
       try replace Fk25 := Fk25.gr G76
       try replace F59 := F59.gr G76
       try replace Fk64 := Fk64.gr G76
       replace HG := HG.grow G76
       clear G76
       refine V.run T_ok 1 rfl ?_
       refine V.nil ?_
       refine V.tN ?_
       refine V.ret ?_
       refine V.tR ?_
       refine V.done rfl ?_
       exact ⟨(congrArg Value.bool (by first | rfl | (grind))), HG⟩
      ·
       try replace h9 := V.dec h9
       try simp only [V.mk0, V.mk1, V.mk2, V.mk3] at h9
       refine V.skip ?_
       refine V.tN ?_
       refine V.seq ?_
       obtain ⟨f1, f2, f3⟩ := beats_next h9 e7 e8 e9 e2
       generalize rBeat pv.1 ep mw ml = pw at F59 Fk64 f1 f2 f3 ⊢
       refine V.region ?_
       refine V.run T_ok 1 rfl ?_
       refine V.loadO T_ok Fk25 rfl rfl rfl rfl rfl ?_
       refine V.run T_ok 1 rfl ?_
       refine V.loadO T_ok Fk2 rfl rfl rfl rfl rfl ?_
       refine V.call (lessS_spec (a := pv.1.bw) (b := pv.1.bl) (x := d.bw) (y := d.bl)) rfl rfl rfl ?_
       rintro _ w78 ⟨rfl, G79⟩
       have z80 := V.Fr.size G79
       try replace F_o := F_o.gr G79
       try replace Fk2 := Fk2.gr G79
       try replace Fk9 := Fk9.gr G79
       try replace F20 := F20.gr G79
       try replace Fk25 := Fk25.gr G79
       try replace F59 := F59.gr G79
       try replace Fk64 := Fk64.gr G79
       replace HG := HG.grow G79
       clear G79
       refine V.run T_ok 2 rfl ?_
       refine V.splitT (j := 6) (t := 83) rfl rfl (by (rw [e3]; rfl)) ?_
       refine V.run T_ok 1 rfl ?_
       refine V.yes rfl rfl rfl ?_
       refine V.loadO T_ok Fk25 rfl rfl rfl rfl rfl ?_
       refine V.yes rfl rfl rfl ?_
       refine V.elemP T_ok rfl rfl rfl rfl rfl rfl (by first | omega | decide) (by first | omega | decide) ?_
       refine V.yes rfl rfl rfl ?_
       refine V.loadO T_ok Fk9 rfl rfl rfl rfl rfl ?_
       refine V.yes rfl rfl rfl ?_
       refine V.call (lessS_spec (a := pv.1.bw) (b := pv.1.bl) (x := nw) (y := nl)) rfl rfl rfl ?_
       rintro _ w81 ⟨rfl, G82⟩
       have z83 := V.Fr.size G82
       try replace F_o := F_o.gr G82
       try replace Fk2 := Fk2.gr G82
       try replace Fk9 := Fk9.gr G82
       try replace F20 := F20.gr G82
       try replace Fk25 := Fk25.gr G82
       try replace F59 := F59.gr G82
       try replace Fk64 := Fk64.gr G82
       replace HG := HG.grow G82
       clear G82
       refine V.run T_ok 3 rfl ?_
       refine V.splitT (j := 14) (t := 91) rfl rfl (by (rw [e4]; rfl)) ?_
       refine V.run T_ok 1 rfl ?_
       refine V.yes rfl rfl rfl ?_
       refine V.loadO T_ok Fk64 rfl rfl rfl rfl rfl ?_
       refine V.run T_ok 1 rfl ?_
       refine V.yes rfl rfl rfl ?_
       refine V.loadO T_ok Fk25 rfl rfl rfl rfl rfl ?_
       refine V.yes rfl rfl rfl ?_
       refine V.call (lessS_spec (a := pw.1.bw) (b := pw.1.bl) (x := pv.1.bw) (y := pv.1.bl)) rfl rfl rfl ?_
       rintro _ w84 ⟨rfl, G85⟩
       have z86 := V.Fr.size G85
       try replace F_o := F_o.gr G85
       try replace Fk2 := Fk2.gr G85
       try replace Fk9 := Fk9.gr G85
       try replace F20 := F20.gr G85
       try replace Fk25 := Fk25.gr G85
       try replace F59 := F59.gr G85
       try replace Fk64 := Fk64.gr G85
       replace HG := HG.grow G85
       clear G85
       refine V.run T_ok 3 rfl ?_
       refine V.splitT (j := 22) (t := 99) rfl rfl (by (rw [f2]; rfl)) ?_
       refine V.run T_ok 1 rfl ?_
       refine V.yes rfl rfl rfl ?_
       refine V.loadO T_ok Fk64 rfl rfl rfl rfl rfl ?_
       refine V.yes rfl rfl rfl ?_
       refine V.elemP T_ok rfl rfl rfl rfl rfl rfl (by first | omega | decide) (by first | omega | decide) ?_
       refine V.yes rfl rfl rfl ?_
       refine V.loadO T_ok Fk9 rfl rfl rfl rfl rfl ?_
       refine V.yes rfl rfl rfl ?_
       refine V.call (lessS_spec (a := pw.1.bw) (b := pw.1.bl) (x := mw) (y := ml)) rfl rfl rfl ?_
       rintro _ w87 ⟨rfl, G88⟩
       have z89 := V.Fr.size G88
       try replace F_o := F_o.gr G88
       try replace Fk2 := Fk2.gr G88
       try replace Fk9 := Fk9.gr G88
       try replace F20 := F20.gr G88
       try replace Fk25 := Fk25.gr G88
       try replace F59 := F59.gr G88
       try replace Fk64 := Fk64.gr G88
       replace HG := HG.grow G88
       clear G88
       refine V.run T_ok 3 rfl ?_
       refine V.nil ?_
       refine V.tN ?_
       refine V.seq ?_
       refine V.region ?_
       refine V.run T_ok 1 rfl ?_
       refine V.loadO T_ok Fk2 rfl rfl rfl rfl rfl ?_
       refine V.run T_ok 2 rfl ?_
       refine V.split (j := 3) (t := 110) rfl rfl (fun g12_3 => ?_) (fun g12_3 => ?_)
       ·
        try replace g12_3 := V.dec g12_3
        try simp only [V.mk0, V.mk1, V.mk2, V.mk3] at g12_3
        refine V.run T_ok 6 rfl ?_
        refine V.nil ?_
        refine V.tN ?_
        refine V.seq ?_
        refine V.region ?_
        refine V.call (alive_spec) rfl rfl rfl ?_
        rintro _ w90 ⟨rfl, G91⟩
        have z92 := V.Fr.size G91
        try replace F_o := F_o.gr G91
        try replace Fk2 := Fk2.gr G91
        try replace Fk9 := Fk9.gr G91
        try replace F20 := F20.gr G91
        try replace Fk25 := Fk25.gr G91
        try replace F59 := F59.gr G91
        try replace Fk64 := Fk64.gr G91
        replace HG := HG.grow G91
        clear G91
        refine V.run T_ok 5 rfl ?_
        refine V.splitT (j := 5) (t := 121) rfl rfl (by (apply decide_eq_true; exact e1)) ?_
        refine V.run T_ok 4 rfl ?_
        refine V.splitT (j := 9) (t := 125) rfl rfl (by (apply decide_eq_true; exact f1)) ?_
        refine V.run T_ok 3 rfl ?_
        refine V.splitT (j := 12) (t := 128) rfl rfl (by (first | rfl | (rw [f3]; rfl))) ?_
        refine V.run T_ok 1 rfl ?_
        refine V.yes rfl rfl rfl ?_
        refine V.loadO T_ok Fk25 rfl rfl rfl rfl rfl ?_
        refine V.run T_ok 4 rfl ?_
        refine V.splitT (j := 18) (t := 134) rfl rfl (by (apply decide_eq_true; exact e2)) ?_
        refine V.run T_ok 4 rfl ?_
        refine V.yes rfl rfl rfl ?_
        refine V.loadO T_ok Fk25 rfl rfl rfl rfl rfl ?_
        refine V.run T_ok 2 rfl ?_
        refine V.split (j := 25) (t := 141) rfl rfl (fun g13_25 => ?_) (fun g13_25 => ?_)
        ·
         try replace g13_25 := V.dec g13_25
         try simp only [V.mk0, V.mk1, V.mk2, V.mk3] at g13_25
         refine V.run T_ok 1 rfl ?_
         refine V.yes rfl rfl rfl ?_
         refine V.loadO T_ok Fk25 rfl rfl rfl rfl rfl ?_
         refine V.run T_ok 6 rfl ?_
         refine V.split (j := 33) (t := 149) rfl rfl (fun g13_33 => ?_) (fun g13_33 => ?_)
         ·
          try replace g13_33 := V.dec g13_33
          try simp only [V.mk0, V.mk1, V.mk2, V.mk3] at g13_33
          refine V.run T_ok 10 rfl ?_
          refine V.nil ?_
          refine V.tN ?_
          refine V.ret ?_
          refine V.done rfl ?_
          exact ⟨(congrArg Value.bool (by first | rfl | (grind))), HG⟩
         ·
          try replace g13_33 := V.dec g13_33
          try simp only [V.mk0, V.mk1, V.mk2, V.mk3] at g13_33
          refine V.run T_ok 10 rfl ?_
          refine V.nil ?_
          refine V.tN ?_
          refine V.ret ?_
          refine V.done rfl ?_
          exact ⟨(congrArg Value.bool (by first | rfl | (grind))), HG⟩
        ·
         try replace g13_25 := V.dec g13_25
         try simp only [V.mk0, V.mk1, V.mk2, V.mk3] at g13_25
         refine V.run T_ok 18 rfl ?_
         refine V.nil ?_
         refine V.tN ?_
         refine V.ret ?_
         refine V.done rfl ?_
         exact ⟨(congrArg Value.bool (by first | rfl | (grind))), HG⟩
       ·
        try replace g12_3 := V.dec g12_3
        try simp only [V.mk0, V.mk1, V.mk2, V.mk3] at g12_3
        refine V.run T_ok 1 rfl ?_
        refine V.yes rfl rfl rfl ?_
        refine V.loadO T_ok Fk2 rfl rfl rfl rfl rfl ?_
        refine V.run T_ok 4 rfl ?_
        refine V.nil ?_
        refine V.tN ?_
        refine V.seq ?_
        refine V.region ?_
        refine V.call (alive_spec) rfl rfl rfl ?_
        rintro _ w93 ⟨rfl, G94⟩
        have z95 := V.Fr.size G94
        try replace F_o := F_o.gr G94
        try replace Fk2 := Fk2.gr G94
        try replace Fk9 := Fk9.gr G94
        try replace F20 := F20.gr G94
        try replace Fk25 := Fk25.gr G94
        try replace F59 := F59.gr G94
        try replace Fk64 := Fk64.gr G94
        replace HG := HG.grow G94
        clear G94
        refine V.run T_ok 5 rfl ?_
        refine V.splitT (j := 5) (t := 121) rfl rfl (by (apply decide_eq_true; exact e1)) ?_
        refine V.run T_ok 4 rfl ?_
        refine V.splitT (j := 9) (t := 125) rfl rfl (by (apply decide_eq_true; exact f1)) ?_
        refine V.run T_ok 3 rfl ?_
        refine V.splitT (j := 12) (t := 128) rfl rfl (by (first | rfl | (rw [f3]; rfl))) ?_
        refine V.run T_ok 1 rfl ?_
        refine V.yes rfl rfl rfl ?_
        refine V.loadO T_ok Fk25 rfl rfl rfl rfl rfl ?_
        refine V.run T_ok 4 rfl ?_
        refine V.splitT (j := 18) (t := 134) rfl rfl (by (apply decide_eq_true; exact e2)) ?_
        refine V.run T_ok 3 rfl ?_
        refine V.split (j := 21) (t := 137) rfl rfl (fun g13_21 => ?_) (fun g13_21 => ?_)
        ·
         try replace g13_21 := V.dec g13_21
         try simp only [V.mk0, V.mk1, V.mk2, V.mk3] at g13_21
         refine V.run T_ok 14 rfl ?_
         refine V.split (j := 35) (t := 151) rfl rfl (fun g13_35 => ?_) (fun g13_35 => ?_)
         ·
          try replace g13_35 := V.dec g13_35
          try simp only [V.mk0, V.mk1, V.mk2, V.mk3] at g13_35
          refine V.run T_ok 8 rfl ?_
          refine V.nil ?_
          refine V.tN ?_
          refine V.ret ?_
          refine V.done rfl ?_
          exact ⟨(congrArg Value.bool (by first | rfl | (grind))), HG⟩
         ·
          try replace g13_35 := V.dec g13_35
          try simp only [V.mk0, V.mk1, V.mk2, V.mk3] at g13_35
          refine V.run T_ok 1 rfl ?_
          refine V.yes rfl rfl rfl ?_
          refine V.loadO T_ok Fk25 rfl rfl rfl rfl rfl ?_
          refine V.run T_ok 1 rfl ?_
          refine V.yes rfl rfl rfl ?_
          refine V.loadO T_ok Fk2 rfl rfl rfl rfl rfl ?_
          refine V.run T_ok 4 rfl ?_
          refine V.nil ?_
          refine V.tN ?_
          refine V.ret ?_
          refine V.done rfl ?_
          exact ⟨(congrArg Value.bool (by first | rfl | (grind))), HG⟩
        ·
         try replace g13_21 := V.dec g13_21
         try simp only [V.mk0, V.mk1, V.mk2, V.mk3] at g13_21
         refine V.run T_ok 1 rfl ?_
         refine V.yes rfl rfl rfl ?_
         refine V.loadO T_ok Fk25 rfl rfl rfl rfl rfl ?_
         refine V.run T_ok 2 rfl ?_
         refine V.split (j := 25) (t := 141) rfl rfl (fun g13_25 => ?_) (fun g13_25 => ?_)
         ·
          try replace g13_25 := V.dec g13_25
          try simp only [V.mk0, V.mk1, V.mk2, V.mk3] at g13_25
          refine V.run T_ok 1 rfl ?_
          refine V.yes rfl rfl rfl ?_
          refine V.loadO T_ok Fk25 rfl rfl rfl rfl rfl ?_
          refine V.run T_ok 6 rfl ?_
          refine V.split (j := 33) (t := 149) rfl rfl (fun g13_33 => ?_) (fun g13_33 => ?_)
          ·
           try replace g13_33 := V.dec g13_33
           try simp only [V.mk0, V.mk1, V.mk2, V.mk3] at g13_33
           refine V.run T_ok 2 rfl ?_
           refine V.split (j := 35) (t := 151) rfl rfl (fun g13_35 => ?_) (fun g13_35 => ?_)
           ·
            try replace g13_35 := V.dec g13_35
            try simp only [V.mk0, V.mk1, V.mk2, V.mk3] at g13_35
            refine V.run T_ok 8 rfl ?_
            refine V.nil ?_
            refine V.tN ?_
            refine V.ret ?_
            refine V.done rfl ?_
            exact ⟨(congrArg Value.bool (by first | rfl | (grind))), HG⟩
           ·
            try replace g13_35 := V.dec g13_35
            try simp only [V.mk0, V.mk1, V.mk2, V.mk3] at g13_35
            refine V.run T_ok 1 rfl ?_
            refine V.yes rfl rfl rfl ?_
            refine V.loadO T_ok Fk25 rfl rfl rfl rfl rfl ?_
            refine V.run T_ok 1 rfl ?_
            refine V.yes rfl rfl rfl ?_
            refine V.loadO T_ok Fk2 rfl rfl rfl rfl rfl ?_
            refine V.run T_ok 4 rfl ?_
            refine V.nil ?_
            refine V.tN ?_
            refine V.ret ?_
            refine V.done rfl ?_
            exact ⟨(congrArg Value.bool (by first | rfl | (grind))), HG⟩
          ·
           try replace g13_33 := V.dec g13_33
           try simp only [V.mk0, V.mk1, V.mk2, V.mk3] at g13_33
           refine V.run T_ok 10 rfl ?_
           refine V.nil ?_
           refine V.tN ?_
           refine V.ret ?_
           refine V.done rfl ?_
           exact ⟨(congrArg Value.bool (by first | rfl | (grind))), HG⟩
         ·
          try replace g13_25 := V.dec g13_25
          try simp only [V.mk0, V.mk1, V.mk2, V.mk3] at g13_25
          refine V.run T_ok 18 rfl ?_
          refine V.nil ?_
          refine V.tN ?_
          refine V.ret ?_
          refine V.done rfl ?_
          exact ⟨(congrArg Value.bool (by first | rfl | (grind))), HG⟩
    ·
     try replace g6_5 := V.dec g6_5
     try simp only [V.mk0, V.mk1, V.mk2, V.mk3] at g6_5
     refine V.run T_ok 6 rfl ?_
     refine V.nil ?_
     refine V.tN ?_
     refine V.condN rfl rfl ?_
     refine V.skip ?_
     refine V.tN ?_
     refine V.seq ?_
     have hA : ¬ (d.st = 3 ∨ d.st = 4 ∨ ¬ d.st = 0 ∧ ep < d.ep) := by grind
     obtain ⟨e1, e2, e3, e4, e5, e6, e7, e8, e9⟩ := hs1 hA
     refine V.region ?_
     refine V.loadO T_ok Fk25 rfl rfl rfl rfl rfl ?_
     refine V.run T_ok 1 rfl ?_
     refine V.elemP T_ok rfl rfl rfl rfl rfl rfl (by first | omega | decide) (by first | omega | decide) ?_
     refine V.loadO T_ok Fk9 rfl rfl rfl rfl rfl ?_
     refine V.call (beat_spec (ep := ep) (nw := mw) (nl := ml) (d := pv.1) F20 (fun k hk => by have := hk.2; omega) (by first | assumption | omega | decide)) rfl rfl rfl ?_
     rintro _ w99 ⟨a96, c97, rfl, F98, G100⟩
     have z101 := V.Fr.size G100
     try replace F_o := F_o.gr G100
     try replace Fk2 := Fk2.gr G100
     try replace Fk9 := Fk9.gr G100
     try replace F20 := F20.gr G100
     try replace Fk25 := Fk25.gr G100
     replace HG := HG.grow G100
     clear G100
     refine V.run T_ok 3 rfl ?_
     refine V.alloc zero27 rfl rfl rfl ?_
     rintro k102 w104 s106 s107 G105 Fk103
     have z108 := V.Fr.size G105
     try replace F_o := F_o.gr G105
     try replace Fk2 := Fk2.gr G105
     try replace Fk9 := Fk9.gr G105
     try replace F20 := F20.gr G105
     try replace Fk25 := Fk25.gr G105
     try replace F98 := F98.gr G105
     replace HG := HG.grow G105
     clear G105
     try simp only [V.cellsL, V.spliceL] at Fk103
     refine V.storeO Fk103 rfl rfl rfl rfl sz27 rfl rfl rfl rfl ?_
     rintro w109 G110 z112 Fs111
     clear Fk103
     have z113 := V.Fr.size G110
     first | replace F_o := F_o.mb G110 hD_o | clear F_o | skip
     first | replace Fk2 := Fk2.mv1 G110 (by omega) | clear Fk2 | skip
     first | replace Fk9 := Fk9.mv1 G110 (by omega) | clear Fk9 | skip
     first | replace F20 := F20.ma G110 | clear F20 | skip
     first | replace Fk25 := Fk25.mv1 G110 (by omega) | clear Fk25 | skip
     first | replace F98 := F98.ma G110 | clear F98 | skip
     replace HG := HG.n1 G110
     clear G110
     have Fk103 := Fs111; clear Fs111
     simp only [V.spliceL, V.cellsL] at Fk103
     refine V.run T_ok 1 rfl ?_
     refine V.nil ?_
     refine V.tN ?_
     refine V.seq ?_
     refine V.seq ?_
     refine V.region ?_
     refine V.run T_ok 2 rfl ?_
     refine V.nil ?_
     refine V.tN ?_
     refine V.condT rfl (fun h9 => ?_) (fun h9 => ?_)
     ·
      try replace h9 := V.dec h9
      try simp only [V.mk0, V.mk1, V.mk2, V.mk3] at h9
      refine V.seq ?_
      refine V.region ?_
      refine V.call (alive_spec) rfl rfl rfl ?_
      rintro _ w114 ⟨rfl, G115⟩
      have z116 := V.Fr.size G115
      try replace F_o := F_o.gr G115
      try replace Fk2 := Fk2.gr G115
      try replace Fk9 := Fk9.gr G115
      try replace F20 := F20.gr G115
      try replace Fk25 := Fk25.gr G115
      try replace F98 := F98.gr G115
      try replace Fk103 := Fk103.gr G115
      replace HG := HG.grow G115
      clear G115
      refine V.run T_ok 1 rfl ?_
      refine V.nil ?_
      refine V.tN ?_
      refine V.ret ?_
      refine V.tR ?_
      refine V.done rfl ?_
      exact ⟨(congrArg Value.bool (by first | rfl | (grind))), HG⟩
     ·
      try replace h9 := V.dec h9
      try simp only [V.mk0, V.mk1, V.mk2, V.mk3] at h9
      refine V.skip ?_
      refine V.tN ?_
      refine V.seq ?_
      obtain ⟨f1, f2, f3⟩ := beats_next h9 e7 e8 e9 e2
      generalize rBeat pv.1 ep mw ml = pw at F98 Fk103 f1 f2 f3 ⊢
      refine V.region ?_
      refine V.run T_ok 1 rfl ?_
      refine V.loadO T_ok Fk25 rfl rfl rfl rfl rfl ?_
      refine V.run T_ok 1 rfl ?_
      refine V.loadO T_ok Fk2 rfl rfl rfl rfl rfl ?_
      refine V.call (lessS_spec (a := pv.1.bw) (b := pv.1.bl) (x := d.bw) (y := d.bl)) rfl rfl rfl ?_
      rintro _ w117 ⟨rfl, G118⟩
      have z119 := V.Fr.size G118
      try replace F_o := F_o.gr G118
      try replace Fk2 := Fk2.gr G118
      try replace Fk9 := Fk9.gr G118
      try replace F20 := F20.gr G118
      try replace Fk25 := Fk25.gr G118
      try replace F98 := F98.gr G118
      try replace Fk103 := Fk103.gr G118
      replace HG := HG.grow G118
      clear G118
      refine V.run T_ok 2 rfl ?_
      refine V.splitT (j := 6) (t := 83) rfl rfl (by (rw [e3]; rfl)) ?_
      refine V.run T_ok 1 rfl ?_
      refine V.yes rfl rfl rfl ?_
      refine V.loadO T_ok Fk25 rfl rfl rfl rfl rfl ?_
      refine V.yes rfl rfl rfl ?_
      refine V.elemP T_ok rfl rfl rfl rfl rfl rfl (by first | omega | decide) (by first | omega | decide) ?_
      refine V.yes rfl rfl rfl ?_
      refine V.loadO T_ok Fk9 rfl rfl rfl rfl rfl ?_
      refine V.yes rfl rfl rfl ?_
      refine V.call (lessS_spec (a := pv.1.bw) (b := pv.1.bl) (x := nw) (y := nl)) rfl rfl rfl ?_
      rintro _ w120 ⟨rfl, G121⟩
      have z122 := V.Fr.size G121
      try replace F_o := F_o.gr G121
      try replace Fk2 := Fk2.gr G121
      try replace Fk9 := Fk9.gr G121
      try replace F20 := F20.gr G121
      try replace Fk25 := Fk25.gr G121
      try replace F98 := F98.gr G121
      try replace Fk103 := Fk103.gr G121
      replace HG := HG.grow G121
      clear G121
      refine V.run T_ok 3 rfl ?_
      refine V.splitT (j := 14) (t := 91) rfl rfl (by (rw [e4]; rfl)) ?_
      refine V.run T_ok 1 rfl ?_
      refine V.yes rfl rfl rfl ?_
      refine V.loadO T_ok Fk103 rfl rfl rfl rfl rfl ?_
      refine V.run T_ok 1 rfl ?_
      refine V.yes rfl rfl rfl ?_
      refine V.loadO T_ok Fk25 rfl rfl rfl rfl rfl ?_
      refine V.yes rfl rfl rfl ?_
      refine V.call (lessS_spec (a := pw.1.bw) (b := pw.1.bl) (x := pv.1.bw) (y := pv.1.bl)) rfl rfl rfl ?_
      rintro _ w123 ⟨rfl, G124⟩
      have z125 := V.Fr.size G124
      try replace F_o := F_o.gr G124
      try replace Fk2 := Fk2.gr G124
      try replace Fk9 := Fk9.gr G124
      try replace F20 := F20.gr G124
      try replace Fk25 := Fk25.gr G124
      try replace F98 := F98.gr G124
      try replace Fk103 := Fk103.gr G124
      replace HG := HG.grow G124
      clear G124
      refine V.run T_ok 3 rfl ?_
      refine V.splitT (j := 22) (t := 99) rfl rfl (by (rw [f2]; rfl)) ?_
      refine V.run T_ok 1 rfl ?_
      refine V.yes rfl rfl rfl ?_
      refine V.loadO T_ok Fk103 rfl rfl rfl rfl rfl ?_
      refine V.yes rfl rfl rfl ?_
      refine V.elemP T_ok rfl rfl rfl rfl rfl rfl (by first | omega | decide) (by first | omega | decide) ?_
      refine V.yes rfl rfl rfl ?_
      refine V.loadO T_ok Fk9 rfl rfl rfl rfl rfl ?_
      refine V.yes rfl rfl rfl ?_
      refine V.call (lessS_spec (a := pw.1.bw) (b := pw.1.bl) (x := mw) (y := ml)) rfl rfl rfl ?_
      rintro _ w126 ⟨rfl, G127⟩
      have z128 := V.Fr.size G127
      try replace F_o := F_o.gr G127
      try replace Fk2 := Fk2.gr G127
      try replace Fk9 := Fk9.gr G127
      try replace F20 := F20.gr G127
      try replace Fk25 := Fk25.gr G127
      try replace F98 := F98.gr G127
      try replace Fk103 := Fk103.gr G127
      replace HG := HG.grow G127
      clear G127
      refine V.run T_ok 3 rfl ?_
      refine V.nil ?_
      refine V.tN ?_
      refine V.seq ?_
      refine V.region ?_
      refine V.run T_ok 1 rfl ?_
      refine V.loadO T_ok Fk2 rfl rfl rfl rfl rfl ?_
      refine V.run T_ok 2 rfl ?_
      refine V.split (j := 3) (t := 110) rfl rfl (fun g12_3 => ?_) (fun g12_3 => ?_)
      ·
       try replace g12_3 := V.dec g12_3
       try simp only [V.mk0, V.mk1, V.mk2, V.mk3] at g12_3
       refine V.run T_ok 6 rfl ?_
       refine V.nil ?_
       refine V.tN ?_
       refine V.seq ?_
       refine V.region ?_
       refine V.call (alive_spec) rfl rfl rfl ?_
       rintro _ w129 ⟨rfl, G130⟩
       have z131 := V.Fr.size G130
       try replace F_o := F_o.gr G130
       try replace Fk2 := Fk2.gr G130
       try replace Fk9 := Fk9.gr G130
       try replace F20 := F20.gr G130
       try replace Fk25 := Fk25.gr G130
       try replace F98 := F98.gr G130
       try replace Fk103 := Fk103.gr G130
       replace HG := HG.grow G130
       clear G130
       refine V.run T_ok 5 rfl ?_
       refine V.splitT (j := 5) (t := 121) rfl rfl (by (apply decide_eq_true; exact e1)) ?_
       refine V.run T_ok 4 rfl ?_
       refine V.splitT (j := 9) (t := 125) rfl rfl (by (apply decide_eq_true; exact f1)) ?_
       refine V.run T_ok 3 rfl ?_
       refine V.splitT (j := 12) (t := 128) rfl rfl (by (first | rfl | (rw [f3]; rfl))) ?_
       refine V.run T_ok 1 rfl ?_
       refine V.yes rfl rfl rfl ?_
       refine V.loadO T_ok Fk25 rfl rfl rfl rfl rfl ?_
       refine V.run T_ok 4 rfl ?_
       refine V.splitT (j := 18) (t := 134) rfl rfl (by (apply decide_eq_true; exact e2)) ?_
       refine V.run T_ok 4 rfl ?_
       refine V.yes rfl rfl rfl ?_
       refine V.loadO T_ok Fk25 rfl rfl rfl rfl rfl ?_
       refine V.run T_ok 2 rfl ?_
       refine V.split (j := 25) (t := 141) rfl rfl (fun g13_25 => ?_) (fun g13_25 => ?_)
       ·
        try replace g13_25 := V.dec g13_25
        try simp only [V.mk0, V.mk1, V.mk2, V.mk3] at g13_25
        refine V.run T_ok 1 rfl ?_
        refine V.yes rfl rfl rfl ?_
        refine V.loadO T_ok Fk25 rfl rfl rfl rfl rfl ?_
        refine V.run T_ok 6 rfl ?_
        refine V.split (j := 33) (t := 149) rfl rfl (fun g13_33 => ?_) (fun g13_33 => ?_)
        ·
         try replace g13_33 := V.dec g13_33
         try simp only [V.mk0, V.mk1, V.mk2, V.mk3] at g13_33
         refine V.run T_ok 10 rfl ?_
         refine V.nil ?_
         refine V.tN ?_
         refine V.ret ?_
         refine V.done rfl ?_
         exact ⟨(congrArg Value.bool (by first | rfl | (grind))), HG⟩
        ·
         try replace g13_33 := V.dec g13_33
         try simp only [V.mk0, V.mk1, V.mk2, V.mk3] at g13_33
         refine V.run T_ok 10 rfl ?_
         refine V.nil ?_
         refine V.tN ?_
         refine V.ret ?_
         refine V.done rfl ?_
         exact ⟨(congrArg Value.bool (by first | rfl | (grind))), HG⟩
       ·
        try replace g13_25 := V.dec g13_25
        try simp only [V.mk0, V.mk1, V.mk2, V.mk3] at g13_25
        refine V.run T_ok 18 rfl ?_
        refine V.nil ?_
        refine V.tN ?_
        refine V.ret ?_
        refine V.done rfl ?_
        exact ⟨(congrArg Value.bool (by first | rfl | (grind))), HG⟩
      ·
       try replace g12_3 := V.dec g12_3
       try simp only [V.mk0, V.mk1, V.mk2, V.mk3] at g12_3
       refine V.run T_ok 1 rfl ?_
       refine V.yes rfl rfl rfl ?_
       refine V.loadO T_ok Fk2 rfl rfl rfl rfl rfl ?_
       refine V.run T_ok 4 rfl ?_
       refine V.nil ?_
       refine V.tN ?_
       refine V.seq ?_
       refine V.region ?_
       refine V.call (alive_spec) rfl rfl rfl ?_
       rintro _ w132 ⟨rfl, G133⟩
       have z134 := V.Fr.size G133
       try replace F_o := F_o.gr G133
       try replace Fk2 := Fk2.gr G133
       try replace Fk9 := Fk9.gr G133
       try replace F20 := F20.gr G133
       try replace Fk25 := Fk25.gr G133
       try replace F98 := F98.gr G133
       try replace Fk103 := Fk103.gr G133
       replace HG := HG.grow G133
       clear G133
       refine V.run T_ok 5 rfl ?_
       refine V.splitT (j := 5) (t := 121) rfl rfl (by (apply decide_eq_true; exact e1)) ?_
       refine V.run T_ok 4 rfl ?_
       refine V.splitT (j := 9) (t := 125) rfl rfl (by (apply decide_eq_true; exact f1)) ?_
       refine V.run T_ok 3 rfl ?_
       refine V.splitT (j := 12) (t := 128) rfl rfl (by (first | rfl | (rw [f3]; rfl))) ?_
       refine V.run T_ok 1 rfl ?_
       refine V.yes rfl rfl rfl ?_
       refine V.loadO T_ok Fk25 rfl rfl rfl rfl rfl ?_
       refine V.run T_ok 4 rfl ?_
       refine V.splitT (j := 18) (t := 134) rfl rfl (by (apply decide_eq_true; exact e2)) ?_
       refine V.run T_ok 3 rfl ?_
       refine V.split (j := 21) (t := 137) rfl rfl (fun g13_21 => ?_) (fun g13_21 => ?_)
       ·
        try replace g13_21 := V.dec g13_21
        try simp only [V.mk0, V.mk1, V.mk2, V.mk3] at g13_21
        refine V.run T_ok 14 rfl ?_
        refine V.split (j := 35) (t := 151) rfl rfl (fun g13_35 => ?_) (fun g13_35 => ?_)
        ·
         try replace g13_35 := V.dec g13_35
         try simp only [V.mk0, V.mk1, V.mk2, V.mk3] at g13_35
         refine V.run T_ok 8 rfl ?_
         refine V.nil ?_
         refine V.tN ?_
         refine V.ret ?_
         refine V.done rfl ?_
         exact ⟨(congrArg Value.bool (by first | rfl | (grind))), HG⟩
        ·
         try replace g13_35 := V.dec g13_35
         try simp only [V.mk0, V.mk1, V.mk2, V.mk3] at g13_35
         refine V.run T_ok 1 rfl ?_
         refine V.yes rfl rfl rfl ?_
         refine V.loadO T_ok Fk25 rfl rfl rfl rfl rfl ?_
         refine V.run T_ok 1 rfl ?_
         refine V.yes rfl rfl rfl ?_
         refine V.loadO T_ok Fk2 rfl rfl rfl rfl rfl ?_
         refine V.run T_ok 4 rfl ?_
         refine V.nil ?_
         refine V.tN ?_
         refine V.ret ?_
         refine V.done rfl ?_
         exact ⟨(congrArg Value.bool (by first | rfl | (grind))), HG⟩
       ·
        try replace g13_21 := V.dec g13_21
        try simp only [V.mk0, V.mk1, V.mk2, V.mk3] at g13_21
        refine V.run T_ok 1 rfl ?_
        refine V.yes rfl rfl rfl ?_
        refine V.loadO T_ok Fk25 rfl rfl rfl rfl rfl ?_
        refine V.run T_ok 2 rfl ?_
        refine V.split (j := 25) (t := 141) rfl rfl (fun g13_25 => ?_) (fun g13_25 => ?_)
        ·
         try replace g13_25 := V.dec g13_25
         try simp only [V.mk0, V.mk1, V.mk2, V.mk3] at g13_25
         refine V.run T_ok 1 rfl ?_
         refine V.yes rfl rfl rfl ?_
         refine V.loadO T_ok Fk25 rfl rfl rfl rfl rfl ?_
         refine V.run T_ok 6 rfl ?_
         refine V.split (j := 33) (t := 149) rfl rfl (fun g13_33 => ?_) (fun g13_33 => ?_)
         ·
          try replace g13_33 := V.dec g13_33
          try simp only [V.mk0, V.mk1, V.mk2, V.mk3] at g13_33
          refine V.run T_ok 2 rfl ?_
          refine V.split (j := 35) (t := 151) rfl rfl (fun g13_35 => ?_) (fun g13_35 => ?_)
          ·
           try replace g13_35 := V.dec g13_35
           try simp only [V.mk0, V.mk1, V.mk2, V.mk3] at g13_35
           refine V.run T_ok 8 rfl ?_
           refine V.nil ?_
           refine V.tN ?_
           refine V.ret ?_
           refine V.done rfl ?_
           exact ⟨(congrArg Value.bool (by first | rfl | (grind))), HG⟩
          ·
           try replace g13_35 := V.dec g13_35
           try simp only [V.mk0, V.mk1, V.mk2, V.mk3] at g13_35
           refine V.run T_ok 1 rfl ?_
           refine V.yes rfl rfl rfl ?_
           refine V.loadO T_ok Fk25 rfl rfl rfl rfl rfl ?_
           refine V.run T_ok 1 rfl ?_
           refine V.yes rfl rfl rfl ?_
           refine V.loadO T_ok Fk2 rfl rfl rfl rfl rfl ?_
           refine V.run T_ok 4 rfl ?_
           refine V.nil ?_
           refine V.tN ?_
           refine V.ret ?_
           refine V.done rfl ?_
           exact ⟨(congrArg Value.bool (by first | rfl | (grind))), HG⟩
         ·
          try replace g13_33 := V.dec g13_33
          try simp only [V.mk0, V.mk1, V.mk2, V.mk3] at g13_33
          refine V.run T_ok 10 rfl ?_
          refine V.nil ?_
          refine V.tN ?_
          refine V.ret ?_
          refine V.done rfl ?_
          exact ⟨(congrArg Value.bool (by first | rfl | (grind))), HG⟩
        ·
         try replace g13_25 := V.dec g13_25
         try simp only [V.mk0, V.mk1, V.mk2, V.mk3] at g13_25
         refine V.run T_ok 18 rfl ?_
         refine V.nil ?_
         refine V.tN ?_
         refine V.ret ?_
         refine V.done rfl ?_
         exact ⟨(congrArg Value.bool (by first | rfl | (grind))), HG⟩

end Go.Proofs.Ytaokenlcjkomhaa
