/- Proved here: walks: what functions of this seat's program return and what they leave of memory, each as a contract. Conditions: stated at each theorem. -/
import Derived.Test.YtaokenlcjkomhaaMlr2
namespace Go.Proofs.Ytaokenlcjkomhaa
set_option linter.unusedVariables false
set_option linter.unusedSimpArgs false
open Go
open V (Bytes Meets Env Sl Own Gr Fr Cells S)
section
variable {d : RecV} {mi me sw sl nw nl pr : Int}
theorem push_law (h : ¬ (rPush d mi me sw sl nw nl pr).2 = 1) : (d.st = 3 ∨ d.st = 4 → (rPush d mi me sw sl nw nl pr).2 = 0 ∧ (rPush d mi me sw sl nw nl pr).1 = d) ∧
    (¬ (d.st = 3 ∨ d.st = 4) → ¬ pr < mi → ¬ IntKind.i64.wrap ((if d.st = 0 then sw else d.bw) + 40) < nw → (rPush d mi me sw sl nw nl pr).2 = 121 ∧ (rPush d mi me sw sl nw nl pr).1 = d) ∧
    (¬ (d.st = 3 ∨ d.st = 4) → (pr < mi ∨ IntKind.i64.wrap ((if d.st = 0 then sw else d.bw) + 40) < nw) → d.st = 2 → (rPush d mi me sw sl nw nl pr).2 = 123 ∧ (rPush d mi me sw sl nw nl pr).1 = d) ∧
    (¬ (d.st = 3 ∨ d.st = 4) → (pr < mi ∨ IntKind.i64.wrap ((if d.st = 0 then sw else d.bw) + 40) < nw) → ¬ d.st = 2 → (rPush d mi me sw sl nw nl pr).2 = 0 ∧ (rPush d mi me sw sl nw nl pr).1.st = 4) ∧
    ∀ x : RecV, x.st = 4 → rPush x mi me sw sl nw nl pr = (x, 0) := by
  generalize hb : IntKind.i64.wrap ((if d.st = 0 then sw else d.bw) + 40) = bb
  have hc : (0 ≤ me ∧ me ≤ 1099511627776) ∧ stR nw nl ∧ stR sw sl := by
    by_cases hc : (0 ≤ me ∧ me ≤ 1099511627776) ∧ stR nw nl ∧ stR sw sl
    · exact hc
    · exfalso; apply h; unfold rPush; rw [if_pos hc]
  have e : rPush d mi me sw sl nw nl pr = if d.st = 3 ∨ d.st = 4 then (d, 0) else if mi ≤ pr ∧ nw ≤ bb then (d, 121) else if d.st = 2 then (d, 123) else (decR d (max d.ep me) 0 0 false, 0) := by
    unfold rPush; rw [if_neg (fun hn => hn hc), hb]
  rw [e]
  refine ⟨fun h1 => ?_, fun h1 h2 h3 => ?_, fun h1 h2 h3 => ?_, fun h1 h2 h3 => ?_, fun x hx => ?_⟩
  · rw [if_pos h1]; exact ⟨rfl, rfl⟩
  · rw [if_neg h1, if_pos (by omega)]; exact ⟨rfl, rfl⟩
  · rw [if_neg h1, if_neg (by omega), if_pos h3]; exact ⟨rfl, rfl⟩
  · rw [if_neg h1, if_neg (by omega), if_neg h3]; exact ⟨rfl, rfl⟩
  · unfold rPush; rw [if_neg (fun hn => hn hc), if_pos (.inr hx)]
end

set_option maxHeartbeats 4000000 in
set_option maxRecDepth 10000 in
theorem recordPush_walk {w : World} {d : RecV} {D_o : Nat → Prop} {c_o : Nat} {a_o : Option Addr} (F_o : Sl V.Cod.write w D_o a_o c_o d.ws) (hD_o : ∀ k, D_o k → k < w.heap.size) {ki : Int} {ep : Int} {aw : Int} {al : Int} {nw : Int} {nl : Int} {D_ws : Nat → Prop} {c_ws : Nat} {a_ws : Option Addr} {ws : List (ByteArray × Int)} (F_ws : Sl V.Cod.write w D_ws a_ws c_ws ws) (hD_ws : ∀ k, D_ws k → k < w.heap.size) {co : Bool} {sg : Bool} {mi : Int} {me : Int} {an : ByteArray} {sw : Int} {sl : Int} {pr : Int} (hkr : keysOk d.ws) (hl : d.ws.length ≤ 5864062014805) :
    Meets Try.prog 5 [.agg #[.int .i64 d.id, .int .i64 d.ep, .int .i64 d.st, .int .i64 d.aw, .int .i64 d.al, .int .i64 d.bw, .int .i64 d.bl, .slice a_o d.ws.length c_o], .agg #[.int .i64 ki, .int .i64 ep, .int .i64 aw, .int .i64 al, .int .i64 nw, .int .i64 nl, .slice a_ws ws.length c_ws, .bool co, .bool sg, .int .i64 mi, .int .i64 me, .string an, .int .i64 sw, .int .i64 sl, .int .i64 pr]] w fun r w' => r = .bool true ∧ Gr w w' := by
 have HG := V.Fr.refl [] w
 refine V.enter (n := 132) Try.func5 rfl rfl (by decide) rfl ?_
 refine V.seq ?_
 refine V.region ?_
 refine V.box rfl rfl rfl rfl ?_
 rintro k1 w3 s5 s6 G4 Fk2
 have z7 := V.Fr.size G4
 try replace F_o := F_o.gr G4
 try replace F_ws := F_ws.gr G4
 replace HG := HG.grow G4
 clear G4
 try simp only [V.cellsL, V.spliceL] at Fk2
 refine V.box rfl rfl rfl rfl ?_
 rintro k8 w10 s12 s13 G11 Fk9
 have z14 := V.Fr.size G11
 try replace F_o := F_o.gr G11
 try replace F_ws := F_ws.gr G11
 try replace Fk2 := Fk2.gr G11
 replace HG := HG.grow G11
 clear G11
 try simp only [V.cellsL, V.spliceL] at Fk9
 refine V.run T_ok 1 rfl ?_
 refine V.nil ?_
 refine V.tN ?_
 refine V.seq ?_
 refine V.region ?_
 refine V.loadO T_ok Fk2 rfl rfl rfl rfl rfl ?_
 refine V.call (fitsR_spec (d := d) F_o (fun k hk => by have := hD_o k hk; omega) (by first | assumption | (unfold keysOk; decide))) rfl rfl rfl ?_
 rintro _ w15 ⟨rfl, G16⟩
 have z17 := V.Fr.size G16
 try replace F_o := F_o.gr G16
 try replace F_ws := F_ws.gr G16
 try replace Fk2 := Fk2.gr G16
 try replace Fk9 := Fk9.gr G16
 replace HG := HG.grow G16
 clear G16
 refine V.run T_ok 1 rfl ?_
 refine V.nil ?_
 refine V.tN ?_
 refine V.seq ?_
 refine V.region ?_
 refine V.run T_ok 1 rfl ?_
 refine V.loadO T_ok Fk9 rfl rfl rfl rfl rfl ?_
 refine V.alloc zero29 rfl rfl rfl ?_
 rintro k18 w20 s22 s23 G21 Fk19
 have z24 := V.Fr.size G21
 try replace F_o := F_o.gr G21
 try replace F_ws := F_ws.gr G21
 try replace Fk2 := Fk2.gr G21
 try replace Fk9 := Fk9.gr G21
 replace HG := HG.grow G21
 clear G21
 try simp only [V.cellsL, V.spliceL] at Fk19
 refine V.storeO Fk19 rfl rfl rfl rfl sz29 rfl rfl rfl rfl ?_
 rintro w25 G26 z28 Fs27
 clear Fk19
 have z29 := V.Fr.size G26
 first | replace F_o := F_o.mb G26 hD_o | clear F_o | skip
 first | replace F_ws := F_ws.mb G26 hD_ws | clear F_ws | skip
 first | replace Fk2 := Fk2.mv1 G26 (by omega) | clear Fk2 | skip
 first | replace Fk9 := Fk9.mv1 G26 (by omega) | clear Fk9 | skip
 replace HG := HG.n1 G26
 clear G26
 have Fk19 := Fs27; clear Fs27
 simp only [V.spliceL, V.cellsL] at Fk19
 refine V.nil ?_
 refine V.tN ?_
 refine V.seq ?_
 refine V.region ?_
 refine V.run T_ok 1 rfl ?_
 refine V.loadO T_ok Fk9 rfl rfl rfl rfl rfl ?_
 refine V.alloc zero24 rfl rfl rfl ?_
 rintro k30 w32 s34 s35 G33 Fk31
 have z36 := V.Fr.size G33
 try replace F_o := F_o.gr G33
 try replace F_ws := F_ws.gr G33
 try replace Fk2 := Fk2.gr G33
 try replace Fk9 := Fk9.gr G33
 try replace Fk19 := Fk19.gr G33
 replace HG := HG.grow G33
 clear G33
 try simp only [V.cellsL, V.spliceL] at Fk31
 refine V.storeO Fk31 rfl rfl rfl rfl sz24 rfl rfl rfl rfl ?_
 rintro w37 G38 z40 Fs39
 clear Fk31
 have z41 := V.Fr.size G38
 first | replace F_o := F_o.mb G38 hD_o | clear F_o | skip
 first | replace F_ws := F_ws.mb G38 hD_ws | clear F_ws | skip
 first | replace Fk2 := Fk2.mv1 G38 (by omega) | clear Fk2 | skip
 first | replace Fk9 := Fk9.mv1 G38 (by omega) | clear Fk9 | skip
 first | replace Fk19 := Fk19.mv1 G38 (by omega) | clear Fk19 | skip
 replace HG := HG.n1 G38
 clear G38
 have Fk31 := Fs39; clear Fs39
 simp only [V.spliceL, V.cellsL] at Fk31
 refine V.nil ?_
 refine V.tN ?_
 refine V.seq ?_
 refine V.region ?_
 refine V.run T_ok 1 rfl ?_
 refine V.loadO T_ok Fk9 rfl rfl rfl rfl rfl ?_
 refine V.run T_ok 1 rfl ?_
 refine V.nil ?_
 refine V.tN ?_
 refine V.seq ?_
 refine V.region ?_
 refine V.loadO T_ok Fk2 rfl rfl rfl rfl rfl ?_
 refine V.loadO T_ok Fk19 rfl rfl rfl rfl rfl ?_
 refine V.loadO T_ok Fk31 rfl rfl rfl rfl rfl ?_
 refine V.run T_ok 1 rfl ?_
 refine V.call (push_spec (mi := mi) (me := me) (an := an) (sw := sw) (sl := sl) (nw := nw) (nl := nl) (pr := pr) (d := d) F_o (fun k hk => by have := hD_o k hk; omega) (by first | assumption | omega | decide)) rfl rfl rfl ?_
 rintro _ w45 ⟨a42, c43, rfl, F44, G46⟩
 have z47 := V.Fr.size G46
 try replace F_o := F_o.gr G46
 try replace F_ws := F_ws.gr G46
 try replace Fk2 := Fk2.gr G46
 try replace Fk9 := Fk9.gr G46
 try replace Fk19 := Fk19.gr G46
 try replace Fk31 := Fk31.gr G46
 replace HG := HG.grow G46
 clear G46
 refine V.run T_ok 3 rfl ?_
 refine V.alloc zero27 rfl rfl rfl ?_
 rintro k48 w50 s52 s53 G51 Fk49
 have z54 := V.Fr.size G51
 try replace F_o := F_o.gr G51
 try replace F_ws := F_ws.gr G51
 try replace Fk2 := Fk2.gr G51
 try replace Fk9 := Fk9.gr G51
 try replace Fk19 := Fk19.gr G51
 try replace Fk31 := Fk31.gr G51
 try replace F44 := F44.gr G51
 replace HG := HG.grow G51
 clear G51
 try simp only [V.cellsL, V.spliceL] at Fk49
 refine V.storeO Fk49 rfl rfl rfl rfl sz27 rfl rfl rfl rfl ?_
 rintro w55 G56 z58 Fs57
 clear Fk49
 have z59 := V.Fr.size G56
 first | replace F_o := F_o.mb G56 hD_o | clear F_o | skip
 first | replace F_ws := F_ws.mb G56 hD_ws | clear F_ws | skip
 first | replace Fk2 := Fk2.mv1 G56 (by omega) | clear Fk2 | skip
 first | replace Fk9 := Fk9.mv1 G56 (by omega) | clear Fk9 | skip
 first | replace Fk19 := Fk19.mv1 G56 (by omega) | clear Fk19 | skip
 first | replace Fk31 := Fk31.mv1 G56 (by omega) | clear Fk31 | skip
 first | replace F44 := F44.ma G56 | clear F44 | skip
 replace HG := HG.n1 G56
 clear G56
 have Fk49 := Fs57; clear Fs57
 simp only [V.spliceL, V.cellsL] at Fk49
 refine V.run T_ok 1 rfl ?_
 refine V.nil ?_
 refine V.tN ?_
 refine V.seq ?_
 refine V.seq ?_
 refine V.region ?_
 refine V.run T_ok 3 rfl ?_
 refine V.orG T_ok 2 2 34 rfl rfl rfl rfl rfl rfl rfl rfl ?_
 refine V.nil ?_
 refine V.tN ?_
 refine V.condT rfl (fun h6 => ?_) (fun h6 => ?_)
 ·
  try replace h6 := V.dec h6
  try simp only [V.mk0, V.mk1, V.mk2, V.mk3] at h6
  refine V.seq ?_
  refine V.region ?_
  refine V.call (alive_spec) rfl rfl rfl ?_
  rintro _ w60 ⟨rfl, G61⟩
  have z62 := V.Fr.size G61
  try replace F_o := F_o.gr G61
  try replace F_ws := F_ws.gr G61
  try replace Fk2 := Fk2.gr G61
  try replace Fk9 := Fk9.gr G61
  try replace Fk19 := Fk19.gr G61
  try replace Fk31 := Fk31.gr G61
  try replace F44 := F44.gr G61
  try replace Fk49 := Fk49.gr G61
  replace HG := HG.grow G61
  clear G61
  refine V.run T_ok 1 rfl ?_
  refine V.nil ?_
  refine V.tN ?_
  refine V.ret ?_
  refine V.tR ?_
  refine V.done rfl ?_
  exact ⟨(by first | rfl | simp only [List.length_set]), HG⟩
 ·
  try replace h6 := V.dec h6
  try simp only [V.mk0, V.mk1, V.mk2, V.mk3] at h6
  refine V.skip ?_
  refine V.tN ?_
  refine V.seq ?_
  obtain ⟨hfr, hne⟩ := h6
  obtain ⟨hlr, hrb⟩ := fitsR_len hfr
  have hw8 : (rPush d mi me sw sl nw nl pr).1.ws.length ≤ 8 := (rB_len (push_right hrb)).1
  obtain ⟨hp1, hp2, hp3, hp4, hag⟩ := push_law hne
  clear hne
  generalize rPush d mi me sw sl nw nl pr = pv at F44 Fk49 hw8 hp1 hp2 hp3 hp4 ⊢
  refine V.region ?_
  refine V.run T_ok 1 rfl ?_
  refine V.loadO T_ok Fk2 rfl rfl rfl rfl rfl ?_
  refine V.run T_ok 2 rfl ?_
  refine V.split (j := 3) (t := 42) rfl rfl (fun g8_3 => ?_) (fun g8_3 => ?_)
  ·
   try replace g8_3 := V.dec g8_3
   try simp only [V.mk0, V.mk1, V.mk2, V.mk3] at g8_3
   refine V.run T_ok 5 rfl ?_
   refine V.nil ?_
   refine V.tN ?_
   refine V.seq ?_
   refine V.region ?_
   refine V.run T_ok 1 rfl ?_
   refine V.loadO T_ok Fk2 rfl rfl rfl rfl rfl ?_
   refine V.alloc zero24 rfl rfl rfl ?_
   rintro k63 w65 s67 s68 G66 Fk64
   have z69 := V.Fr.size G66
   try replace F_o := F_o.gr G66
   try replace F_ws := F_ws.gr G66
   try replace Fk2 := Fk2.gr G66
   try replace Fk9 := Fk9.gr G66
   try replace Fk19 := Fk19.gr G66
   try replace Fk31 := Fk31.gr G66
   try replace F44 := F44.gr G66
   try replace Fk49 := Fk49.gr G66
   replace HG := HG.grow G66
   clear G66
   try simp only [V.cellsL, V.spliceL] at Fk64
   refine V.storeO Fk64 rfl rfl rfl rfl sz24 rfl rfl rfl rfl ?_
   rintro w70 G71 z73 Fs72
   clear Fk64
   have z74 := V.Fr.size G71
   first | replace F_o := F_o.mb G71 hD_o | clear F_o | skip
   first | replace F_ws := F_ws.mb G71 hD_ws | clear F_ws | skip
   first | replace Fk2 := Fk2.mv1 G71 (by omega) | clear Fk2 | skip
   first | replace Fk9 := Fk9.mv1 G71 (by omega) | clear Fk9 | skip
   first | replace Fk19 := Fk19.mv1 G71 (by omega) | clear Fk19 | skip
   first | replace Fk31 := Fk31.mv1 G71 (by omega) | clear Fk31 | skip
   first | replace F44 := F44.ma G71 | clear F44 | skip
   first | replace Fk49 := Fk49.mv1 G71 (by omega) | clear Fk49 | skip
   replace HG := HG.n1 G71
   clear G71
   have Fk64 := Fs72; clear Fs72
   simp only [V.spliceL, V.cellsL] at Fk64
   refine V.nil ?_
   refine V.tN ?_
   refine V.seq ?_
   refine V.seq ?_
   refine V.region ?_
   refine V.run T_ok 1 rfl ?_
   refine V.loadO T_ok Fk2 rfl rfl rfl rfl rfl ?_
   refine V.run T_ok 1 rfl ?_
   refine V.nil ?_
   refine V.tN ?_
   refine V.condT rfl (fun h10 => ?_) (fun h10 => ?_)
   ·
    try replace h10 := V.dec h10
    try simp only [V.mk0, V.mk1, V.mk2, V.mk3] at h10
    refine V.region ?_
    refine V.run T_ok 1 rfl ?_
    refine V.loadO T_ok Fk19 rfl rfl rfl rfl rfl ?_
    refine V.storeO Fk64 rfl rfl rfl rfl sz24 rfl rfl rfl rfl ?_
    rintro w75 G76 z78 Fs77
    clear Fk64
    have z79 := V.Fr.size G76
    first | replace F_o := F_o.mb G76 hD_o | clear F_o | skip
    first | replace F_ws := F_ws.mb G76 hD_ws | clear F_ws | skip
    first | replace Fk2 := Fk2.mv1 G76 (by omega) | clear Fk2 | skip
    first | replace Fk9 := Fk9.mv1 G76 (by omega) | clear Fk9 | skip
    first | replace Fk19 := Fk19.mv1 G76 (by omega) | clear Fk19 | skip
    first | replace Fk31 := Fk31.mv1 G76 (by omega) | clear Fk31 | skip
    first | replace F44 := F44.ma G76 | clear F44 | skip
    first | replace Fk49 := Fk49.mv1 G76 (by omega) | clear Fk49 | skip
    replace HG := HG.n1 G76
    clear G76
    have Fk64 := Fs77; clear Fs77
    simp only [V.spliceL, V.cellsL] at Fk64
    refine V.nil ?_
    refine V.tN ?_
    refine V.seq ?_
    refine V.region ?_
    refine V.run T_ok 2 rfl ?_
    refine V.loadO T_ok Fk19 rfl rfl rfl rfl rfl ?_
    refine V.run T_ok 2 rfl ?_
    refine V.split (j := 4) (t := 58) rfl rfl (fun g12_4 => ?_) (fun g12_4 => ?_)
    ·
     try replace g12_4 := V.dec g12_4
     try simp only [V.mk0, V.mk1, V.mk2, V.mk3] at g12_4
     refine V.run T_ok 8 rfl ?_
     refine V.nil ?_
     refine V.tN ?_
     refine V.seq ?_
     refine V.block ?_
     refine V.seq ?_
     refine V.region ?_
     refine V.run T_ok 2 rfl ?_
     refine V.nil ?_
     refine V.tN ?_
     refine V.condY rfl rfl ?_
     refine V.seq ?_
     refine V.region ?_
     refine V.call (alive_spec) rfl rfl rfl ?_
     rintro _ w80 ⟨rfl, G81⟩
     have z82 := V.Fr.size G81
     try replace F_o := F_o.gr G81
     try replace F_ws := F_ws.gr G81
     try replace Fk2 := Fk2.gr G81
     try replace Fk9 := Fk9.gr G81
     try replace Fk19 := Fk19.gr G81
     try replace Fk31 := Fk31.gr G81
     try replace F44 := F44.gr G81
     try replace Fk49 := Fk49.gr G81
     try replace Fk64 := Fk64.gr G81
     replace HG := HG.grow G81
     clear G81
     refine V.run T_ok 5 rfl ?_
     refine V.splitT (j := 5) (t := 73) rfl rfl (by (apply decide_eq_true; exact (hp1 (by first | exact .inl (by assumption) | exact .inr (by assumption))).1)) ?_
     refine V.yes rfl rfl rfl ?_
     refine V.loadO T_ok Fk49 rfl rfl rfl rfl rfl ?_
     refine V.yes rfl rfl rfl ?_
     refine V.loadO T_ok Fk2 rfl rfl rfl rfl rfl ?_
     refine V.yes rfl rfl rfl ?_
     refine V.call (same_spec (d := pv.1) (x := d) F44 (fun k hk => by have := hk.2; omega) F_o (fun k hk => by have := hD_o k hk; omega)) rfl rfl rfl ?_
     rintro _ w80_ ⟨rfl, G84⟩
     have z85 := V.Fr.size G84
     try replace F_o := F_o.gr G84
     try replace F_ws := F_ws.gr G84
     try replace Fk2 := Fk2.gr G84
     try replace Fk9 := Fk9.gr G84
     try replace Fk19 := Fk19.gr G84
     try replace Fk31 := Fk31.gr G84
     try replace F44 := F44.gr G84
     try replace Fk49 := Fk49.gr G84
     try replace Fk64 := Fk64.gr G84
     replace HG := HG.grow G84
     clear G84
     refine V.run T_ok 2 rfl ?_
     refine V.nil ?_
     refine V.tN ?_
     refine V.ret ?_
     refine V.bR ?_
     refine V.tR ?_
     refine V.done rfl ?_
     exact ⟨congrArg Value.bool (by rw [(hp1 (by first | exact .inl (by assumption) | exact .inr (by assumption))).2]; exact sameR_self d), HG⟩
    ·
     try replace g12_4 := V.dec g12_4
     try simp only [V.mk0, V.mk1, V.mk2, V.mk3] at g12_4
     refine V.run T_ok 1 rfl ?_
     refine V.yes rfl rfl rfl ?_
     refine V.loadO T_ok Fk64 rfl rfl rfl rfl rfl ?_
     refine V.yes rfl rfl rfl ?_
     refine V.run T_ok 1 rfl ?_
     refine V.run T_ok 1 rfl ?_
     refine V.yes rfl rfl rfl ?_
     refine V.loadO T_ok Fk31 rfl rfl rfl rfl rfl ?_
     refine V.run T_ok 3 rfl ?_
     refine V.nil ?_
     refine V.tN ?_
     refine V.seq ?_
     refine V.block ?_
     refine V.seq ?_
     refine V.region ?_
     refine V.run T_ok 2 rfl ?_
     refine V.nil ?_
     refine V.tN ?_
     refine V.condY rfl rfl ?_
     refine V.seq ?_
     refine V.region ?_
     refine V.call (alive_spec) rfl rfl rfl ?_
     rintro _ w86 ⟨rfl, G87⟩
     have z88 := V.Fr.size G87
     try replace F_o := F_o.gr G87
     try replace F_ws := F_ws.gr G87
     try replace Fk2 := Fk2.gr G87
     try replace Fk9 := Fk9.gr G87
     try replace Fk19 := Fk19.gr G87
     try replace Fk31 := Fk31.gr G87
     try replace F44 := F44.gr G87
     try replace Fk49 := Fk49.gr G87
     try replace Fk64 := Fk64.gr G87
     replace HG := HG.grow G87
     clear G87
     refine V.run T_ok 5 rfl ?_
     refine V.splitT (j := 5) (t := 73) rfl rfl (by (apply decide_eq_true; exact (hp1 (by first | exact .inl (by assumption) | exact .inr (by assumption))).1)) ?_
     refine V.yes rfl rfl rfl ?_
     refine V.loadO T_ok Fk49 rfl rfl rfl rfl rfl ?_
     refine V.yes rfl rfl rfl ?_
     refine V.loadO T_ok Fk2 rfl rfl rfl rfl rfl ?_
     refine V.yes rfl rfl rfl ?_
     refine V.call (same_spec (d := pv.1) (x := d) F44 (fun k hk => by have := hk.2; omega) F_o (fun k hk => by have := hD_o k hk; omega)) rfl rfl rfl ?_
     rintro _ w86_ ⟨rfl, G90⟩
     have z91 := V.Fr.size G90
     try replace F_o := F_o.gr G90
     try replace F_ws := F_ws.gr G90
     try replace Fk2 := Fk2.gr G90
     try replace Fk9 := Fk9.gr G90
     try replace Fk19 := Fk19.gr G90
     try replace Fk31 := Fk31.gr G90
     try replace F44 := F44.gr G90
     try replace Fk49 := Fk49.gr G90
     try replace Fk64 := Fk64.gr G90
     replace HG := HG.grow G90
     clear G90
     refine V.run T_ok 2 rfl ?_
     refine V.nil ?_
     refine V.tN ?_
     refine V.ret ?_
     refine V.bR ?_
     refine V.tR ?_
     refine V.done rfl ?_
     exact ⟨congrArg Value.bool (by rw [(hp1 (by first | exact .inl (by assumption) | exact .inr (by assumption))).2]; exact sameR_self d), HG⟩
   ·
    try replace h10 := V.dec h10
    try simp only [V.mk0, V.mk1, V.mk2, V.mk3] at h10
    refine V.skip ?_
    refine V.tN ?_
    refine V.seq ?_
    refine V.region ?_
    refine V.run T_ok 2 rfl ?_
    refine V.loadO T_ok Fk19 rfl rfl rfl rfl rfl ?_
    refine V.run T_ok 2 rfl ?_
    refine V.split (j := 4) (t := 58) rfl rfl (fun g12_4 => ?_) (fun g12_4 => ?_)
    ·
     try replace g12_4 := V.dec g12_4
     try simp only [V.mk0, V.mk1, V.mk2, V.mk3] at g12_4
     refine V.run T_ok 8 rfl ?_
     refine V.nil ?_
     refine V.tN ?_
     refine V.seq ?_
     refine V.block ?_
     refine V.seq ?_
     refine V.region ?_
     refine V.run T_ok 2 rfl ?_
     refine V.nil ?_
     refine V.tN ?_
     refine V.condY rfl rfl ?_
     refine V.seq ?_
     refine V.region ?_
     refine V.call (alive_spec) rfl rfl rfl ?_
     rintro _ w92 ⟨rfl, G93⟩
     have z94 := V.Fr.size G93
     try replace F_o := F_o.gr G93
     try replace F_ws := F_ws.gr G93
     try replace Fk2 := Fk2.gr G93
     try replace Fk9 := Fk9.gr G93
     try replace Fk19 := Fk19.gr G93
     try replace Fk31 := Fk31.gr G93
     try replace F44 := F44.gr G93
     try replace Fk49 := Fk49.gr G93
     try replace Fk64 := Fk64.gr G93
     replace HG := HG.grow G93
     clear G93
     refine V.run T_ok 5 rfl ?_
     refine V.splitT (j := 5) (t := 73) rfl rfl (by (apply decide_eq_true; exact (hp1 (by first | exact .inl (by assumption) | exact .inr (by assumption))).1)) ?_
     refine V.yes rfl rfl rfl ?_
     refine V.loadO T_ok Fk49 rfl rfl rfl rfl rfl ?_
     refine V.yes rfl rfl rfl ?_
     refine V.loadO T_ok Fk2 rfl rfl rfl rfl rfl ?_
     refine V.yes rfl rfl rfl ?_
     refine V.call (same_spec (d := pv.1) (x := d) F44 (fun k hk => by have := hk.2; omega) F_o (fun k hk => by have := hD_o k hk; omega)) rfl rfl rfl ?_
     rintro _ w92_ ⟨rfl, G96⟩
     have z97 := V.Fr.size G96
     try replace F_o := F_o.gr G96
     try replace F_ws := F_ws.gr G96
     try replace Fk2 := Fk2.gr G96
     try replace Fk9 := Fk9.gr G96
     try replace Fk19 := Fk19.gr G96
     try replace Fk31 := Fk31.gr G96
     try replace F44 := F44.gr G96
     try replace Fk49 := Fk49.gr G96
     try replace Fk64 := Fk64.gr G96
     replace HG := HG.grow G96
     clear G96
     refine V.run T_ok 2 rfl ?_
     refine V.nil ?_
     refine V.tN ?_
     refine V.ret ?_
     refine V.bR ?_
     refine V.tR ?_
     refine V.done rfl ?_
     exact ⟨congrArg Value.bool (by rw [(hp1 (by first | exact .inl (by assumption) | exact .inr (by assumption))).2]; exact sameR_self d), HG⟩
    ·
     try replace g12_4 := V.dec g12_4
     try simp only [V.mk0, V.mk1, V.mk2, V.mk3] at g12_4
     refine V.run T_ok 1 rfl ?_
     refine V.yes rfl rfl rfl ?_
     refine V.loadO T_ok Fk64 rfl rfl rfl rfl rfl ?_
     refine V.yes rfl rfl rfl ?_
     refine V.run T_ok 1 rfl ?_
     refine V.run T_ok 1 rfl ?_
     refine V.yes rfl rfl rfl ?_
     refine V.loadO T_ok Fk31 rfl rfl rfl rfl rfl ?_
     refine V.run T_ok 3 rfl ?_
     refine V.nil ?_
     refine V.tN ?_
     refine V.seq ?_
     refine V.block ?_
     refine V.seq ?_
     refine V.region ?_
     refine V.run T_ok 2 rfl ?_
     refine V.nil ?_
     refine V.tN ?_
     refine V.condY rfl rfl ?_
     refine V.seq ?_
     refine V.region ?_
     refine V.call (alive_spec) rfl rfl rfl ?_
     rintro _ w98 ⟨rfl, G99⟩
     have z100 := V.Fr.size G99
     try replace F_o := F_o.gr G99
     try replace F_ws := F_ws.gr G99
     try replace Fk2 := Fk2.gr G99
     try replace Fk9 := Fk9.gr G99
     try replace Fk19 := Fk19.gr G99
     try replace Fk31 := Fk31.gr G99
     try replace F44 := F44.gr G99
     try replace Fk49 := Fk49.gr G99
     try replace Fk64 := Fk64.gr G99
     replace HG := HG.grow G99
     clear G99
     refine V.run T_ok 5 rfl ?_
     refine V.splitT (j := 5) (t := 73) rfl rfl (by (apply decide_eq_true; exact (hp1 (by first | exact .inl (by assumption) | exact .inr (by assumption))).1)) ?_
     refine V.yes rfl rfl rfl ?_
     refine V.loadO T_ok Fk49 rfl rfl rfl rfl rfl ?_
     refine V.yes rfl rfl rfl ?_
     refine V.loadO T_ok Fk2 rfl rfl rfl rfl rfl ?_
     refine V.yes rfl rfl rfl ?_
     refine V.call (same_spec (d := pv.1) (x := d) F44 (fun k hk => by have := hk.2; omega) F_o (fun k hk => by have := hD_o k hk; omega)) rfl rfl rfl ?_
     rintro _ w98_ ⟨rfl, G102⟩
     have z103 := V.Fr.size G102
     try replace F_o := F_o.gr G102
     try replace F_ws := F_ws.gr G102
     try replace Fk2 := Fk2.gr G102
     try replace Fk9 := Fk9.gr G102
     try replace Fk19 := Fk19.gr G102
     try replace Fk31 := Fk31.gr G102
     try replace F44 := F44.gr G102
     try replace Fk49 := Fk49.gr G102
     try replace Fk64 := Fk64.gr G102
     replace HG := HG.grow G102
     clear G102
     refine V.run T_ok 2 rfl ?_
     refine V.nil ?_
     refine V.tN ?_
     refine V.ret ?_
     refine V.bR ?_
     refine V.tR ?_
     refine V.done rfl ?_
     exact ⟨congrArg Value.bool (by rw [(hp1 (by first | exact .inl (by assumption) | exact .inr (by assumption))).2]; exact sameR_self d), HG⟩
  ·
   try replace g8_3 := V.dec g8_3
   try simp only [V.mk0, V.mk1, V.mk2, V.mk3] at g8_3
   refine V.run T_ok 1 rfl ?_
   refine V.yes rfl rfl rfl ?_
   refine V.loadO T_ok Fk2 rfl rfl rfl rfl rfl ?_
   refine V.run T_ok 3 rfl ?_
   refine V.nil ?_
   refine V.tN ?_
   refine V.seq ?_
   refine V.region ?_
   refine V.run T_ok 1 rfl ?_
   refine V.loadO T_ok Fk2 rfl rfl rfl rfl rfl ?_
   refine V.alloc zero24 rfl rfl rfl ?_
   rintro k104 w106 s108 s109 G107 Fk105
   have z110 := V.Fr.size G107
   try replace F_o := F_o.gr G107
   try replace F_ws := F_ws.gr G107
   try replace Fk2 := Fk2.gr G107
   try replace Fk9 := Fk9.gr G107
   try replace Fk19 := Fk19.gr G107
   try replace Fk31 := Fk31.gr G107
   try replace F44 := F44.gr G107
   try replace Fk49 := Fk49.gr G107
   replace HG := HG.grow G107
   clear G107
   try simp only [V.cellsL, V.spliceL] at Fk105
   refine V.storeO Fk105 rfl rfl rfl rfl sz24 rfl rfl rfl rfl ?_
   rintro w111 G112 z114 Fs113
   clear Fk105
   have z115 := V.Fr.size G112
   first | replace F_o := F_o.mb G112 hD_o | clear F_o | skip
   first | replace F_ws := F_ws.mb G112 hD_ws | clear F_ws | skip
   first | replace Fk2 := Fk2.mv1 G112 (by omega) | clear Fk2 | skip
   first | replace Fk9 := Fk9.mv1 G112 (by omega) | clear Fk9 | skip
   first | replace Fk19 := Fk19.mv1 G112 (by omega) | clear Fk19 | skip
   first | replace Fk31 := Fk31.mv1 G112 (by omega) | clear Fk31 | skip
   first | replace F44 := F44.ma G112 | clear F44 | skip
   first | replace Fk49 := Fk49.mv1 G112 (by omega) | clear Fk49 | skip
   replace HG := HG.n1 G112
   clear G112
   have Fk105 := Fs113; clear Fs113
   simp only [V.spliceL, V.cellsL] at Fk105
   refine V.nil ?_
   refine V.tN ?_
   refine V.seq ?_
   refine V.seq ?_
   refine V.region ?_
   refine V.run T_ok 1 rfl ?_
   refine V.loadO T_ok Fk2 rfl rfl rfl rfl rfl ?_
   refine V.run T_ok 1 rfl ?_
   refine V.nil ?_
   refine V.tN ?_
   refine V.condT rfl (fun h10 => ?_) (fun h10 => ?_)
   ·
    try replace h10 := V.dec h10
    try simp only [V.mk0, V.mk1, V.mk2, V.mk3] at h10
    refine V.region ?_
    refine V.run T_ok 1 rfl ?_
    refine V.loadO T_ok Fk19 rfl rfl rfl rfl rfl ?_
    refine V.storeO Fk105 rfl rfl rfl rfl sz24 rfl rfl rfl rfl ?_
    rintro w116 G117 z119 Fs118
    clear Fk105
    have z120 := V.Fr.size G117
    first | replace F_o := F_o.mb G117 hD_o | clear F_o | skip
    first | replace F_ws := F_ws.mb G117 hD_ws | clear F_ws | skip
    first | replace Fk2 := Fk2.mv1 G117 (by omega) | clear Fk2 | skip
    first | replace Fk9 := Fk9.mv1 G117 (by omega) | clear Fk9 | skip
    first | replace Fk19 := Fk19.mv1 G117 (by omega) | clear Fk19 | skip
    first | replace Fk31 := Fk31.mv1 G117 (by omega) | clear Fk31 | skip
    first | replace F44 := F44.ma G117 | clear F44 | skip
    first | replace Fk49 := Fk49.mv1 G117 (by omega) | clear Fk49 | skip
    replace HG := HG.n1 G117
    clear G117
    have Fk105 := Fs118; clear Fs118
    simp only [V.spliceL, V.cellsL] at Fk105
    refine V.nil ?_
    refine V.tN ?_
    refine V.seq ?_
    refine V.region ?_
    refine V.run T_ok 2 rfl ?_
    refine V.loadO T_ok Fk19 rfl rfl rfl rfl rfl ?_
    refine V.run T_ok 2 rfl ?_
    refine V.split (j := 4) (t := 58) rfl rfl (fun g12_4 => ?_) (fun g12_4 => ?_)
    ·
     try replace g12_4 := V.dec g12_4
     try simp only [V.mk0, V.mk1, V.mk2, V.mk3] at g12_4
     refine V.run T_ok 8 rfl ?_
     refine V.nil ?_
     refine V.tN ?_
     refine V.seq ?_
     refine V.block ?_
     refine V.seq ?_
     refine V.region ?_
     refine V.run T_ok 2 rfl ?_
     refine V.nil ?_
     refine V.tN ?_
     refine V.condT rfl (fun h13 => ?_) (fun h13 => ?_)
     ·
      try replace h13 := V.dec h13
      try simp only [V.mk0, V.mk1, V.mk2, V.mk3] at h13
      refine V.seq ?_
      refine V.region ?_
      refine V.call (alive_spec) rfl rfl rfl ?_
      rintro _ w121 ⟨rfl, G122⟩
      have z123 := V.Fr.size G122
      try replace F_o := F_o.gr G122
      try replace F_ws := F_ws.gr G122
      try replace Fk2 := Fk2.gr G122
      try replace Fk9 := Fk9.gr G122
      try replace Fk19 := Fk19.gr G122
      try replace Fk31 := Fk31.gr G122
      try replace F44 := F44.gr G122
      try replace Fk49 := Fk49.gr G122
      try replace Fk105 := Fk105.gr G122
      replace HG := HG.grow G122
      clear G122
      refine V.run T_ok 5 rfl ?_
      refine V.splitT (j := 5) (t := 73) rfl rfl (by (apply decide_eq_true; exact (hp1 (by first | exact .inl (by assumption) | exact .inr (by assumption))).1)) ?_
      refine V.yes rfl rfl rfl ?_
      refine V.loadO T_ok Fk49 rfl rfl rfl rfl rfl ?_
      refine V.yes rfl rfl rfl ?_
      refine V.loadO T_ok Fk2 rfl rfl rfl rfl rfl ?_
      refine V.yes rfl rfl rfl ?_
      refine V.call (same_spec (d := pv.1) (x := d) F44 (fun k hk => by have := hk.2; omega) F_o (fun k hk => by have := hD_o k hk; omega)) rfl rfl rfl ?_
      rintro _ w121_ ⟨rfl, G125⟩
      have z126 := V.Fr.size G125
      try replace F_o := F_o.gr G125
      try replace F_ws := F_ws.gr G125
      try replace Fk2 := Fk2.gr G125
      try replace Fk9 := Fk9.gr G125
      try replace Fk19 := Fk19.gr G125
      try replace Fk31 := Fk31.gr G125
      try replace F44 := F44.gr G125
      try replace Fk49 := Fk49.gr G125
      try replace Fk105 := Fk105.gr G125
      replace HG := HG.grow G125
      clear G125
      refine V.run T_ok 2 rfl ?_
      refine V.nil ?_
      refine V.tN ?_
      refine V.ret ?_
      refine V.bR ?_
      refine V.tR ?_
      refine V.done rfl ?_
      exact ⟨congrArg Value.bool (by rw [(hp1 (by first | exact .inl (by assumption) | exact .inr (by assumption))).2]; exact sameR_self d), HG⟩
     ·
      try replace h13 := V.dec h13
      try simp only [V.mk0, V.mk1, V.mk2, V.mk3] at h13
      have hno : ¬ (d.st = 3 ∨ d.st = 4) := by omega
      refine V.seq ?_
      refine V.region ?_
      refine V.run T_ok 3 rfl ?_
      refine V.nil ?_
      refine V.tN ?_
      refine V.condN rfl rfl ?_
      refine V.seq ?_
      have hgv : pr < mi ∨ IntKind.i64.wrap ((if d.st = 0 then sw else d.bw) + 40) < nw := by grind
      refine V.region ?_
      refine V.run T_ok 1 rfl ?_
      refine V.loadO T_ok Fk2 rfl rfl rfl rfl rfl ?_
      refine V.run T_ok 2 rfl ?_
      refine V.nil ?_
      refine V.tN ?_
      refine V.condT rfl (fun h17 => ?_) (fun h17 => ?_)
      ·
       try replace h17 := V.dec h17
       try simp only [V.mk0, V.mk1, V.mk2, V.mk3] at h17
       refine V.seq ?_
       have e1 := hp3 hno hgv (by assumption)
       refine V.region ?_
       refine V.call (alive_spec) rfl rfl rfl ?_
       rintro _ w127 ⟨rfl, G128⟩
       have z129 := V.Fr.size G128
       try replace F_o := F_o.gr G128
       try replace F_ws := F_ws.gr G128
       try replace Fk2 := Fk2.gr G128
       try replace Fk9 := Fk9.gr G128
       try replace Fk19 := Fk19.gr G128
       try replace Fk31 := Fk31.gr G128
       try replace F44 := F44.gr G128
       try replace Fk49 := Fk49.gr G128
       try replace Fk105 := Fk105.gr G128
       replace HG := HG.grow G128
       clear G128
       refine V.run T_ok 5 rfl ?_
       refine V.splitT (j := 5) (t := 100) rfl rfl (by (apply decide_eq_true; exact e1.1)) ?_
       refine V.yes rfl rfl rfl ?_
       refine V.loadO T_ok Fk49 rfl rfl rfl rfl rfl ?_
       refine V.yes rfl rfl rfl ?_
       refine V.loadO T_ok Fk2 rfl rfl rfl rfl rfl ?_
       refine V.yes rfl rfl rfl ?_
       refine V.call (same_spec (d := pv.1) (x := d) F44 (fun k hk => by have := hk.2; omega) F_o (fun k hk => by have := hD_o k hk; omega)) rfl rfl rfl ?_
       rintro _ w127_ ⟨rfl, G131⟩
       have z132 := V.Fr.size G131
       try replace F_o := F_o.gr G131
       try replace F_ws := F_ws.gr G131
       try replace Fk2 := Fk2.gr G131
       try replace Fk9 := Fk9.gr G131
       try replace Fk19 := Fk19.gr G131
       try replace Fk31 := Fk31.gr G131
       try replace F44 := F44.gr G131
       try replace Fk49 := Fk49.gr G131
       try replace Fk105 := Fk105.gr G131
       replace HG := HG.grow G131
       clear G131
       refine V.run T_ok 2 rfl ?_
       refine V.nil ?_
       refine V.tN ?_
       refine V.ret ?_
       refine V.bR ?_
       refine V.tR ?_
       refine V.done rfl ?_
       exact ⟨congrArg Value.bool (by rw [e1.2]; exact sameR_self d), HG⟩
      ·
       try replace h17 := V.dec h17
       try simp only [V.mk0, V.mk1, V.mk2, V.mk3] at h17
       refine V.skip ?_
       refine V.bN ?_
       refine V.tN ?_
       refine V.seq ?_
       have e1 := hp4 hno hgv (by assumption)
       have hag2 := hag pv.1 e1.2
       refine V.region ?_
       refine V.loadO T_ok Fk49 rfl rfl rfl rfl rfl ?_
       refine V.loadO T_ok Fk19 rfl rfl rfl rfl rfl ?_
       refine V.loadO T_ok Fk31 rfl rfl rfl rfl rfl ?_
       refine V.run T_ok 1 rfl ?_
       refine V.call (push_spec (mi := mi) (me := me) (an := an) (sw := sw) (sl := sl) (nw := nw) (nl := nl) (pr := pr) (d := pv.1) F44 (fun k hk => by have := hk.2; omega) (by first | assumption | omega | decide)) rfl rfl rfl ?_
       rintro _ w136 ⟨a133, c134, rfl, F135, G137⟩
       have z138 := V.Fr.size G137
       try replace F_o := F_o.gr G137
       try replace F_ws := F_ws.gr G137
       try replace Fk2 := Fk2.gr G137
       try replace Fk9 := Fk9.gr G137
       try replace Fk19 := Fk19.gr G137
       try replace Fk31 := Fk31.gr G137
       try replace F44 := F44.gr G137
       try replace Fk49 := Fk49.gr G137
       try replace Fk105 := Fk105.gr G137
       replace HG := HG.grow G137
       clear G137
       refine V.run T_ok 3 rfl ?_
       refine V.alloc zero27 rfl rfl rfl ?_
       rintro k139 w141 s143 s144 G142 Fk140
       have z145 := V.Fr.size G142
       try replace F_o := F_o.gr G142
       try replace F_ws := F_ws.gr G142
       try replace Fk2 := Fk2.gr G142
       try replace Fk9 := Fk9.gr G142
       try replace Fk19 := Fk19.gr G142
       try replace Fk31 := Fk31.gr G142
       try replace F44 := F44.gr G142
       try replace Fk49 := Fk49.gr G142
       try replace Fk105 := Fk105.gr G142
       try replace F135 := F135.gr G142
       replace HG := HG.grow G142
       clear G142
       try simp only [V.cellsL, V.spliceL] at Fk140
       refine V.storeO Fk140 rfl rfl rfl rfl sz27 rfl rfl rfl rfl ?_
       rintro w146 G147 z149 Fs148
       clear Fk140
       have z150 := V.Fr.size G147
       first | replace F_o := F_o.mb G147 hD_o | clear F_o | skip
       first | replace F_ws := F_ws.mb G147 hD_ws | clear F_ws | skip
       first | replace Fk2 := Fk2.mv1 G147 (by omega) | clear Fk2 | skip
       first | replace Fk9 := Fk9.mv1 G147 (by omega) | clear Fk9 | skip
       first | replace Fk19 := Fk19.mv1 G147 (by omega) | clear Fk19 | skip
       first | replace Fk31 := Fk31.mv1 G147 (by omega) | clear Fk31 | skip
       first | replace F44 := F44.ma G147 | clear F44 | skip
       first | replace Fk49 := Fk49.mv1 G147 (by omega) | clear Fk49 | skip
       first | replace Fk105 := Fk105.mv1 G147 (by omega) | clear Fk105 | skip
       first | replace F135 := F135.ma G147 | clear F135 | skip
       replace HG := HG.n1 G147
       clear G147
       have Fk140 := Fs148; clear Fs148
       simp only [V.spliceL, V.cellsL] at Fk140
       refine V.run T_ok 1 rfl ?_
       refine V.nil ?_
       refine V.tN ?_
       refine V.seq ?_
       refine V.region ?_
       refine V.call (alive_spec) rfl rfl rfl ?_
       rintro _ w151 ⟨rfl, G152⟩
       have z153 := V.Fr.size G152
       try replace F_o := F_o.gr G152
       try replace F_ws := F_ws.gr G152
       try replace Fk2 := Fk2.gr G152
       try replace Fk9 := Fk9.gr G152
       try replace Fk19 := Fk19.gr G152
       try replace Fk31 := Fk31.gr G152
       try replace F44 := F44.gr G152
       try replace Fk49 := Fk49.gr G152
       try replace Fk105 := Fk105.gr G152
       try replace F135 := F135.gr G152
       try replace Fk140 := Fk140.gr G152
       replace HG := HG.grow G152
       clear G152
       refine V.run T_ok 5 rfl ?_
       refine V.splitT (j := 5) (t := 118) rfl rfl (by (apply decide_eq_true; exact e1.1)) ?_
       refine V.run T_ok 1 rfl ?_
       refine V.yes rfl rfl rfl ?_
       refine V.loadO T_ok Fk49 rfl rfl rfl rfl rfl ?_
       refine V.run T_ok 3 rfl ?_
       refine V.splitT (j := 10) (t := 123) rfl rfl (by (apply decide_eq_true; exact e1.2)) ?_
       refine V.run T_ok 4 rfl ?_
       refine V.splitT (j := 14) (t := 127) rfl rfl (by (rw [hag2]; rfl)) ?_
       refine V.yes rfl rfl rfl ?_
       refine V.loadO T_ok Fk49 rfl rfl rfl rfl rfl ?_
       refine V.yes rfl rfl rfl ?_
       refine V.loadO T_ok Fk140 rfl rfl rfl rfl rfl ?_
       refine V.yes rfl rfl rfl ?_
       refine V.call (same_spec (d := pv.1) (x := (rPush pv.1 mi me sw sl nw nl pr).1) F44 (fun k hk => by have := hk.2; omega) F135 (fun k hk => by have := hk.2; omega)) rfl rfl rfl ?_
       rintro _ w151_ ⟨rfl, G155⟩
       have z156 := V.Fr.size G155
       try replace F_o := F_o.gr G155
       try replace F_ws := F_ws.gr G155
       try replace Fk2 := Fk2.gr G155
       try replace Fk9 := Fk9.gr G155
       try replace Fk19 := Fk19.gr G155
       try replace Fk31 := Fk31.gr G155
       try replace F44 := F44.gr G155
       try replace Fk49 := Fk49.gr G155
       try replace Fk105 := Fk105.gr G155
       try replace F135 := F135.gr G155
       try replace Fk140 := Fk140.gr G155
       replace HG := HG.grow G155
       clear G155
       refine V.run T_ok 2 rfl ?_
       refine V.nil ?_
       refine V.tN ?_
       refine V.ret ?_
       refine V.done rfl ?_
       exact ⟨congrArg Value.bool (by rw [hag2]; exact sameR_self _), HG⟩
    ·
     try replace g12_4 := V.dec g12_4
     try simp only [V.mk0, V.mk1, V.mk2, V.mk3] at g12_4
     refine V.run T_ok 1 rfl ?_
     refine V.yes rfl rfl rfl ?_
     refine V.loadO T_ok Fk105 rfl rfl rfl rfl rfl ?_
     refine V.yes rfl rfl rfl ?_
     refine V.run T_ok 1 rfl ?_
     refine V.run T_ok 1 rfl ?_
     refine V.yes rfl rfl rfl ?_
     refine V.loadO T_ok Fk31 rfl rfl rfl rfl rfl ?_
     refine V.run T_ok 3 rfl ?_
     refine V.nil ?_
     refine V.tN ?_
     refine V.seq ?_
     refine V.block ?_
     refine V.seq ?_
     refine V.region ?_
     refine V.run T_ok 2 rfl ?_
     refine V.nil ?_
     refine V.tN ?_
     refine V.condT rfl (fun h13 => ?_) (fun h13 => ?_)
     ·
      try replace h13 := V.dec h13
      try simp only [V.mk0, V.mk1, V.mk2, V.mk3] at h13
      refine V.seq ?_
      refine V.region ?_
      refine V.call (alive_spec) rfl rfl rfl ?_
      rintro _ w157 ⟨rfl, G158⟩
      have z159 := V.Fr.size G158
      try replace F_o := F_o.gr G158
      try replace F_ws := F_ws.gr G158
      try replace Fk2 := Fk2.gr G158
      try replace Fk9 := Fk9.gr G158
      try replace Fk19 := Fk19.gr G158
      try replace Fk31 := Fk31.gr G158
      try replace F44 := F44.gr G158
      try replace Fk49 := Fk49.gr G158
      try replace Fk105 := Fk105.gr G158
      replace HG := HG.grow G158
      clear G158
      refine V.run T_ok 5 rfl ?_
      refine V.splitT (j := 5) (t := 73) rfl rfl (by (apply decide_eq_true; exact (hp1 (by first | exact .inl (by assumption) | exact .inr (by assumption))).1)) ?_
      refine V.yes rfl rfl rfl ?_
      refine V.loadO T_ok Fk49 rfl rfl rfl rfl rfl ?_
      refine V.yes rfl rfl rfl ?_
      refine V.loadO T_ok Fk2 rfl rfl rfl rfl rfl ?_
      refine V.yes rfl rfl rfl ?_
      refine V.call (same_spec (d := pv.1) (x := d) F44 (fun k hk => by have := hk.2; omega) F_o (fun k hk => by have := hD_o k hk; omega)) rfl rfl rfl ?_
      rintro _ w157_ ⟨rfl, G161⟩
      have z162 := V.Fr.size G161
      try replace F_o := F_o.gr G161
      try replace F_ws := F_ws.gr G161
      try replace Fk2 := Fk2.gr G161
      try replace Fk9 := Fk9.gr G161
      try replace Fk19 := Fk19.gr G161
      try replace Fk31 := Fk31.gr G161
      try replace F44 := F44.gr G161
      try replace Fk49 := Fk49.gr G161
      try replace Fk105 := Fk105.gr G161
      replace HG := HG.grow G161
      clear G161
      refine V.run T_ok 2 rfl ?_
      refine V.nil ?_
      refine V.tN ?_
      refine V.ret ?_
      refine V.bR ?_
      refine V.tR ?_
      refine V.done rfl ?_
      exact ⟨congrArg Value.bool (by rw [(hp1 (by first | exact .inl (by assumption) | exact .inr (by assumption))).2]; exact sameR_self d), HG⟩
     ·
      try replace h13 := V.dec h13
      try simp only [V.mk0, V.mk1, V.mk2, V.mk3] at h13
      have hno : ¬ (d.st = 3 ∨ d.st = 4) := by omega
      refine V.seq ?_
      refine V.region ?_
      refine V.run T_ok 3 rfl ?_
      refine V.nil ?_
      refine V.tN ?_
      refine V.condT rfl (fun h15 => ?_) (fun h15 => ?_)
      ·
       try replace h15 := V.dec h15
       try simp only [V.mk0, V.mk1, V.mk2, V.mk3] at h15
       refine V.seq ?_
       have e1 := hp2 hno (by omega) (by grind)
       refine V.region ?_
       refine V.call (alive_spec) rfl rfl rfl ?_
       rintro _ w163 ⟨rfl, G164⟩
       have z165 := V.Fr.size G164
       try replace F_o := F_o.gr G164
       try replace F_ws := F_ws.gr G164
       try replace Fk2 := Fk2.gr G164
       try replace Fk9 := Fk9.gr G164
       try replace Fk19 := Fk19.gr G164
       try replace Fk31 := Fk31.gr G164
       try replace F44 := F44.gr G164
       try replace Fk49 := Fk49.gr G164
       try replace Fk105 := Fk105.gr G164
       replace HG := HG.grow G164
       clear G164
       refine V.run T_ok 5 rfl ?_
       refine V.splitT (j := 5) (t := 86) rfl rfl (by (apply decide_eq_true; exact e1.1)) ?_
       refine V.yes rfl rfl rfl ?_
       refine V.loadO T_ok Fk49 rfl rfl rfl rfl rfl ?_
       refine V.yes rfl rfl rfl ?_
       refine V.loadO T_ok Fk2 rfl rfl rfl rfl rfl ?_
       refine V.yes rfl rfl rfl ?_
       refine V.call (same_spec (d := pv.1) (x := d) F44 (fun k hk => by have := hk.2; omega) F_o (fun k hk => by have := hD_o k hk; omega)) rfl rfl rfl ?_
       rintro _ w163_ ⟨rfl, G167⟩
       have z168 := V.Fr.size G167
       try replace F_o := F_o.gr G167
       try replace F_ws := F_ws.gr G167
       try replace Fk2 := Fk2.gr G167
       try replace Fk9 := Fk9.gr G167
       try replace Fk19 := Fk19.gr G167
       try replace Fk31 := Fk31.gr G167
       try replace F44 := F44.gr G167
       try replace Fk49 := Fk49.gr G167
       try replace Fk105 := Fk105.gr G167
       replace HG := HG.grow G167
       clear G167
       refine V.run T_ok 2 rfl ?_
       refine V.nil ?_
       refine V.tN ?_
       refine V.ret ?_
       refine V.bR ?_
       refine V.tR ?_
       refine V.done rfl ?_
       exact ⟨congrArg Value.bool (by rw [e1.2]; exact sameR_self d), HG⟩
      ·
       try replace h15 := V.dec h15
       try simp only [V.mk0, V.mk1, V.mk2, V.mk3] at h15
       refine V.seq ?_
       have hgv : pr < mi ∨ IntKind.i64.wrap ((if d.st = 0 then sw else d.bw) + 40) < nw := by grind
       refine V.region ?_
       refine V.run T_ok 1 rfl ?_
       refine V.loadO T_ok Fk2 rfl rfl rfl rfl rfl ?_
       refine V.run T_ok 2 rfl ?_
       refine V.nil ?_
       refine V.tN ?_
       refine V.condT rfl (fun h17 => ?_) (fun h17 => ?_)
       ·
        try replace h17 := V.dec h17
        try simp only [V.mk0, V.mk1, V.mk2, V.mk3] at h17
        refine V.seq ?_
        have e1 := hp3 hno hgv (by assumption)
        refine V.region ?_
        refine V.call (alive_spec) rfl rfl rfl ?_
        rintro _ w169 ⟨rfl, G170⟩
        have z171 := V.Fr.size G170
        try replace F_o := F_o.gr G170
        try replace F_ws := F_ws.gr G170
        try replace Fk2 := Fk2.gr G170
        try replace Fk9 := Fk9.gr G170
        try replace Fk19 := Fk19.gr G170
        try replace Fk31 := Fk31.gr G170
        try replace F44 := F44.gr G170
        try replace Fk49 := Fk49.gr G170
        try replace Fk105 := Fk105.gr G170
        replace HG := HG.grow G170
        clear G170
        refine V.run T_ok 5 rfl ?_
        refine V.splitT (j := 5) (t := 100) rfl rfl (by (apply decide_eq_true; exact e1.1)) ?_
        refine V.yes rfl rfl rfl ?_
        refine V.loadO T_ok Fk49 rfl rfl rfl rfl rfl ?_
        refine V.yes rfl rfl rfl ?_
        refine V.loadO T_ok Fk2 rfl rfl rfl rfl rfl ?_
        refine V.yes rfl rfl rfl ?_
        refine V.call (same_spec (d := pv.1) (x := d) F44 (fun k hk => by have := hk.2; omega) F_o (fun k hk => by have := hD_o k hk; omega)) rfl rfl rfl ?_
        rintro _ w169_ ⟨rfl, G173⟩
        have z174 := V.Fr.size G173
        try replace F_o := F_o.gr G173
        try replace F_ws := F_ws.gr G173
        try replace Fk2 := Fk2.gr G173
        try replace Fk9 := Fk9.gr G173
        try replace Fk19 := Fk19.gr G173
        try replace Fk31 := Fk31.gr G173
        try replace F44 := F44.gr G173
        try replace Fk49 := Fk49.gr G173
        try replace Fk105 := Fk105.gr G173
        replace HG := HG.grow G173
        clear G173
        refine V.run T_ok 2 rfl ?_
        refine V.nil ?_
        refine V.tN ?_
        refine V.ret ?_
        refine V.bR ?_
        refine V.tR ?_
        refine V.done rfl ?_
        exact ⟨congrArg Value.bool (by rw [e1.2]; exact sameR_self d), HG⟩
       ·
        try replace h17 := V.dec h17
        try simp only [V.mk0, V.mk1, V.mk2, V.mk3] at h17
        refine V.skip ?_
        refine V.bN ?_
        refine V.tN ?_
        refine V.seq ?_
        have e1 := hp4 hno hgv (by assumption)
        have hag2 := hag pv.1 e1.2
        refine V.region ?_
        refine V.loadO T_ok Fk49 rfl rfl rfl rfl rfl ?_
        refine V.loadO T_ok Fk19 rfl rfl rfl rfl rfl ?_
        refine V.loadO T_ok Fk31 rfl rfl rfl rfl rfl ?_
        refine V.run T_ok 1 rfl ?_
        refine V.call (push_spec (mi := mi) (me := me) (an := an) (sw := sw) (sl := sl) (nw := nw) (nl := nl) (pr := pr) (d := pv.1) F44 (fun k hk => by have := hk.2; omega) (by first | assumption | omega | decide)) rfl rfl rfl ?_
        rintro _ w178 ⟨a175, c176, rfl, F177, G179⟩
        have z180 := V.Fr.size G179
        try replace F_o := F_o.gr G179
        try replace F_ws := F_ws.gr G179
        try replace Fk2 := Fk2.gr G179
        try replace Fk9 := Fk9.gr G179
        try replace Fk19 := Fk19.gr G179
        try replace Fk31 := Fk31.gr G179
        try replace F44 := F44.gr G179
        try replace Fk49 := Fk49.gr G179
        try replace Fk105 := Fk105.gr G179
        replace HG := HG.grow G179
        clear G179
        refine V.run T_ok 3 rfl ?_
        refine V.alloc zero27 rfl rfl rfl ?_
        rintro k181 w183 s185 s186 G184 Fk182
        have z187 := V.Fr.size G184
        try replace F_o := F_o.gr G184
        try replace F_ws := F_ws.gr G184
        try replace Fk2 := Fk2.gr G184
        try replace Fk9 := Fk9.gr G184
        try replace Fk19 := Fk19.gr G184
        try replace Fk31 := Fk31.gr G184
        try replace F44 := F44.gr G184
        try replace Fk49 := Fk49.gr G184
        try replace Fk105 := Fk105.gr G184
        try replace F177 := F177.gr G184
        replace HG := HG.grow G184
        clear G184
        try simp only [V.cellsL, V.spliceL] at Fk182
        refine V.storeO Fk182 rfl rfl rfl rfl sz27 rfl rfl rfl rfl ?_
        rintro w188 G189 z191 Fs190
        clear Fk182
        have z192 := V.Fr.size G189
        first | replace F_o := F_o.mb G189 hD_o | clear F_o | skip
        first | replace F_ws := F_ws.mb G189 hD_ws | clear F_ws | skip
        first | replace Fk2 := Fk2.mv1 G189 (by omega) | clear Fk2 | skip
        first | replace Fk9 := Fk9.mv1 G189 (by omega) | clear Fk9 | skip
        first | replace Fk19 := Fk19.mv1 G189 (by omega) | clear Fk19 | skip
        first | replace Fk31 := Fk31.mv1 G189 (by omega) | clear Fk31 | skip
        first | replace F44 := F44.ma G189 | clear F44 | skip
        first | replace Fk49 := Fk49.mv1 G189 (by omega) | clear Fk49 | skip
        first | replace Fk105 := Fk105.mv1 G189 (by omega) | clear Fk105 | skip
        first | replace F177 := F177.ma G189 | clear F177 | skip
        replace HG := HG.n1 G189
        clear G189
        have Fk182 := Fs190; clear Fs190
        simp only [V.spliceL, V.cellsL] at Fk182
        refine V.run T_ok 1 rfl ?_
        refine V.nil ?_
        refine V.tN ?_
        refine V.seq ?_
        refine V.region ?_
        refine V.call (alive_spec) rfl rfl rfl ?_
        rintro _ w193 ⟨rfl, G194⟩
        have z195 := V.Fr.size G194
        try replace F_o := F_o.gr G194
        try replace F_ws := F_ws.gr G194
        try replace Fk2 := Fk2.gr G194
        try replace Fk9 := Fk9.gr G194
        try replace Fk19 := Fk19.gr G194
        try replace Fk31 := Fk31.gr G194
        try replace F44 := F44.gr G194
        try replace Fk49 := Fk49.gr G194
        try replace Fk105 := Fk105.gr G194
        try replace F177 := F177.gr G194
        try replace Fk182 := Fk182.gr G194
        replace HG := HG.grow G194
        clear G194
        refine V.run T_ok 5 rfl ?_
        refine V.splitT (j := 5) (t := 118) rfl rfl (by (apply decide_eq_true; exact e1.1)) ?_
        refine V.run T_ok 1 rfl ?_
        refine V.yes rfl rfl rfl ?_
        refine V.loadO T_ok Fk49 rfl rfl rfl rfl rfl ?_
        refine V.run T_ok 3 rfl ?_
        refine V.splitT (j := 10) (t := 123) rfl rfl (by (apply decide_eq_true; exact e1.2)) ?_
        refine V.run T_ok 4 rfl ?_
        refine V.splitT (j := 14) (t := 127) rfl rfl (by (rw [hag2]; rfl)) ?_
        refine V.yes rfl rfl rfl ?_
        refine V.loadO T_ok Fk49 rfl rfl rfl rfl rfl ?_
        refine V.yes rfl rfl rfl ?_
        refine V.loadO T_ok Fk182 rfl rfl rfl rfl rfl ?_
        refine V.yes rfl rfl rfl ?_
        refine V.call (same_spec (d := pv.1) (x := (rPush pv.1 mi me sw sl nw nl pr).1) F44 (fun k hk => by have := hk.2; omega) F177 (fun k hk => by have := hk.2; omega)) rfl rfl rfl ?_
        rintro _ w193_ ⟨rfl, G197⟩
        have z198 := V.Fr.size G197
        try replace F_o := F_o.gr G197
        try replace F_ws := F_ws.gr G197
        try replace Fk2 := Fk2.gr G197
        try replace Fk9 := Fk9.gr G197
        try replace Fk19 := Fk19.gr G197
        try replace Fk31 := Fk31.gr G197
        try replace F44 := F44.gr G197
        try replace Fk49 := Fk49.gr G197
        try replace Fk105 := Fk105.gr G197
        try replace F177 := F177.gr G197
        try replace Fk182 := Fk182.gr G197
        replace HG := HG.grow G197
        clear G197
        refine V.run T_ok 2 rfl ?_
        refine V.nil ?_
        refine V.tN ?_
        refine V.ret ?_
        refine V.done rfl ?_
        exact ⟨congrArg Value.bool (by rw [hag2]; exact sameR_self _), HG⟩
   ·
    try replace h10 := V.dec h10
    try simp only [V.mk0, V.mk1, V.mk2, V.mk3] at h10
    refine V.skip ?_
    refine V.tN ?_
    refine V.seq ?_
    refine V.region ?_
    refine V.run T_ok 2 rfl ?_
    refine V.loadO T_ok Fk19 rfl rfl rfl rfl rfl ?_
    refine V.run T_ok 2 rfl ?_
    refine V.split (j := 4) (t := 58) rfl rfl (fun g12_4 => ?_) (fun g12_4 => ?_)
    ·
     try replace g12_4 := V.dec g12_4
     try simp only [V.mk0, V.mk1, V.mk2, V.mk3] at g12_4
     refine V.run T_ok 8 rfl ?_
     refine V.nil ?_
     refine V.tN ?_
     refine V.seq ?_
     refine V.block ?_
     refine V.seq ?_
     refine V.region ?_
     refine V.run T_ok 2 rfl ?_
     refine V.nil ?_
     refine V.tN ?_
     refine V.condT rfl (fun h13 => ?_) (fun h13 => ?_)
     ·
      try replace h13 := V.dec h13
      try simp only [V.mk0, V.mk1, V.mk2, V.mk3] at h13
      refine V.seq ?_
      refine V.region ?_
      refine V.call (alive_spec) rfl rfl rfl ?_
      rintro _ w199 ⟨rfl, G200⟩
      have z201 := V.Fr.size G200
      try replace F_o := F_o.gr G200
      try replace F_ws := F_ws.gr G200
      try replace Fk2 := Fk2.gr G200
      try replace Fk9 := Fk9.gr G200
      try replace Fk19 := Fk19.gr G200
      try replace Fk31 := Fk31.gr G200
      try replace F44 := F44.gr G200
      try replace Fk49 := Fk49.gr G200
      try replace Fk105 := Fk105.gr G200
      replace HG := HG.grow G200
      clear G200
      refine V.run T_ok 5 rfl ?_
      refine V.splitT (j := 5) (t := 73) rfl rfl (by (apply decide_eq_true; exact (hp1 (by first | exact .inl (by assumption) | exact .inr (by assumption))).1)) ?_
      refine V.yes rfl rfl rfl ?_
      refine V.loadO T_ok Fk49 rfl rfl rfl rfl rfl ?_
      refine V.yes rfl rfl rfl ?_
      refine V.loadO T_ok Fk2 rfl rfl rfl rfl rfl ?_
      refine V.yes rfl rfl rfl ?_
      refine V.call (same_spec (d := pv.1) (x := d) F44 (fun k hk => by have := hk.2; omega) F_o (fun k hk => by have := hD_o k hk; omega)) rfl rfl rfl ?_
      rintro _ w199_ ⟨rfl, G203⟩
      have z204 := V.Fr.size G203
      try replace F_o := F_o.gr G203
      try replace F_ws := F_ws.gr G203
      try replace Fk2 := Fk2.gr G203
      try replace Fk9 := Fk9.gr G203
      try replace Fk19 := Fk19.gr G203
      try replace Fk31 := Fk31.gr G203
      try replace F44 := F44.gr G203
      try replace Fk49 := Fk49.gr G203
      try replace Fk105 := Fk105.gr G203
      replace HG := HG.grow G203
      clear G203
      refine V.run T_ok 2 rfl ?_
      refine V.nil ?_
      refine V.tN ?_
      refine V.ret ?_
      refine V.bR ?_
      refine V.tR ?_
      refine V.done rfl ?_
      exact ⟨congrArg Value.bool (by rw [(hp1 (by first | exact .inl (by assumption) | exact .inr (by assumption))).2]; exact sameR_self d), HG⟩
     ·
      try replace h13 := V.dec h13
      try simp only [V.mk0, V.mk1, V.mk2, V.mk3] at h13
      have hno : ¬ (d.st = 3 ∨ d.st = 4) := by omega
      refine V.seq ?_
      refine V.region ?_
      refine V.run T_ok 3 rfl ?_
      refine V.nil ?_
      refine V.tN ?_
      refine V.condN rfl rfl ?_
      refine V.seq ?_
      have hgv : pr < mi ∨ IntKind.i64.wrap ((if d.st = 0 then sw else d.bw) + 40) < nw := by grind
      refine V.region ?_
      refine V.run T_ok 1 rfl ?_
      refine V.loadO T_ok Fk2 rfl rfl rfl rfl rfl ?_
      refine V.run T_ok 2 rfl ?_
      refine V.nil ?_
      refine V.tN ?_
      refine V.condT rfl (fun h17 => ?_) (fun h17 => ?_)
      ·
       try replace h17 := V.dec h17
       try simp only [V.mk0, V.mk1, V.mk2, V.mk3] at h17
       refine V.seq ?_
       have e1 := hp3 hno hgv (by assumption)
       refine V.region ?_
       refine V.call (alive_spec) rfl rfl rfl ?_
       rintro _ w205 ⟨rfl, G206⟩
       have z207 := V.Fr.size G206
       try replace F_o := F_o.gr G206
       try replace F_ws := F_ws.gr G206
       try replace Fk2 := Fk2.gr G206
       try replace Fk9 := Fk9.gr G206
       try replace Fk19 := Fk19.gr G206
       try replace Fk31 := Fk31.gr G206
       try replace F44 := F44.gr G206
       try replace Fk49 := Fk49.gr G206
       try replace Fk105 := Fk105.gr G206
       replace HG := HG.grow G206
       clear G206
       refine V.run T_ok 5 rfl ?_
       refine V.splitT (j := 5) (t := 100) rfl rfl (by (apply decide_eq_true; exact e1.1)) ?_
       refine V.yes rfl rfl rfl ?_
       refine V.loadO T_ok Fk49 rfl rfl rfl rfl rfl ?_
       refine V.yes rfl rfl rfl ?_
       refine V.loadO T_ok Fk2 rfl rfl rfl rfl rfl ?_
       refine V.yes rfl rfl rfl ?_
       refine V.call (same_spec (d := pv.1) (x := d) F44 (fun k hk => by have := hk.2; omega) F_o (fun k hk => by have := hD_o k hk; omega)) rfl rfl rfl ?_
       rintro _ w205_ ⟨rfl, G209⟩
       have z210 := V.Fr.size G209
       try replace F_o := F_o.gr G209
       try replace F_ws := F_ws.gr G209
       try replace Fk2 := Fk2.gr G209
       try replace Fk9 := Fk9.gr G209
       try replace Fk19 := Fk19.gr G209
       try replace Fk31 := Fk31.gr G209
       try replace F44 := F44.gr G209
       try replace Fk49 := Fk49.gr G209
       try replace Fk105 := Fk105.gr G209
       replace HG := HG.grow G209
       clear G209
       refine V.run T_ok 2 rfl ?_
       refine V.nil ?_
       refine V.tN ?_
       refine V.ret ?_
       refine V.bR ?_
       refine V.tR ?_
       refine V.done rfl ?_
       exact ⟨congrArg Value.bool (by rw [e1.2]; exact sameR_self d), HG⟩
      ·
       try replace h17 := V.dec h17
       try simp only [V.mk0, V.mk1, V.mk2, V.mk3] at h17
       refine V.skip ?_
       refine V.bN ?_
       refine V.tN ?_
       refine V.seq ?_
       have e1 := hp4 hno hgv (by assumption)
       have hag2 := hag pv.1 e1.2
       refine V.region ?_
       refine V.loadO T_ok Fk49 rfl rfl rfl rfl rfl ?_
       refine V.loadO T_ok Fk19 rfl rfl rfl rfl rfl ?_
       refine V.loadO T_ok Fk31 rfl rfl rfl rfl rfl ?_
       refine V.run T_ok 1 rfl ?_
       refine V.call (push_spec (mi := mi) (me := me) (an := an) (sw := sw) (sl := sl) (nw := nw) (nl := nl) (pr := pr) (d := pv.1) F44 (fun k hk => by have := hk.2; omega) (by first | assumption | omega | decide)) rfl rfl rfl ?_
       rintro _ w214 ⟨a211, c212, rfl, F213, G215⟩
       have z216 := V.Fr.size G215
       try replace F_o := F_o.gr G215
       try replace F_ws := F_ws.gr G215
       try replace Fk2 := Fk2.gr G215
       try replace Fk9 := Fk9.gr G215
       try replace Fk19 := Fk19.gr G215
       try replace Fk31 := Fk31.gr G215
       try replace F44 := F44.gr G215
       try replace Fk49 := Fk49.gr G215
       try replace Fk105 := Fk105.gr G215
       replace HG := HG.grow G215
       clear G215
       refine V.run T_ok 3 rfl ?_
       refine V.alloc zero27 rfl rfl rfl ?_
       rintro k217 w219 s221 s222 G220 Fk218
       have z223 := V.Fr.size G220
       try replace F_o := F_o.gr G220
       try replace F_ws := F_ws.gr G220
       try replace Fk2 := Fk2.gr G220
       try replace Fk9 := Fk9.gr G220
       try replace Fk19 := Fk19.gr G220
       try replace Fk31 := Fk31.gr G220
       try replace F44 := F44.gr G220
       try replace Fk49 := Fk49.gr G220
       try replace Fk105 := Fk105.gr G220
       try replace F213 := F213.gr G220
       replace HG := HG.grow G220
       clear G220
       try simp only [V.cellsL, V.spliceL] at Fk218
       refine V.storeO Fk218 rfl rfl rfl rfl sz27 rfl rfl rfl rfl ?_
       rintro w224 G225 z227 Fs226
       clear Fk218
       have z228 := V.Fr.size G225
       first | replace F_o := F_o.mb G225 hD_o | clear F_o | skip
       first | replace F_ws := F_ws.mb G225 hD_ws | clear F_ws | skip
       first | replace Fk2 := Fk2.mv1 G225 (by omega) | clear Fk2 | skip
       first | replace Fk9 := Fk9.mv1 G225 (by omega) | clear Fk9 | skip
       first | replace Fk19 := Fk19.mv1 G225 (by omega) | clear Fk19 | skip
       first | replace Fk31 := Fk31.mv1 G225 (by omega) | clear Fk31 | skip
       first | replace F44 := F44.ma G225 | clear F44 | skip
       first | replace Fk49 := Fk49.mv1 G225 (by omega) | clear Fk49 | skip
       first | replace Fk105 := Fk105.mv1 G225 (by omega) | clear Fk105 | skip
       first | replace F213 := F213.ma G225 | clear F213 | skip
       replace HG := HG.n1 G225
       clear G225
       have Fk218 := Fs226; clear Fs226
       simp only [V.spliceL, V.cellsL] at Fk218
       refine V.run T_ok 1 rfl ?_
       refine V.nil ?_
       refine V.tN ?_
       refine V.seq ?_
       refine V.region ?_
       refine V.call (alive_spec) rfl rfl rfl ?_
       rintro _ w229 ⟨rfl, G230⟩
       have z231 := V.Fr.size G230
       try replace F_o := F_o.gr G230
       try replace F_ws := F_ws.gr G230
       try replace Fk2 := Fk2.gr G230
       try replace Fk9 := Fk9.gr G230
       try replace Fk19 := Fk19.gr G230
       try replace Fk31 := Fk31.gr G230
       try replace F44 := F44.gr G230
       try replace Fk49 := Fk49.gr G230
       try replace Fk105 := Fk105.gr G230
       try replace F213 := F213.gr G230
       try replace Fk218 := Fk218.gr G230
       replace HG := HG.grow G230
       clear G230
       refine V.run T_ok 5 rfl ?_
       refine V.splitT (j := 5) (t := 118) rfl rfl (by (apply decide_eq_true; exact e1.1)) ?_
       refine V.run T_ok 1 rfl ?_
       refine V.yes rfl rfl rfl ?_
       refine V.loadO T_ok Fk49 rfl rfl rfl rfl rfl ?_
       refine V.run T_ok 3 rfl ?_
       refine V.splitT (j := 10) (t := 123) rfl rfl (by (apply decide_eq_true; exact e1.2)) ?_
       refine V.run T_ok 4 rfl ?_
       refine V.splitT (j := 14) (t := 127) rfl rfl (by (rw [hag2]; rfl)) ?_
       refine V.yes rfl rfl rfl ?_
       refine V.loadO T_ok Fk49 rfl rfl rfl rfl rfl ?_
       refine V.yes rfl rfl rfl ?_
       refine V.loadO T_ok Fk218 rfl rfl rfl rfl rfl ?_
       refine V.yes rfl rfl rfl ?_
       refine V.call (same_spec (d := pv.1) (x := (rPush pv.1 mi me sw sl nw nl pr).1) F44 (fun k hk => by have := hk.2; omega) F213 (fun k hk => by have := hk.2; omega)) rfl rfl rfl ?_
       rintro _ w229_ ⟨rfl, G233⟩
       have z234 := V.Fr.size G233
       try replace F_o := F_o.gr G233
       try replace F_ws := F_ws.gr G233
       try replace Fk2 := Fk2.gr G233
       try replace Fk9 := Fk9.gr G233
       try replace Fk19 := Fk19.gr G233
       try replace Fk31 := Fk31.gr G233
       try replace F44 := F44.gr G233
       try replace Fk49 := Fk49.gr G233
       try replace Fk105 := Fk105.gr G233
       try replace F213 := F213.gr G233
       try replace Fk218 := Fk218.gr G233
       replace HG := HG.grow G233
       clear G233
       refine V.run T_ok 2 rfl ?_
       refine V.nil ?_
       refine V.tN ?_
       refine V.ret ?_
       refine V.done rfl ?_
       exact ⟨congrArg Value.bool (by rw [hag2]; exact sameR_self _), HG⟩
    ·
     try replace g12_4 := V.dec g12_4
     try simp only [V.mk0, V.mk1, V.mk2, V.mk3] at g12_4
     refine V.run T_ok 1 rfl ?_
     refine V.yes rfl rfl rfl ?_
     refine V.loadO T_ok Fk105 rfl rfl rfl rfl rfl ?_
     refine V.yes rfl rfl rfl ?_
     refine V.run T_ok 1 rfl ?_
     refine V.run T_ok 1 rfl ?_
     refine V.yes rfl rfl rfl ?_
     refine V.loadO T_ok Fk31 rfl rfl rfl rfl rfl ?_
     refine V.run T_ok 3 rfl ?_
     refine V.nil ?_
     refine V.tN ?_
     refine V.seq ?_
     refine V.block ?_
     refine V.seq ?_
     refine V.region ?_
     refine V.run T_ok 2 rfl ?_
     refine V.nil ?_
     refine V.tN ?_
     refine V.condT rfl (fun h13 => ?_) (fun h13 => ?_)
     ·
      try replace h13 := V.dec h13
      try simp only [V.mk0, V.mk1, V.mk2, V.mk3] at h13
      refine V.seq ?_
      refine V.region ?_
      refine V.call (alive_spec) rfl rfl rfl ?_
      rintro _ w235 ⟨rfl, G236⟩
      have z237 := V.Fr.size G236
      try replace F_o := F_o.gr G236
      try replace F_ws := F_ws.gr G236
      try replace Fk2 := Fk2.gr G236
      try replace Fk9 := Fk9.gr G236
      try replace Fk19 := Fk19.gr G236
      try replace Fk31 := Fk31.gr G236
      try replace F44 := F44.gr G236
      try replace Fk49 := Fk49.gr G236
      try replace Fk105 := Fk105.gr G236
      replace HG := HG.grow G236
      clear G236
      refine V.run T_ok 5 rfl ?_
      refine V.splitT (j := 5) (t := 73) rfl rfl (by (apply decide_eq_true; exact (hp1 (by first | exact .inl (by assumption) | exact .inr (by assumption))).1)) ?_
      refine V.yes rfl rfl rfl ?_
      refine V.loadO T_ok Fk49 rfl rfl rfl rfl rfl ?_
      refine V.yes rfl rfl rfl ?_
      refine V.loadO T_ok Fk2 rfl rfl rfl rfl rfl ?_
      refine V.yes rfl rfl rfl ?_
      refine V.call (same_spec (d := pv.1) (x := d) F44 (fun k hk => by have := hk.2; omega) F_o (fun k hk => by have := hD_o k hk; omega)) rfl rfl rfl ?_
      rintro _ w235_ ⟨rfl, G239⟩
      have z240 := V.Fr.size G239
      try replace F_o := F_o.gr G239
      try replace F_ws := F_ws.gr G239
      try replace Fk2 := Fk2.gr G239
      try replace Fk9 := Fk9.gr G239
      try replace Fk19 := Fk19.gr G239
      try replace Fk31 := Fk31.gr G239
      try replace F44 := F44.gr G239
      try replace Fk49 := Fk49.gr G239
      try replace Fk105 := Fk105.gr G239
      replace HG := HG.grow G239
      clear G239
      refine V.run T_ok 2 rfl ?_
      refine V.nil ?_
      refine V.tN ?_
      refine V.ret ?_
      refine V.bR ?_
      refine V.tR ?_
      refine V.done rfl ?_
      exact ⟨congrArg Value.bool (by rw [(hp1 (by first | exact .inl (by assumption) | exact .inr (by assumption))).2]; exact sameR_self d), HG⟩
     ·
      try replace h13 := V.dec h13
      try simp only [V.mk0, V.mk1, V.mk2, V.mk3] at h13
      have hno : ¬ (d.st = 3 ∨ d.st = 4) := by omega
      refine V.seq ?_
      refine V.region ?_
      refine V.run T_ok 3 rfl ?_
      refine V.nil ?_
      refine V.tN ?_
      refine V.condT rfl (fun h15 => ?_) (fun h15 => ?_)
      ·
       try replace h15 := V.dec h15
       try simp only [V.mk0, V.mk1, V.mk2, V.mk3] at h15
       refine V.seq ?_
       have e1 := hp2 hno (by omega) (by grind)
       refine V.region ?_
       refine V.call (alive_spec) rfl rfl rfl ?_
       rintro _ w241 ⟨rfl, G242⟩
       have z243 := V.Fr.size G242
       try replace F_o := F_o.gr G242
       try replace F_ws := F_ws.gr G242
       try replace Fk2 := Fk2.gr G242
       try replace Fk9 := Fk9.gr G242
       try replace Fk19 := Fk19.gr G242
       try replace Fk31 := Fk31.gr G242
       try replace F44 := F44.gr G242
       try replace Fk49 := Fk49.gr G242
       try replace Fk105 := Fk105.gr G242
       replace HG := HG.grow G242
       clear G242
       refine V.run T_ok 5 rfl ?_
       refine V.splitT (j := 5) (t := 86) rfl rfl (by (apply decide_eq_true; exact e1.1)) ?_
       refine V.yes rfl rfl rfl ?_
       refine V.loadO T_ok Fk49 rfl rfl rfl rfl rfl ?_
       refine V.yes rfl rfl rfl ?_
       refine V.loadO T_ok Fk2 rfl rfl rfl rfl rfl ?_
       refine V.yes rfl rfl rfl ?_
       refine V.call (same_spec (d := pv.1) (x := d) F44 (fun k hk => by have := hk.2; omega) F_o (fun k hk => by have := hD_o k hk; omega)) rfl rfl rfl ?_
       rintro _ w241_ ⟨rfl, G245⟩
       have z246 := V.Fr.size G245
       try replace F_o := F_o.gr G245
       try replace F_ws := F_ws.gr G245
       try replace Fk2 := Fk2.gr G245
       try replace Fk9 := Fk9.gr G245
       try replace Fk19 := Fk19.gr G245
       try replace Fk31 := Fk31.gr G245
       try replace F44 := F44.gr G245
       try replace Fk49 := Fk49.gr G245
       try replace Fk105 := Fk105.gr G245
       replace HG := HG.grow G245
       clear G245
       refine V.run T_ok 2 rfl ?_
       refine V.nil ?_
       refine V.tN ?_
       refine V.ret ?_
       refine V.bR ?_
       refine V.tR ?_
       refine V.done rfl ?_
       exact ⟨congrArg Value.bool (by rw [e1.2]; exact sameR_self d), HG⟩
      ·
       try replace h15 := V.dec h15
       try simp only [V.mk0, V.mk1, V.mk2, V.mk3] at h15
       refine V.seq ?_
       have hgv : pr < mi ∨ IntKind.i64.wrap ((if d.st = 0 then sw else d.bw) + 40) < nw := by grind
       refine V.region ?_
       refine V.run T_ok 1 rfl ?_
       refine V.loadO T_ok Fk2 rfl rfl rfl rfl rfl ?_
       refine V.run T_ok 2 rfl ?_
       refine V.nil ?_
       refine V.tN ?_
       refine V.condT rfl (fun h17 => ?_) (fun h17 => ?_)
       ·
        try replace h17 := V.dec h17
        try simp only [V.mk0, V.mk1, V.mk2, V.mk3] at h17
        refine V.seq ?_
        have e1 := hp3 hno hgv (by assumption)
        refine V.region ?_
        refine V.call (alive_spec) rfl rfl rfl ?_
        rintro _ w247 ⟨rfl, G248⟩
        have z249 := V.Fr.size G248
        try replace F_o := F_o.gr G248
        try replace F_ws := F_ws.gr G248
        try replace Fk2 := Fk2.gr G248
        try replace Fk9 := Fk9.gr G248
        try replace Fk19 := Fk19.gr G248
        try replace Fk31 := Fk31.gr G248
        try replace F44 := F44.gr G248
        try replace Fk49 := Fk49.gr G248
        try replace Fk105 := Fk105.gr G248
        replace HG := HG.grow G248
        clear G248
        refine V.run T_ok 5 rfl ?_
        refine V.splitT (j := 5) (t := 100) rfl rfl (by (apply decide_eq_true; exact e1.1)) ?_
        refine V.yes rfl rfl rfl ?_
        refine V.loadO T_ok Fk49 rfl rfl rfl rfl rfl ?_
        refine V.yes rfl rfl rfl ?_
        refine V.loadO T_ok Fk2 rfl rfl rfl rfl rfl ?_
        refine V.yes rfl rfl rfl ?_
        refine V.call (same_spec (d := pv.1) (x := d) F44 (fun k hk => by have := hk.2; omega) F_o (fun k hk => by have := hD_o k hk; omega)) rfl rfl rfl ?_
        rintro _ w247_ ⟨rfl, G251⟩
        have z252 := V.Fr.size G251
        try replace F_o := F_o.gr G251
        try replace F_ws := F_ws.gr G251
        try replace Fk2 := Fk2.gr G251
        try replace Fk9 := Fk9.gr G251
        try replace Fk19 := Fk19.gr G251
        try replace Fk31 := Fk31.gr G251
        try replace F44 := F44.gr G251
        try replace Fk49 := Fk49.gr G251
        try replace Fk105 := Fk105.gr G251
        replace HG := HG.grow G251
        clear G251
        refine V.run T_ok 2 rfl ?_
        refine V.nil ?_
        refine V.tN ?_
        refine V.ret ?_
        refine V.bR ?_
        refine V.tR ?_
        refine V.done rfl ?_
        exact ⟨congrArg Value.bool (by rw [e1.2]; exact sameR_self d), HG⟩
       ·
        try replace h17 := V.dec h17
        try simp only [V.mk0, V.mk1, V.mk2, V.mk3] at h17
        refine V.skip ?_
        refine V.bN ?_
        refine V.tN ?_
        refine V.seq ?_
        have e1 := hp4 hno hgv (by assumption)
        have hag2 := hag pv.1 e1.2
        refine V.region ?_
        refine V.loadO T_ok Fk49 rfl rfl rfl rfl rfl ?_
        refine V.loadO T_ok Fk19 rfl rfl rfl rfl rfl ?_
        refine V.loadO T_ok Fk31 rfl rfl rfl rfl rfl ?_
        refine V.run T_ok 1 rfl ?_
        refine V.call (push_spec (mi := mi) (me := me) (an := an) (sw := sw) (sl := sl) (nw := nw) (nl := nl) (pr := pr) (d := pv.1) F44 (fun k hk => by have := hk.2; omega) (by first | assumption | omega | decide)) rfl rfl rfl ?_
        rintro _ w256 ⟨a253, c254, rfl, F255, G257⟩
        have z258 := V.Fr.size G257
        try replace F_o := F_o.gr G257
        try replace F_ws := F_ws.gr G257
        try replace Fk2 := Fk2.gr G257
        try replace Fk9 := Fk9.gr G257
        try replace Fk19 := Fk19.gr G257
        try replace Fk31 := Fk31.gr G257
        try replace F44 := F44.gr G257
        try replace Fk49 := Fk49.gr G257
        try replace Fk105 := Fk105.gr G257
        replace HG := HG.grow G257
        clear G257
        refine V.run T_ok 3 rfl ?_
        refine V.alloc zero27 rfl rfl rfl ?_
        rintro k259 w261 s263 s264 G262 Fk260
        have z265 := V.Fr.size G262
        try replace F_o := F_o.gr G262
        try replace F_ws := F_ws.gr G262
        try replace Fk2 := Fk2.gr G262
        try replace Fk9 := Fk9.gr G262
        try replace Fk19 := Fk19.gr G262
        try replace Fk31 := Fk31.gr G262
        try replace F44 := F44.gr G262
        try replace Fk49 := Fk49.gr G262
        try replace Fk105 := Fk105.gr G262
        try replace F255 := F255.gr G262
        replace HG := HG.grow G262
        clear G262
        try simp only [V.cellsL, V.spliceL] at Fk260
        refine V.storeO Fk260 rfl rfl rfl rfl sz27 rfl rfl rfl rfl ?_
        rintro w266 G267 z269 Fs268
        clear Fk260
        have z270 := V.Fr.size G267
        first | replace F_o := F_o.mb G267 hD_o | clear F_o | skip
        first | replace F_ws := F_ws.mb G267 hD_ws | clear F_ws | skip
        first | replace Fk2 := Fk2.mv1 G267 (by omega) | clear Fk2 | skip
        first | replace Fk9 := Fk9.mv1 G267 (by omega) | clear Fk9 | skip
        first | replace Fk19 := Fk19.mv1 G267 (by omega) | clear Fk19 | skip
        first | replace Fk31 := Fk31.mv1 G267 (by omega) | clear Fk31 | skip
        first | replace F44 := F44.ma G267 | clear F44 | skip
        first | replace Fk49 := Fk49.mv1 G267 (by omega) | clear Fk49 | skip
        first | replace Fk105 := Fk105.mv1 G267 (by omega) | clear Fk105 | skip
        first | replace F255 := F255.ma G267 | clear F255 | skip
        replace HG := HG.n1 G267
        clear G267
        have Fk260 := Fs268; clear Fs268
        simp only [V.spliceL, V.cellsL] at Fk260
        refine V.run T_ok 1 rfl ?_
        refine V.nil ?_
        refine V.tN ?_
        refine V.seq ?_
        refine V.region ?_
        refine V.call (alive_spec) rfl rfl rfl ?_
        rintro _ w271 ⟨rfl, G272⟩
        have z273 := V.Fr.size G272
        try replace F_o := F_o.gr G272
        try replace F_ws := F_ws.gr G272
        try replace Fk2 := Fk2.gr G272
        try replace Fk9 := Fk9.gr G272
        try replace Fk19 := Fk19.gr G272
        try replace Fk31 := Fk31.gr G272
        try replace F44 := F44.gr G272
        try replace Fk49 := Fk49.gr G272
        try replace Fk105 := Fk105.gr G272
        try replace F255 := F255.gr G272
        try replace Fk260 := Fk260.gr G272
        replace HG := HG.grow G272
        clear G272
        refine V.run T_ok 5 rfl ?_
        refine V.splitT (j := 5) (t := 118) rfl rfl (by (apply decide_eq_true; exact e1.1)) ?_
        refine V.run T_ok 1 rfl ?_
        refine V.yes rfl rfl rfl ?_
        refine V.loadO T_ok Fk49 rfl rfl rfl rfl rfl ?_
        refine V.run T_ok 3 rfl ?_
        refine V.splitT (j := 10) (t := 123) rfl rfl (by (apply decide_eq_true; exact e1.2)) ?_
        refine V.run T_ok 4 rfl ?_
        refine V.splitT (j := 14) (t := 127) rfl rfl (by (rw [hag2]; rfl)) ?_
        refine V.yes rfl rfl rfl ?_
        refine V.loadO T_ok Fk49 rfl rfl rfl rfl rfl ?_
        refine V.yes rfl rfl rfl ?_
        refine V.loadO T_ok Fk260 rfl rfl rfl rfl rfl ?_
        refine V.yes rfl rfl rfl ?_
        refine V.call (same_spec (d := pv.1) (x := (rPush pv.1 mi me sw sl nw nl pr).1) F44 (fun k hk => by have := hk.2; omega) F255 (fun k hk => by have := hk.2; omega)) rfl rfl rfl ?_
        rintro _ w271_ ⟨rfl, G275⟩
        have z276 := V.Fr.size G275
        try replace F_o := F_o.gr G275
        try replace F_ws := F_ws.gr G275
        try replace Fk2 := Fk2.gr G275
        try replace Fk9 := Fk9.gr G275
        try replace Fk19 := Fk19.gr G275
        try replace Fk31 := Fk31.gr G275
        try replace F44 := F44.gr G275
        try replace Fk49 := Fk49.gr G275
        try replace Fk105 := Fk105.gr G275
        try replace F255 := F255.gr G275
        try replace Fk260 := Fk260.gr G275
        replace HG := HG.grow G275
        clear G275
        refine V.run T_ok 2 rfl ?_
        refine V.nil ?_
        refine V.tN ?_
        refine V.ret ?_
        refine V.done rfl ?_
        exact ⟨congrArg Value.bool (by rw [hag2]; exact sameR_self _), HG⟩

end Go.Proofs.Ytaokenlcjkomhaa
