/- Proved here: walks: what functions of this seat's program return and what they leave of memory, each as a contract. Conditions: stated at each theorem. -/
import Derived.Test.YtaokenlcjkomhaaMlr
namespace Go.Proofs.Ytaokenlcjkomhaa
set_option linter.unusedVariables false
set_option linter.unusedSimpArgs false
open Go
open V (Bytes Meets Env Sl Own Gr Fr Cells S)
set_option maxHeartbeats 4000000 in
set_option maxRecDepth 10000 in
theorem recordPlays_walk {w : World} {d : RecV} {D_o : Nat → Prop} {c_o : Nat} {a_o : Option Addr} (F_o : Sl V.Cod.write w D_o a_o c_o d.ws) (hD_o : ∀ k, D_o k → k < w.heap.size) {ki : Int} {ep : Int} {aw : Int} {al : Int} {nw : Int} {nl : Int} {D_ws : Nat → Prop} {c_ws : Nat} {a_ws : Option Addr} {ws : List (ByteArray × Int)} (F_ws : Sl V.Cod.write w D_ws a_ws c_ws ws) (hD_ws : ∀ k, D_ws k → k < w.heap.size) {co : Bool} {sg : Bool} {mi : Int} {me : Int} {an : ByteArray} {sw : Int} {sl : Int} {pr : Int} (hkr : keysOk d.ws) :
    Meets Try.prog 3 [.agg #[.int .i64 d.id, .int .i64 d.ep, .int .i64 d.st, .int .i64 d.aw, .int .i64 d.al, .int .i64 d.bw, .int .i64 d.bl, .slice a_o d.ws.length c_o], .agg #[.int .i64 ki, .int .i64 ep, .int .i64 aw, .int .i64 al, .int .i64 nw, .int .i64 nl, .slice a_ws ws.length c_ws, .bool co, .bool sg, .int .i64 mi, .int .i64 me, .string an, .int .i64 sw, .int .i64 sl, .int .i64 pr]] w fun r w' => r = .bool true ∧ Gr w w' := by
 have HG := V.Fr.refl [] w
 refine V.enter (n := 53) Try.func3 rfl rfl (by decide) rfl ?_
 refine V.seq ?_
 refine V.region ?_
 refine V.box rfl rfl rfl rfl ?_
 rintro k1 w3 s5 s6 G4 Fk2
 have z7 := V.Fr.size G4
 try replace F_o := F_o.gr G4
 try replace F_ws := F_ws.gr G4
 replace HG := HG.grow G4
 clear G4
 try simp only [V.cellsL, V.spliceL] at Fk2
 refine V.box rfl rfl rfl rfl ?_
 rintro k8 w10 s12 s13 G11 Fk9
 have z14 := V.Fr.size G11
 try replace F_o := F_o.gr G11
 try replace F_ws := F_ws.gr G11
 try replace Fk2 := Fk2.gr G11
 replace HG := HG.grow G11
 clear G11
 try simp only [V.cellsL, V.spliceL] at Fk9
 refine V.run T_ok 1 rfl ?_
 refine V.nil ?_
 refine V.tN ?_
 refine V.seq ?_
 refine V.region ?_
 refine V.loadO T_ok Fk9 rfl rfl rfl rfl rfl ?_
 refine V.call (fitsA_spec (ki := ki) (ep := ep) (aw := aw) (al := al) (nw := nw) (nl := nl) (co := co) (sg := sg) (mi := mi) (me := me) (an := an) (sw := sw) (sl := sl) (pr := pr) F_ws (fun k hk => by have := hD_ws k hk; omega)) rfl rfl rfl ?_
 rintro _ w15 ⟨rfl, G16⟩
 have z17 := V.Fr.size G16
 try replace F_o := F_o.gr G16
 try replace F_ws := F_ws.gr G16
 try replace Fk2 := Fk2.gr G16
 try replace Fk9 := Fk9.gr G16
 replace HG := HG.grow G16
 clear G16
 refine V.run T_ok 1 rfl ?_
 refine V.nil ?_
 refine V.tN ?_
 refine V.seq ?_
 refine V.region ?_
 refine V.loadO T_ok Fk2 rfl rfl rfl rfl rfl ?_
 refine V.call (fitsR_spec (d := d) F_o (fun k hk => by have := hD_o k hk; omega) (by first | assumption | (unfold keysOk; decide))) rfl rfl rfl ?_
 rintro _ w18 ⟨rfl, G19⟩
 have z20 := V.Fr.size G19
 try replace F_o := F_o.gr G19
 try replace F_ws := F_ws.gr G19
 try replace Fk2 := Fk2.gr G19
 try replace Fk9 := Fk9.gr G19
 replace HG := HG.grow G19
 clear G19
 refine V.run T_ok 1 rfl ?_
 refine V.nil ?_
 refine V.tN ?_
 refine V.seq ?_
 refine V.seq ?_
 refine V.region ?_
 refine V.run T_ok 3 rfl ?_
 refine V.orG T_ok 2 2 18 rfl rfl rfl rfl rfl rfl rfl rfl ?_
 refine V.nil ?_
 refine V.tN ?_
 refine V.condT rfl (fun h3 => ?_) (fun h3 => ?_)
 ·
  try replace h3 := V.dec h3
  try simp only [V.mk0, V.mk1, V.mk2, V.mk3] at h3
  refine V.seq ?_
  refine V.region ?_
  refine V.call (alive_spec) rfl rfl rfl ?_
  rintro _ w21 ⟨rfl, G22⟩
  have z23 := V.Fr.size G22
  try replace F_o := F_o.gr G22
  try replace F_ws := F_ws.gr G22
  try replace Fk2 := Fk2.gr G22
  try replace Fk9 := Fk9.gr G22
  replace HG := HG.grow G22
  clear G22
  refine V.run T_ok 1 rfl ?_
  refine V.nil ?_
  refine V.tN ?_
  refine V.ret ?_
  refine V.tR ?_
  refine V.done rfl ?_
  exact ⟨(congrArg Value.bool (by first | rfl | (first | exact (sameR_self _) | simp [sameR_self] | simp))), HG⟩
 ·
  try replace h3 := V.dec h3
  try simp only [V.mk0, V.mk1, V.mk2, V.mk3] at h3
  obtain ⟨hfa, hfr⟩ := h3
  obtain ⟨hkw, hlw⟩ := fitsA_keys hfa
  obtain ⟨hlr, hrb⟩ := fitsR_len hfr
  refine V.skip ?_
  refine V.tN ?_
  refine V.seq ?_
  refine V.region ?_
  refine V.loadO T_ok Fk2 rfl rfl rfl rfl rfl ?_
  refine V.call (copy_spec (d := d) F_o (fun k hk => by have := hD_o k hk; omega) (by first | assumption | omega | decide)) rfl rfl rfl ?_
  rintro _ w27 ⟨a24, c25, rfl, F26, G28⟩
  have z29 := V.Fr.size G28
  try replace F_o := F_o.gr G28
  try replace F_ws := F_ws.gr G28
  try replace Fk2 := Fk2.gr G28
  try replace Fk9 := Fk9.gr G28
  replace HG := HG.grow G28
  clear G28
  refine V.alloc zero27 rfl rfl rfl ?_
  rintro k30 w32 s34 s35 G33 Fk31
  have z36 := V.Fr.size G33
  try replace F_o := F_o.gr G33
  try replace F_ws := F_ws.gr G33
  try replace Fk2 := Fk2.gr G33
  try replace Fk9 := Fk9.gr G33
  try replace F26 := F26.gr G33
  replace HG := HG.grow G33
  clear G33
  try simp only [V.cellsL, V.spliceL] at Fk31
  refine V.storeO Fk31 rfl rfl rfl rfl sz27 rfl rfl rfl rfl ?_
  rintro w37 G38 z40 Fs39
  clear Fk31
  have z41 := V.Fr.size G38
  first | replace F_o := F_o.mb G38 hD_o | clear F_o | skip
  first | replace F_ws := F_ws.mb G38 hD_ws | clear F_ws | skip
  first | replace Fk2 := Fk2.mv1 G38 (by omega) | clear Fk2 | skip
  first | replace Fk9 := Fk9.mv1 G38 (by omega) | clear Fk9 | skip
  first | replace F26 := F26.ma G38 | clear F26 | skip
  replace HG := HG.n1 G38
  clear G38
  have Fk31 := Fs39; clear Fs39
  simp only [V.spliceL, V.cellsL] at Fk31
  refine V.nil ?_
  refine V.tN ?_
  refine V.seq ?_
  refine V.region ?_
  refine V.loadO T_ok Fk9 rfl rfl rfl rfl rfl ?_
  refine V.loadO T_ok Fk2 rfl rfl rfl rfl rfl ?_
  refine V.call (do_spec (ki := ki) (ep := ep) (aw := aw) (al := al) (nw := nw) (nl := nl) (co := co) (sg := sg) (mi := mi) (me := me) (an := an) (sw := sw) (sl := sl) (pr := pr) (d := d) F_ws (fun k hk => by have := hD_ws k hk; omega) F_o (fun k hk => by have := hD_o k hk; omega) (by first | assumption | omega) (by first | assumption | omega) (by assumption)) rfl rfl rfl ?_
  rintro _ w45 ⟨a42, c43, rfl, F44, G46⟩
  have z47 := V.Fr.size G46
  try replace F_o := F_o.gr G46
  try replace F_ws := F_ws.gr G46
  try replace Fk2 := Fk2.gr G46
  try replace Fk9 := Fk9.gr G46
  try replace F26 := F26.gr G46
  try replace Fk31 := Fk31.gr G46
  replace HG := HG.grow G46
  clear G46
  refine V.run T_ok 3 rfl ?_
  refine V.alloc zero27 rfl rfl rfl ?_
  rintro k48 w50 s52 s53 G51 Fk49
  have z54 := V.Fr.size G51
  try replace F_o := F_o.gr G51
  try replace F_ws := F_ws.gr G51
  try replace Fk2 := Fk2.gr G51
  try replace Fk9 := Fk9.gr G51
  try replace F26 := F26.gr G51
  try replace Fk31 := Fk31.gr G51
  try replace F44 := F44.gr G51
  replace HG := HG.grow G51
  clear G51
  try simp only [V.cellsL, V.spliceL] at Fk49
  refine V.storeO Fk49 rfl rfl rfl rfl sz27 rfl rfl rfl rfl ?_
  rintro w55 G56 z58 Fs57
  clear Fk49
  have z59 := V.Fr.size G56
  first | replace F_o := F_o.mb G56 hD_o | clear F_o | skip
  first | replace F_ws := F_ws.mb G56 hD_ws | clear F_ws | skip
  first | replace Fk2 := Fk2.mv1 G56 (by omega) | clear Fk2 | skip
  first | replace Fk9 := Fk9.mv1 G56 (by omega) | clear Fk9 | skip
  first | replace F26 := F26.ma G56 | clear F26 | skip
  first | replace Fk31 := Fk31.mv1 G56 (by omega) | clear Fk31 | skip
  first | replace F44 := F44.ma G56 | clear F44 | skip
  replace HG := HG.n1 G56
  clear G56
  have Fk49 := Fs57; clear Fs57
  simp only [V.spliceL, V.cellsL] at Fk49
  refine V.run T_ok 1 rfl ?_
  refine V.nil ?_
  refine V.tN ?_
  refine V.seq ?_
  refine V.region ?_
  refine V.loadO T_ok Fk9 rfl rfl rfl rfl rfl ?_
  refine V.loadO T_ok Fk2 rfl rfl rfl rfl rfl ?_
  refine V.call (doref_spec (ki := ki) (ep := ep) (aw := aw) (al := al) (nw := nw) (nl := nl) (co := co) (sg := sg) (mi := mi) (me := me) (an := an) (sw := sw) (sl := sl) (pr := pr) (d := d) F_ws (fun k hk => by have := hD_ws k hk; omega) F_o (fun k hk => by have := hD_o k hk; omega) (by first | assumption | omega) (by first | assumption | omega) (by assumption)) rfl rfl rfl ?_
  rintro _ w63 ⟨a60, c61, rfl, F62, G64⟩
  have z65 := V.Fr.size G64
  try replace F_o := F_o.gr G64
  try replace F_ws := F_ws.gr G64
  try replace Fk2 := Fk2.gr G64
  try replace Fk9 := Fk9.gr G64
  try replace F26 := F26.gr G64
  try replace Fk31 := Fk31.gr G64
  try replace F44 := F44.gr G64
  try replace Fk49 := Fk49.gr G64
  replace HG := HG.grow G64
  clear G64
  refine V.run T_ok 3 rfl ?_
  refine V.alloc zero27 rfl rfl rfl ?_
  rintro k66 w68 s70 s71 G69 Fk67
  have z72 := V.Fr.size G69
  try replace F_o := F_o.gr G69
  try replace F_ws := F_ws.gr G69
  try replace Fk2 := Fk2.gr G69
  try replace Fk9 := Fk9.gr G69
  try replace F26 := F26.gr G69
  try replace Fk31 := Fk31.gr G69
  try replace F44 := F44.gr G69
  try replace Fk49 := Fk49.gr G69
  try replace F62 := F62.gr G69
  replace HG := HG.grow G69
  clear G69
  try simp only [V.cellsL, V.spliceL] at Fk67
  refine V.storeO Fk67 rfl rfl rfl rfl sz27 rfl rfl rfl rfl ?_
  rintro w73 G74 z76 Fs75
  clear Fk67
  have z77 := V.Fr.size G74
  first | replace F_o := F_o.mb G74 hD_o | clear F_o | skip
  first | replace F_ws := F_ws.mb G74 hD_ws | clear F_ws | skip
  first | replace Fk2 := Fk2.mv1 G74 (by omega) | clear Fk2 | skip
  first | replace Fk9 := Fk9.mv1 G74 (by omega) | clear Fk9 | skip
  first | replace F26 := F26.ma G74 | clear F26 | skip
  first | replace Fk31 := Fk31.mv1 G74 (by omega) | clear Fk31 | skip
  first | replace F44 := F44.ma G74 | clear F44 | skip
  first | replace Fk49 := Fk49.mv1 G74 (by omega) | clear Fk49 | skip
  first | replace F62 := F62.ma G74 | clear F62 | skip
  replace HG := HG.n1 G74
  clear G74
  have Fk67 := Fs75; clear Fs75
  simp only [V.spliceL, V.cellsL] at Fk67
  refine V.run T_ok 1 rfl ?_
  refine V.nil ?_
  refine V.tN ?_
  refine V.seq ?_
  refine V.region ?_
  refine V.call (alive_spec) rfl rfl rfl ?_
  rintro _ w78 ⟨rfl, G79⟩
  have z80 := V.Fr.size G79
  try replace F_o := F_o.gr G79
  try replace F_ws := F_ws.gr G79
  try replace Fk2 := Fk2.gr G79
  try replace Fk9 := Fk9.gr G79
  try replace F26 := F26.gr G79
  try replace Fk31 := Fk31.gr G79
  try replace F44 := F44.gr G79
  try replace Fk49 := Fk49.gr G79
  try replace F62 := F62.gr G79
  try replace Fk67 := Fk67.gr G79
  replace HG := HG.grow G79
  clear G79
  refine V.run T_ok 6 rfl ?_
  refine V.splitT (j := 6) (t := 43) rfl rfl (by (first | rfl | decide | simp)) ?_
  refine V.yes rfl rfl rfl ?_
  refine V.loadO T_ok Fk49 rfl rfl rfl rfl rfl ?_
  refine V.yes rfl rfl rfl ?_
  refine V.loadO T_ok Fk67 rfl rfl rfl rfl rfl ?_
  refine V.yes rfl rfl rfl ?_
  refine V.call (rsame_spec (d := (play d ki ep aw al nw nl ws co sg mi me sw sl pr).1) (x := (play d ki ep aw al nw nl ws co sg mi me sw sl pr).1) F44 (fun k hk => by have := hk.2; omega) F62 (fun k hk => by have := hk.2; omega)) rfl rfl rfl ?_
  rintro _ w78_ ⟨rfl, G82⟩
  have z83 := V.Fr.size G82
  try replace F_o := F_o.gr G82
  try replace F_ws := F_ws.gr G82
  try replace Fk2 := Fk2.gr G82
  try replace Fk9 := Fk9.gr G82
  try replace F26 := F26.gr G82
  try replace Fk31 := Fk31.gr G82
  try replace F44 := F44.gr G82
  try replace Fk49 := Fk49.gr G82
  try replace F62 := F62.gr G82
  try replace Fk67 := Fk67.gr G82
  replace HG := HG.grow G82
  clear G82
  refine V.run T_ok 2 rfl ?_
  refine V.splitT (j := 11) (t := 48) rfl rfl (by (first | exact sameR_self _ | rfl)) ?_
  refine V.yes rfl rfl rfl ?_
  refine V.loadO T_ok Fk2 rfl rfl rfl rfl rfl ?_
  refine V.yes rfl rfl rfl ?_
  refine V.loadO T_ok Fk31 rfl rfl rfl rfl rfl ?_
  refine V.yes rfl rfl rfl ?_
  refine V.call (rsame_spec (d := d) (x := d) F_o (fun k hk => by have := hD_o k hk; omega) F26 (fun k hk => by have := hk.2; omega)) rfl rfl rfl ?_
  rintro _ w81_ ⟨rfl, G85⟩
  have z86 := V.Fr.size G85
  try replace F_o := F_o.gr G85
  try replace F_ws := F_ws.gr G85
  try replace Fk2 := Fk2.gr G85
  try replace Fk9 := Fk9.gr G85
  try replace F26 := F26.gr G85
  try replace Fk31 := Fk31.gr G85
  try replace F44 := F44.gr G85
  try replace Fk49 := Fk49.gr G85
  try replace F62 := F62.gr G85
  try replace Fk67 := Fk67.gr G85
  replace HG := HG.grow G85
  clear G85
  refine V.run T_ok 2 rfl ?_
  refine V.nil ?_
  refine V.tN ?_
  refine V.ret ?_
  refine V.done rfl ?_
  exact ⟨(congrArg Value.bool (by first | rfl | (first | exact (sameR_self _) | simp [sameR_self] | simp))), HG⟩

end Go.Proofs.Ytaokenlcjkomhaa
