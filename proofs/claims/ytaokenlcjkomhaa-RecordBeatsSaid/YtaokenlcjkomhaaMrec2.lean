/- Proved here: walks: what functions of this seat's program return and what they leave of memory, each as a contract. Conditions: stated at each theorem. -/
import Derived.Test.YtaokenlcjkomhaaMrecp
namespace Go.Proofs.Ytaokenlcjkomhaa
set_option linter.unusedVariables false
set_option linter.unusedSimpArgs false
open Go
open V (Bytes Meets Env Sl Own Gr Fr Cells S)
set_option maxHeartbeats 4000000 in
set_option maxRecDepth 10000 in
theorem stage_spec {w : World} {d : RecV} {D_o : Nat → Prop} {c_o : Nat} {a_o : Option Addr} (F_o : Sl V.Cod.write w D_o a_o c_o d.ws) (hD_o : ∀ k, D_o k → k < w.heap.size) {ep : Int} {aw : Int} {al : Int} {nw : Int} {nl : Int} {D_ws : Nat → Prop} {c_ws : Nat} {a_ws : Option Addr} {ws : List (ByteArray × Int)} (F_ws : Sl V.Cod.write w D_ws a_ws c_ws ws) (hD_ws : ∀ k, D_ws k → k < w.heap.size) (hl : d.ws.length ≤ 5864062014805) (hlw : ws.length ≤ 5864062014805) (hw : keysOk ws) :
    Meets Try.prog 31 [.agg #[.int .i64 d.id, .int .i64 d.ep, .int .i64 d.st, .int .i64 d.aw, .int .i64 d.al, .int .i64 d.bw, .int .i64 d.bl, .slice a_o d.ws.length c_o], .int .i64 ep, .agg #[.int .i64 aw, .int .i64 al], .agg #[.int .i64 nw, .int .i64 nl], .slice a_ws ws.length c_ws] w fun r w' => ∃ (ra28 : Option Addr) (rc28 : Nat), r = .tuple #[.agg #[.int .i64 ((rStage d ep aw al nw nl ws).1.id), .int .i64 ((rStage d ep aw al nw nl ws).1.ep), .int .i64 ((rStage d ep aw al nw nl ws).1.st), .int .i64 ((rStage d ep aw al nw nl ws).1.aw), .int .i64 ((rStage d ep aw al nw nl ws).1.al), .int .i64 ((rStage d ep aw al nw nl ws).1.bw), .int .i64 ((rStage d ep aw al nw nl ws).1.bl), .slice ra28 ((rStage d ep aw al nw nl ws).1.ws).length rc28], .int .i64 ((rStage d ep aw al nw nl ws).2)] ∧ Sl V.Cod.write w' (V.In w.heap.size w'.heap.size) ra28 rc28 ((rStage d ep aw al nw nl ws).1.ws) ∧ Gr w w' := by
 have HG := V.Fr.refl [] w
 refine V.enter (n := 73) Try.func31 rfl rfl (by decide) rfl ?_
 refine V.seq ?_
 refine V.region ?_
 refine V.box rfl rfl rfl rfl ?_
 rintro k1 w3 s5 s6 G4 Fk2
 have z7 := V.Fr.size G4
 try replace F_o := F_o.gr G4
 try replace F_ws := F_ws.gr G4
 replace HG := HG.grow G4
 clear G4
 try simp only [V.cellsL, V.spliceL] at Fk2
 refine V.box rfl rfl rfl rfl ?_
 rintro k8 w10 s12 s13 G11 Fk9
 have z14 := V.Fr.size G11
 try replace F_o := F_o.gr G11
 try replace F_ws := F_ws.gr G11
 try replace Fk2 := Fk2.gr G11
 replace HG := HG.grow G11
 clear G11
 try simp only [V.cellsL, V.spliceL] at Fk9
 refine V.box rfl rfl rfl rfl ?_
 rintro k15 w17 s19 s20 G18 Fk16
 have z21 := V.Fr.size G18
 try replace F_o := F_o.gr G18
 try replace F_ws := F_ws.gr G18
 try replace Fk2 := Fk2.gr G18
 try replace Fk9 := Fk9.gr G18
 replace HG := HG.grow G18
 clear G18
 try simp only [V.cellsL, V.spliceL] at Fk16
 refine V.alloc zero27 rfl rfl rfl ?_
 rintro k22 w24 s26 s27 G25 Fk23
 have z28 := V.Fr.size G25
 try replace F_o := F_o.gr G25
 try replace F_ws := F_ws.gr G25
 try replace Fk2 := Fk2.gr G25
 try replace Fk9 := Fk9.gr G25
 try replace Fk16 := Fk16.gr G25
 replace HG := HG.grow G25
 clear G25
 try simp only [V.cellsL, V.spliceL] at Fk23
 refine V.run T_ok 1 rfl ?_
 refine V.nil ?_
 refine V.tN ?_
 refine V.seq ?_
 refine V.region ?_
 refine V.loadO T_ok Fk2 rfl rfl rfl rfl rfl ?_
 refine V.call (copied_spec (d := d) F_o (fun k hk => by have := hD_o k hk; omega) (by first | assumption | omega | decide)) rfl rfl rfl ?_
 rintro _ w32 ⟨a29, c30, rfl, F31, G33⟩
 have z34 := V.Fr.size G33
 try replace F_o := F_o.gr G33
 try replace F_ws := F_ws.gr G33
 try replace Fk2 := Fk2.gr G33
 try replace Fk9 := Fk9.gr G33
 try replace Fk16 := Fk16.gr G33
 try replace Fk23 := Fk23.gr G33
 replace HG := HG.grow G33
 clear G33
 refine V.storeO Fk2 rfl rfl rfl rfl sz27 rfl rfl rfl rfl ?_
 rintro w35 G36 z38 Fs37
 clear Fk2
 have z39 := V.Fr.size G36
 first | replace F_o := F_o.mb G36 hD_o | clear F_o | skip
 first | replace F_ws := F_ws.mb G36 hD_ws | clear F_ws | skip
 first | replace Fk9 := Fk9.mv1 G36 (by omega) | clear Fk9 | skip
 first | replace Fk16 := Fk16.mv1 G36 (by omega) | clear Fk16 | skip
 first | replace Fk23 := Fk23.mv1 G36 (by omega) | clear Fk23 | skip
 first | replace F31 := F31.ma G36 | clear F31 | skip
 replace HG := HG.n1 G36
 clear G36
 have Fk2 := Fs37; clear Fs37
 simp only [V.spliceL, V.cellsL] at Fk2
 refine V.nil ?_
 refine V.tN ?_
 refine V.seq ?_
 refine V.seq ?_
 refine V.region ?_
 refine V.run T_ok 1 rfl ?_
 refine V.call (number_ok (n := ep)) rfl rfl rfl ?_
 rintro _ w35_ ⟨rfl, rfl⟩
 refine V.run T_ok 2 rfl ?_
 refine V.split (j := 3) (t := 18) rfl rfl (fun g2_3 => ?_) (fun g2_3 => ?_)
 ·
  try replace g2_3 := V.dec g2_3
  try simp only [V.mk0, V.mk1, V.mk2, V.mk3] at g2_3
  refine V.run T_ok 14 rfl ?_
  refine V.nil ?_
  refine V.tN ?_
  refine V.condY rfl rfl ?_
  refine V.seq ?_
  refine V.region ?_
  refine V.loadO T_ok Fk2 rfl rfl rfl rfl rfl ?_
  refine V.storeO Fk23 rfl rfl rfl rfl sz27 rfl rfl rfl rfl ?_
  rintro w41 G42 z44 Fs43
  clear Fk23
  have z45 := V.Fr.size G42
  first | replace F_o := F_o.mb G42 hD_o | clear F_o | skip
  first | replace F_ws := F_ws.mb G42 hD_ws | clear F_ws | skip
  first | replace Fk9 := Fk9.mv1 G42 (by omega) | clear Fk9 | skip
  first | replace Fk16 := Fk16.mv1 G42 (by omega) | clear Fk16 | skip
  first | replace F31 := F31.ma G42 | clear F31 | skip
  first | replace Fk2 := Fk2.mv1 G42 (by omega) | clear Fk2 | skip
  replace HG := HG.n1 G42
  clear G42
  have Fk23 := Fs43; clear Fs43
  simp only [V.spliceL, V.cellsL] at Fk23
  refine V.run T_ok 1 rfl ?_
  refine V.nil ?_
  refine V.tN ?_
  refine V.ret ?_
  refine V.tR ?_
  refine V.done2 rfl (V.resV_cell T_ok Fk23 rfl rfl) (V.resV_tmp rfl) ?_
  first
    | rw [show rStage d ep aw al nw nl ws = (d, 1) by simp only [rStage, stR]; grind [ovE]]
  exact ⟨a29, c30, (by first | rfl | simp only [List.length_set]), F31.re, HG⟩
 ·
  try replace g2_3 := V.dec g2_3
  try simp only [V.mk0, V.mk1, V.mk2, V.mk3] at g2_3
  refine V.yes rfl rfl rfl ?_
  refine V.loadO T_ok Fk9 rfl rfl rfl rfl rfl ?_
  refine V.yes rfl rfl rfl ?_
  refine V.call (right_spec (a := aw) (b := al)) rfl rfl rfl ?_
  rintro _ w46 ⟨rfl, G47⟩
  have z48 := V.Fr.size G47
  try replace F_o := F_o.gr G47
  try replace F_ws := F_ws.gr G47
  try replace Fk9 := Fk9.gr G47
  try replace Fk16 := Fk16.gr G47
  try replace Fk23 := Fk23.gr G47
  try replace F31 := F31.gr G47
  try replace Fk2 := Fk2.gr G47
  replace HG := HG.grow G47
  clear G47
  refine V.run T_ok 3 rfl ?_
  refine V.split (j := 8) (t := 23) rfl rfl (fun g2_8 => ?_) (fun g2_8 => ?_)
  ·
   try replace g2_8 := V.dec g2_8
   try simp only [V.mk0, V.mk1, V.mk2, V.mk3] at g2_8
   refine V.run T_ok 9 rfl ?_
   refine V.nil ?_
   refine V.tN ?_
   refine V.condY rfl rfl ?_
   refine V.seq ?_
   refine V.region ?_
   refine V.loadO T_ok Fk2 rfl rfl rfl rfl rfl ?_
   refine V.storeO Fk23 rfl rfl rfl rfl sz27 rfl rfl rfl rfl ?_
   rintro w49 G50 z52 Fs51
   clear Fk23
   have z53 := V.Fr.size G50
   first | replace F_o := F_o.mb G50 hD_o | clear F_o | skip
   first | replace F_ws := F_ws.mb G50 hD_ws | clear F_ws | skip
   first | replace Fk9 := Fk9.mv1 G50 (by omega) | clear Fk9 | skip
   first | replace Fk16 := Fk16.mv1 G50 (by omega) | clear Fk16 | skip
   first | replace F31 := F31.ma G50 | clear F31 | skip
   first | replace Fk2 := Fk2.mv1 G50 (by omega) | clear Fk2 | skip
   replace HG := HG.n1 G50
   clear G50
   have Fk23 := Fs51; clear Fs51
   simp only [V.spliceL, V.cellsL] at Fk23
   refine V.run T_ok 1 rfl ?_
   refine V.nil ?_
   refine V.tN ?_
   refine V.ret ?_
   refine V.tR ?_
   refine V.done2 rfl (V.resV_cell T_ok Fk23 rfl rfl) (V.resV_tmp rfl) ?_
   first
     | rw [show rStage d ep aw al nw nl ws = (d, 1) by simp only [rStage, stR]; grind [ovE]]
   exact ⟨a29, c30, (by first | rfl | simp only [List.length_set]), F31.re, HG⟩
  ·
   try replace g2_8 := V.dec g2_8
   try simp only [V.mk0, V.mk1, V.mk2, V.mk3] at g2_8
   refine V.yes rfl rfl rfl ?_
   refine V.loadO T_ok Fk16 rfl rfl rfl rfl rfl ?_
   refine V.yes rfl rfl rfl ?_
   refine V.call (right_spec (a := nw) (b := nl)) rfl rfl rfl ?_
   rintro _ w54 ⟨rfl, G55⟩
   have z56 := V.Fr.size G55
   try replace F_o := F_o.gr G55
   try replace F_ws := F_ws.gr G55
   try replace Fk9 := Fk9.gr G55
   try replace Fk16 := Fk16.gr G55
   try replace Fk23 := Fk23.gr G55
   try replace F31 := F31.gr G55
   try replace Fk2 := Fk2.gr G55
   replace HG := HG.grow G55
   clear G55
   refine V.run T_ok 3 rfl ?_
   refine V.split (j := 13) (t := 28) rfl rfl (fun g2_13 => ?_) (fun g2_13 => ?_)
   ·
    try replace g2_13 := V.dec g2_13
    try simp only [V.mk0, V.mk1, V.mk2, V.mk3] at g2_13
    refine V.run T_ok 4 rfl ?_
    refine V.nil ?_
    refine V.tN ?_
    refine V.condY rfl rfl ?_
    refine V.seq ?_
    refine V.region ?_
    refine V.loadO T_ok Fk2 rfl rfl rfl rfl rfl ?_
    refine V.storeO Fk23 rfl rfl rfl rfl sz27 rfl rfl rfl rfl ?_
    rintro w57 G58 z60 Fs59
    clear Fk23
    have z61 := V.Fr.size G58
    first | replace F_o := F_o.mb G58 hD_o | clear F_o | skip
    first | replace F_ws := F_ws.mb G58 hD_ws | clear F_ws | skip
    first | replace Fk9 := Fk9.mv1 G58 (by omega) | clear Fk9 | skip
    first | replace Fk16 := Fk16.mv1 G58 (by omega) | clear Fk16 | skip
    first | replace F31 := F31.ma G58 | clear F31 | skip
    first | replace Fk2 := Fk2.mv1 G58 (by omega) | clear Fk2 | skip
    replace HG := HG.n1 G58
    clear G58
    have Fk23 := Fs59; clear Fs59
    simp only [V.spliceL, V.cellsL] at Fk23
    refine V.run T_ok 1 rfl ?_
    refine V.nil ?_
    refine V.tN ?_
    refine V.ret ?_
    refine V.tR ?_
    refine V.done2 rfl (V.resV_cell T_ok Fk23 rfl rfl) (V.resV_tmp rfl) ?_
    first
      | rw [show rStage d ep aw al nw nl ws = (d, 1) by simp only [rStage, stR]; grind [ovE]]
    exact ⟨a29, c30, (by first | rfl | simp only [List.length_set]), F31.re, HG⟩
   ·
    try replace g2_13 := V.dec g2_13
    try simp only [V.mk0, V.mk1, V.mk2, V.mk3] at g2_13
    refine V.run T_ok 1 rfl ?_
    refine V.yes rfl rfl rfl ?_
    refine V.call (written_spec F_ws (fun k hk => by have := hD_ws k hk; omega) (by first | assumption | exact keysOk.nil | (unfold keysOk; decide))) rfl rfl rfl ?_
    rintro _ w62 ⟨rfl, G63⟩
    have z64 := V.Fr.size G63
    try replace F_o := F_o.gr G63
    try replace F_ws := F_ws.gr G63
    try replace Fk9 := Fk9.gr G63
    try replace Fk16 := Fk16.gr G63
    try replace Fk23 := Fk23.gr G63
    try replace F31 := F31.gr G63
    try replace Fk2 := Fk2.gr G63
    replace HG := HG.grow G63
    clear G63
    refine V.run T_ok 2 rfl ?_
    refine V.nil ?_
    refine V.tN ?_
    refine V.condT rfl (fun h2 => ?_) (fun h2 => ?_)
    ·
     try replace h2 := V.dec h2
     try simp only [V.mk0, V.mk1, V.mk2, V.mk3] at h2
     refine V.seq ?_
     refine V.region ?_
     refine V.loadO T_ok Fk2 rfl rfl rfl rfl rfl ?_
     refine V.storeO Fk23 rfl rfl rfl rfl sz27 rfl rfl rfl rfl ?_
     rintro w65 G66 z68 Fs67
     clear Fk23
     have z69 := V.Fr.size G66
     first | replace F_o := F_o.mb G66 hD_o | clear F_o | skip
     first | replace F_ws := F_ws.mb G66 hD_ws | clear F_ws | skip
     first | replace Fk9 := Fk9.mv1 G66 (by omega) | clear Fk9 | skip
     first | replace Fk16 := Fk16.mv1 G66 (by omega) | clear Fk16 | skip
     first | replace F31 := F31.ma G66 | clear F31 | skip
     first | replace Fk2 := Fk2.mv1 G66 (by omega) | clear Fk2 | skip
     replace HG := HG.n1 G66
     clear G66
     have Fk23 := Fs67; clear Fs67
     simp only [V.spliceL, V.cellsL] at Fk23
     refine V.run T_ok 1 rfl ?_
     refine V.nil ?_
     refine V.tN ?_
     refine V.ret ?_
     refine V.tR ?_
     refine V.done2 rfl (V.resV_cell T_ok Fk23 rfl rfl) (V.resV_tmp rfl) ?_
     first
       | rw [show rStage d ep aw al nw nl ws = (d, 1) by simp only [rStage, stR]; grind [ovE]]
     exact ⟨a29, c30, (by first | rfl | simp only [List.length_set]), F31.re, HG⟩
    ·
     try replace h2 := V.dec h2
     try simp only [V.mk0, V.mk1, V.mk2, V.mk3] at h2
     refine V.skip ?_
     refine V.tN ?_
     refine V.seq ?_
     refine V.seq ?_
     refine V.region ?_
     refine V.loadO T_ok Fk2 rfl rfl rfl rfl rfl ?_
     refine V.call (over_spec (d := d) F31 (fun k hk => by have := hk.2; omega)) rfl rfl rfl ?_
     rintro _ w70 ⟨rfl, G71⟩
     have z72 := V.Fr.size G71
     try replace F_o := F_o.gr G71
     try replace F_ws := F_ws.gr G71
     try replace Fk9 := Fk9.gr G71
     try replace Fk16 := Fk16.gr G71
     try replace Fk23 := Fk23.gr G71
     try replace F31 := F31.gr G71
     try replace Fk2 := Fk2.gr G71
     replace HG := HG.grow G71
     clear G71
     refine V.run T_ok 1 rfl ?_
     refine V.nil ?_
     refine V.tN ?_
     refine V.seq ?_
     refine V.region ?_
     refine V.run T_ok 2 rfl ?_
     refine V.nil ?_
     refine V.tN ?_
     refine V.condT rfl (fun h5 => ?_) (fun h5 => ?_)
     ·
      try replace h5 := V.dec h5
      try simp only [V.mk0, V.mk1, V.mk2, V.mk3] at h5
      refine V.seq ?_
      refine V.region ?_
      refine V.loadO T_ok Fk2 rfl rfl rfl rfl rfl ?_
      refine V.run T_ok 1 rfl ?_
      refine V.storeO Fk23 rfl rfl rfl rfl sz27 rfl rfl rfl rfl ?_
      rintro w73 G74 z76 Fs75
      clear Fk23
      have z77 := V.Fr.size G74
      first | replace F_o := F_o.mb G74 hD_o | clear F_o | skip
      first | replace F_ws := F_ws.mb G74 hD_ws | clear F_ws | skip
      first | replace Fk9 := Fk9.mv1 G74 (by omega) | clear Fk9 | skip
      first | replace Fk16 := Fk16.mv1 G74 (by omega) | clear Fk16 | skip
      first | replace F31 := F31.ma G74 | clear F31 | skip
      first | replace Fk2 := Fk2.mv1 G74 (by omega) | clear Fk2 | skip
      replace HG := HG.n1 G74
      clear G74
      have Fk23 := Fs75; clear Fs75
      simp only [V.spliceL, V.cellsL] at Fk23
      refine V.run T_ok 1 rfl ?_
      refine V.nil ?_
      refine V.tN ?_
      refine V.ret ?_
      refine V.tR ?_
      refine V.done2 rfl (V.resV_cell T_ok Fk23 rfl rfl) (V.resV_tmp rfl) ?_
      first
        | rw [show rStage d ep aw al nw nl ws = (d, ovE d.st) by simp only [rStage, stR]; grind [ovE]]
      exact ⟨a29, c30, (by first | rfl | simp only [List.length_set]), F31.re, HG⟩
     ·
      try replace h5 := V.dec h5
      try simp only [V.mk0, V.mk1, V.mk2, V.mk3] at h5
      refine V.skip ?_
      refine V.tN ?_
      refine V.seq ?_
      refine V.seq ?_
      refine V.region ?_
      refine V.run T_ok 1 rfl ?_
      refine V.loadO T_ok Fk2 rfl rfl rfl rfl rfl ?_
      refine V.run T_ok 3 rfl ?_
      refine V.split (j := 4) (t := 44) rfl rfl (fun g7_4 => ?_) (fun g7_4 => ?_)
      ·
       try replace g7_4 := V.dec g7_4
       try simp only [V.mk0, V.mk1, V.mk2, V.mk3] at g7_4
       refine V.run T_ok 16 rfl ?_
       refine V.nil ?_
       refine V.tN ?_
       refine V.condY rfl rfl ?_
       refine V.seq ?_
       refine V.region ?_
       refine V.loadO T_ok Fk2 rfl rfl rfl rfl rfl ?_
       refine V.storeO Fk23 rfl rfl rfl rfl sz27 rfl rfl rfl rfl ?_
       rintro w78 G79 z81 Fs80
       clear Fk23
       have z82 := V.Fr.size G79
       first | replace F_o := F_o.mb G79 hD_o | clear F_o | skip
       first | replace F_ws := F_ws.mb G79 hD_ws | clear F_ws | skip
       first | replace Fk9 := Fk9.mv1 G79 (by omega) | clear Fk9 | skip
       first | replace Fk16 := Fk16.mv1 G79 (by omega) | clear Fk16 | skip
       first | replace F31 := F31.ma G79 | clear F31 | skip
       first | replace Fk2 := Fk2.mv1 G79 (by omega) | clear Fk2 | skip
       replace HG := HG.n1 G79
       clear G79
       have Fk23 := Fs80; clear Fs80
       simp only [V.spliceL, V.cellsL] at Fk23
       refine V.run T_ok 1 rfl ?_
       refine V.nil ?_
       refine V.tN ?_
       refine V.ret ?_
       refine V.tR ?_
       refine V.done2 rfl (V.resV_cell T_ok Fk23 rfl rfl) (V.resV_tmp rfl) ?_
       first
         | rw [show rStage d ep aw al nw nl ws = (d, 84) by simp only [rStage, stR]; grind [ovE]]
       exact ⟨a29, c30, (by first | rfl | simp only [List.length_set]), F31.re, HG⟩
      ·
       try replace g7_4 := V.dec g7_4
       try simp only [V.mk0, V.mk1, V.mk2, V.mk3] at g7_4
       refine V.run T_ok 1 rfl ?_
       refine V.yes rfl rfl rfl ?_
       refine V.loadO T_ok Fk2 rfl rfl rfl rfl rfl ?_
       refine V.run T_ok 2 rfl ?_
       refine V.split (j := 8) (t := 48) rfl rfl (fun g7_8 => ?_) (fun g7_8 => ?_)
       ·
        try replace g7_8 := V.dec g7_8
        try simp only [V.mk0, V.mk1, V.mk2, V.mk3] at g7_8
        refine V.run T_ok 1 rfl ?_
        refine V.yes rfl rfl rfl ?_
        refine V.loadO T_ok Fk2 rfl rfl rfl rfl rfl ?_
        refine V.run T_ok 4 rfl ?_
        refine V.split (j := 14) (t := 54) rfl rfl (fun g7_14 => ?_) (fun g7_14 => ?_)
        ·
         try replace g7_14 := V.dec g7_14
         try simp only [V.mk0, V.mk1, V.mk2, V.mk3] at g7_14
         refine V.yes rfl rfl rfl ?_
         refine V.loadO T_ok Fk9 rfl rfl rfl rfl rfl ?_
         refine V.run T_ok 1 rfl ?_
         refine V.yes rfl rfl rfl ?_
         refine V.loadO T_ok Fk2 rfl rfl rfl rfl rfl ?_
         refine V.yes rfl rfl rfl ?_
         refine V.call (less_spec (a := aw) (b := al) (c := d.aw) (d := d.al)) rfl rfl rfl ?_
         rintro _ w83 ⟨rfl, G84⟩
         have z85 := V.Fr.size G84
         try replace F_o := F_o.gr G84
         try replace F_ws := F_ws.gr G84
         try replace Fk9 := Fk9.gr G84
         try replace Fk16 := Fk16.gr G84
         try replace Fk23 := Fk23.gr G84
         try replace F31 := F31.gr G84
         try replace Fk2 := Fk2.gr G84
         replace HG := HG.grow G84
         clear G84
         refine V.run T_ok 2 rfl ?_
         refine V.nil ?_
         refine V.tN ?_
         refine V.condT rfl (fun h7 => ?_) (fun h7 => ?_)
         ·
          try replace h7 := V.dec h7
          try simp only [V.mk0, V.mk1, V.mk2, V.mk3] at h7
          refine V.seq ?_
          refine V.region ?_
          refine V.loadO T_ok Fk2 rfl rfl rfl rfl rfl ?_
          refine V.storeO Fk23 rfl rfl rfl rfl sz27 rfl rfl rfl rfl ?_
          rintro w86 G87 z89 Fs88
          clear Fk23
          have z90 := V.Fr.size G87
          first | replace F_o := F_o.mb G87 hD_o | clear F_o | skip
          first | replace F_ws := F_ws.mb G87 hD_ws | clear F_ws | skip
          first | replace Fk9 := Fk9.mv1 G87 (by omega) | clear Fk9 | skip
          first | replace Fk16 := Fk16.mv1 G87 (by omega) | clear Fk16 | skip
          first | replace F31 := F31.ma G87 | clear F31 | skip
          first | replace Fk2 := Fk2.mv1 G87 (by omega) | clear Fk2 | skip
          replace HG := HG.n1 G87
          clear G87
          have Fk23 := Fs88; clear Fs88
          simp only [V.spliceL, V.cellsL] at Fk23
          refine V.run T_ok 1 rfl ?_
          refine V.nil ?_
          refine V.tN ?_
          refine V.ret ?_
          refine V.tR ?_
          refine V.done2 rfl (V.resV_cell T_ok Fk23 rfl rfl) (V.resV_tmp rfl) ?_
          first
            | rw [show rStage d ep aw al nw nl ws = (d, 84) by simp only [rStage, stR]; grind [ovE]]
          exact ⟨a29, c30, (by first | rfl | simp only [List.length_set]), F31.re, HG⟩
         ·
          try replace h7 := V.dec h7
          try simp only [V.mk0, V.mk1, V.mk2, V.mk3] at h7
          refine V.skip ?_
          refine V.tN ?_
          refine V.seq ?_
          refine V.drawGT 10 (V.sel [(7, (fun v wz => v = .agg #[.int .i64 ((maxSt d.bw d.bl nw nl).1), .int .i64 ((maxSt d.bw d.bl nw nl).2)])), (9, (fun v wz => ∃ (ra19 : Option Addr) (rc19 : Nat), v = .slice ra19 ws.length rc19 ∧ V.Row V.Cod.write 49 wz V.None' w83.heap.size wz.heap.size ra19 rc19 ws))]) mixed (by kernel_rfl) (V.mono_cons V.eqV_mono (V.mono_cons (by rintro v wz wz' g ⟨ra19, rc19, rfl, rF19⟩; exact ⟨ra19, rc19, rfl, (by first | exact (rF19.gr g).mono (V.In.sub (Nat.le_refl _) g.size) | exact rF19.gr g | exact (rF19.gr g).mono (fun _ h => h) (Nat.le_refl _) g.size | exact (rF19.gr g).mono (fun k h => ⟨h.1, Nat.lt_of_lt_of_le h.2 g.size⟩))⟩) V.mono_nil)) ?_
          refine V.grun T_ok 1 rfl (V.sel_none rfl) ?_
          refine V.gloadO T_ok (fun w' h => Fk2.gr h.1) rfl rfl rfl rfl rfl rfl ?_
          refine V.grun T_ok 1 rfl (V.sel_none rfl) ?_
          refine V.gloadO T_ok (fun w' h => Fk9.gr h.1) rfl rfl rfl rfl rfl rfl ?_
          refine V.grun T_ok 1 rfl (V.sel_none rfl) ?_
          refine V.gloadO T_ok (fun w' h => Fk2.gr h.1) rfl rfl rfl rfl rfl rfl ?_
          refine V.gloadO T_ok (fun w' h => Fk16.gr h.1) rfl rfl rfl rfl rfl rfl ?_
          refine V.gcall (fun w' h => (max_spec (a := d.bw) (b := d.bl) (c := nw) (d := nl)).mono (by rintro v w'' ⟨rfl, G⟩; exact ⟨rfl, G⟩)) rfl rfl rfl rfl ?_
          rintro _ w91 - - rfl
          refine V.grun T_ok 1 rfl (V.sel_none rfl) ?_
          refine V.gcall (fun w' h => (cloneW_spec (F_ws.gr h.1) (fun k hk => by have := Fr.size h.1; have := hD_ws k hk; omega) (by first | omega | (simp only [List.length_take, List.length_drop, List.length_append, List.length_cons, List.length_nil, List.length_replicate, List.length_set, V.length_data, V.S_size]; omega))).mono (by rintro v w'' ⟨ra19, rc19, rfl, rF19, G⟩; exact ⟨⟨ra19, rc19, rfl, (by first | exact rF19.mono (V.In.mono_l h.1.size) | exact rF19 | exact rF19.mono (fun _ h => h) h.1.size (Nat.le_refl _))⟩, G⟩)) rfl rfl rfl rfl ?_
          rintro _ w95 - - ⟨a92, c93, rfl, -⟩
          refine V.gnil ?_
          rintro w96 G97 hH98
          have z99 := V.Fr.size G97
          try replace F_o := F_o.gr G97
          try replace F_ws := F_ws.gr G97
          try replace Fk9 := Fk9.gr G97
          try replace Fk16 := Fk16.gr G97
          try replace Fk23 := Fk23.gr G97
          try replace F31 := F31.gr G97
          try replace Fk2 := Fk2.gr G97
          replace HG := HG.grow G97
          clear G97
          have F94 : V.Row V.Cod.write 49 w96 V.None' w83.heap.size w96.heap.size a92 c93 ws := by
            obtain ⟨_, _, he, F0⟩ := (V.Hist.here (hH98 9))
            cases he
            exact F0
          clear hH98
          refine V.mkStruct T_ok zero27 rfl rfl rfl rfl rfl ?_
          refine V.storeO Fk23 rfl rfl rfl rfl sz27 rfl rfl rfl rfl ?_
          rintro w100 G101 z103 Fs102
          clear Fk23
          have z104 := V.Fr.size G101
          first | replace F_o := F_o.mb G101 hD_o | clear F_o | skip
          first | replace F_ws := F_ws.mb G101 hD_ws | clear F_ws | skip
          first | replace Fk9 := Fk9.mv1 G101 (by omega) | clear Fk9 | skip
          first | replace Fk16 := Fk16.mv1 G101 (by omega) | clear Fk16 | skip
          first | replace F31 := F31.ma G101 | clear F31 | skip
          first | replace Fk2 := Fk2.mv1 G101 (by omega) | clear Fk2 | skip
          first | replace F94 := F94.ma G101 | clear F94 | skip
          replace HG := HG.n1 G101
          clear G101
          have Fk23 := Fs102; clear Fs102
          simp only [V.spliceL, V.cellsL] at Fk23
          refine V.run T_ok 1 rfl ?_
          refine V.nil ?_
          refine V.tN ?_
          refine V.ret ?_
          refine V.done2 rfl (V.resV_cell T_ok Fk23 rfl rfl) (V.resV_tmp rfl) ?_
          first
            | rw [show rStage d ep aw al nw nl ws = (⟨d.id, ep, 2, aw, al, (maxSt d.bw d.bl nw nl).1, (maxSt d.bw d.bl nw nl).2, ws⟩, 0) by simp only [rStage, stR]; grind [ovE]]
          exact ⟨a92, c93, (by first | rfl | simp only [List.length_set]), F94.sl.re, HG⟩
        ·
         try replace g7_14 := V.dec g7_14
         try simp only [V.mk0, V.mk1, V.mk2, V.mk3] at g7_14
         refine V.run T_ok 6 rfl ?_
         refine V.nil ?_
         refine V.tN ?_
         refine V.condN rfl rfl ?_
         refine V.skip ?_
         refine V.tN ?_
         refine V.seq ?_
         refine V.drawGT 10 (V.sel [(7, (fun v wz => v = .agg #[.int .i64 ((maxSt d.bw d.bl nw nl).1), .int .i64 ((maxSt d.bw d.bl nw nl).2)])), (9, (fun v wz => ∃ (ra19 : Option Addr) (rc19 : Nat), v = .slice ra19 ws.length rc19 ∧ V.Row V.Cod.write 49 wz V.None' w70.heap.size wz.heap.size ra19 rc19 ws))]) mixed (by kernel_rfl) (V.mono_cons V.eqV_mono (V.mono_cons (by rintro v wz wz' g ⟨ra19, rc19, rfl, rF19⟩; exact ⟨ra19, rc19, rfl, (by first | exact (rF19.gr g).mono (V.In.sub (Nat.le_refl _) g.size) | exact rF19.gr g | exact (rF19.gr g).mono (fun _ h => h) (Nat.le_refl _) g.size | exact (rF19.gr g).mono (fun k h => ⟨h.1, Nat.lt_of_lt_of_le h.2 g.size⟩))⟩) V.mono_nil)) ?_
         refine V.grun T_ok 1 rfl (V.sel_none rfl) ?_
         refine V.gloadO T_ok (fun w' h => Fk2.gr h.1) rfl rfl rfl rfl rfl rfl ?_
         refine V.grun T_ok 1 rfl (V.sel_none rfl) ?_
         refine V.gloadO T_ok (fun w' h => Fk9.gr h.1) rfl rfl rfl rfl rfl rfl ?_
         refine V.grun T_ok 1 rfl (V.sel_none rfl) ?_
         refine V.gloadO T_ok (fun w' h => Fk2.gr h.1) rfl rfl rfl rfl rfl rfl ?_
         refine V.gloadO T_ok (fun w' h => Fk16.gr h.1) rfl rfl rfl rfl rfl rfl ?_
         refine V.gcall (fun w' h => (max_spec (a := d.bw) (b := d.bl) (c := nw) (d := nl)).mono (by rintro v w'' ⟨rfl, G⟩; exact ⟨rfl, G⟩)) rfl rfl rfl rfl ?_
         rintro _ w105 - - rfl
         refine V.grun T_ok 1 rfl (V.sel_none rfl) ?_
         refine V.gcall (fun w' h => (cloneW_spec (F_ws.gr h.1) (fun k hk => by have := Fr.size h.1; have := hD_ws k hk; omega) (by first | omega | (simp only [List.length_take, List.length_drop, List.length_append, List.length_cons, List.length_nil, List.length_replicate, List.length_set, V.length_data, V.S_size]; omega))).mono (by rintro v w'' ⟨ra19, rc19, rfl, rF19, G⟩; exact ⟨⟨ra19, rc19, rfl, (by first | exact rF19.mono (V.In.mono_l h.1.size) | exact rF19 | exact rF19.mono (fun _ h => h) h.1.size (Nat.le_refl _))⟩, G⟩)) rfl rfl rfl rfl ?_
         rintro _ w109 - - ⟨a106, c107, rfl, -⟩
         refine V.gnil ?_
         rintro w110 G111 hH112
         have z113 := V.Fr.size G111
         try replace F_o := F_o.gr G111
         try replace F_ws := F_ws.gr G111
         try replace Fk9 := Fk9.gr G111
         try replace Fk16 := Fk16.gr G111
         try replace Fk23 := Fk23.gr G111
         try replace F31 := F31.gr G111
         try replace Fk2 := Fk2.gr G111
         replace HG := HG.grow G111
         clear G111
         have F108 : V.Row V.Cod.write 49 w110 V.None' w70.heap.size w110.heap.size a106 c107 ws := by
           obtain ⟨_, _, he, F0⟩ := (V.Hist.here (hH112 9))
           cases he
           exact F0
         clear hH112
         refine V.mkStruct T_ok zero27 rfl rfl rfl rfl rfl ?_
         refine V.storeO Fk23 rfl rfl rfl rfl sz27 rfl rfl rfl rfl ?_
         rintro w114 G115 z117 Fs116
         clear Fk23
         have z118 := V.Fr.size G115
         first | replace F_o := F_o.mb G115 hD_o | clear F_o | skip
         first | replace F_ws := F_ws.mb G115 hD_ws | clear F_ws | skip
         first | replace Fk9 := Fk9.mv1 G115 (by omega) | clear Fk9 | skip
         first | replace Fk16 := Fk16.mv1 G115 (by omega) | clear Fk16 | skip
         first | replace F31 := F31.ma G115 | clear F31 | skip
         first | replace Fk2 := Fk2.mv1 G115 (by omega) | clear Fk2 | skip
         first | replace F108 := F108.ma G115 | clear F108 | skip
         replace HG := HG.n1 G115
         clear G115
         have Fk23 := Fs116; clear Fs116
         simp only [V.spliceL, V.cellsL] at Fk23
         refine V.run T_ok 1 rfl ?_
         refine V.nil ?_
         refine V.tN ?_
         refine V.ret ?_
         refine V.done2 rfl (V.resV_cell T_ok Fk23 rfl rfl) (V.resV_tmp rfl) ?_
         first
           | rw [show rStage d ep aw al nw nl ws = (⟨d.id, ep, 2, aw, al, (maxSt d.bw d.bl nw nl).1, (maxSt d.bw d.bl nw nl).2, ws⟩, 0) by simp only [rStage, stR]; grind [ovE]]
         exact ⟨a106, c107, (by first | rfl | simp only [List.length_set]), F108.sl.re, HG⟩
       ·
        try replace g7_8 := V.dec g7_8
        try simp only [V.mk0, V.mk1, V.mk2, V.mk3] at g7_8
        refine V.run T_ok 12 rfl ?_
        refine V.nil ?_
        refine V.tN ?_
        refine V.condN rfl rfl ?_
        refine V.skip ?_
        refine V.tN ?_
        refine V.seq ?_
        refine V.drawGT 10 (V.sel [(7, (fun v wz => v = .agg #[.int .i64 ((maxSt d.bw d.bl nw nl).1), .int .i64 ((maxSt d.bw d.bl nw nl).2)])), (9, (fun v wz => ∃ (ra19 : Option Addr) (rc19 : Nat), v = .slice ra19 ws.length rc19 ∧ V.Row V.Cod.write 49 wz V.None' w70.heap.size wz.heap.size ra19 rc19 ws))]) mixed (by kernel_rfl) (V.mono_cons V.eqV_mono (V.mono_cons (by rintro v wz wz' g ⟨ra19, rc19, rfl, rF19⟩; exact ⟨ra19, rc19, rfl, (by first | exact (rF19.gr g).mono (V.In.sub (Nat.le_refl _) g.size) | exact rF19.gr g | exact (rF19.gr g).mono (fun _ h => h) (Nat.le_refl _) g.size | exact (rF19.gr g).mono (fun k h => ⟨h.1, Nat.lt_of_lt_of_le h.2 g.size⟩))⟩) V.mono_nil)) ?_
        refine V.grun T_ok 1 rfl (V.sel_none rfl) ?_
        refine V.gloadO T_ok (fun w' h => Fk2.gr h.1) rfl rfl rfl rfl rfl rfl ?_
        refine V.grun T_ok 1 rfl (V.sel_none rfl) ?_
        refine V.gloadO T_ok (fun w' h => Fk9.gr h.1) rfl rfl rfl rfl rfl rfl ?_
        refine V.grun T_ok 1 rfl (V.sel_none rfl) ?_
        refine V.gloadO T_ok (fun w' h => Fk2.gr h.1) rfl rfl rfl rfl rfl rfl ?_
        refine V.gloadO T_ok (fun w' h => Fk16.gr h.1) rfl rfl rfl rfl rfl rfl ?_
        refine V.gcall (fun w' h => (max_spec (a := d.bw) (b := d.bl) (c := nw) (d := nl)).mono (by rintro v w'' ⟨rfl, G⟩; exact ⟨rfl, G⟩)) rfl rfl rfl rfl ?_
        rintro _ w119 - - rfl
        refine V.grun T_ok 1 rfl (V.sel_none rfl) ?_
        refine V.gcall (fun w' h => (cloneW_spec (F_ws.gr h.1) (fun k hk => by have := Fr.size h.1; have := hD_ws k hk; omega) (by first | omega | (simp only [List.length_take, List.length_drop, List.length_append, List.length_cons, List.length_nil, List.length_replicate, List.length_set, V.length_data, V.S_size]; omega))).mono (by rintro v w'' ⟨ra19, rc19, rfl, rF19, G⟩; exact ⟨⟨ra19, rc19, rfl, (by first | exact rF19.mono (V.In.mono_l h.1.size) | exact rF19 | exact rF19.mono (fun _ h => h) h.1.size (Nat.le_refl _))⟩, G⟩)) rfl rfl rfl rfl ?_
        rintro _ w123 - - ⟨a120, c121, rfl, -⟩
        refine V.gnil ?_
        rintro w124 G125 hH126
        have z127 := V.Fr.size G125
        try replace F_o := F_o.gr G125
        try replace F_ws := F_ws.gr G125
        try replace Fk9 := Fk9.gr G125
        try replace Fk16 := Fk16.gr G125
        try replace Fk23 := Fk23.gr G125
        try replace F31 := F31.gr G125
        try replace Fk2 := Fk2.gr G125
        replace HG := HG.grow G125
        clear G125
        have F122 : V.Row V.Cod.write 49 w124 V.None' w70.heap.size w124.heap.size a120 c121 ws := by
          obtain ⟨_, _, he, F0⟩ := (V.Hist.here (hH126 9))
          cases he
          exact F0
        clear hH126
        refine V.mkStruct T_ok zero27 rfl rfl rfl rfl rfl ?_
        refine V.storeO Fk23 rfl rfl rfl rfl sz27 rfl rfl rfl rfl ?_
        rintro w128 G129 z131 Fs130
        clear Fk23
        have z132 := V.Fr.size G129
        first | replace F_o := F_o.mb G129 hD_o | clear F_o | skip
        first | replace F_ws := F_ws.mb G129 hD_ws | clear F_ws | skip
        first | replace Fk9 := Fk9.mv1 G129 (by omega) | clear Fk9 | skip
        first | replace Fk16 := Fk16.mv1 G129 (by omega) | clear Fk16 | skip
        first | replace F31 := F31.ma G129 | clear F31 | skip
        first | replace Fk2 := Fk2.mv1 G129 (by omega) | clear Fk2 | skip
        first | replace F122 := F122.ma G129 | clear F122 | skip
        replace HG := HG.n1 G129
        clear G129
        have Fk23 := Fs130; clear Fs130
        simp only [V.spliceL, V.cellsL] at Fk23
        refine V.run T_ok 1 rfl ?_
        refine V.nil ?_
        refine V.tN ?_
        refine V.ret ?_
        refine V.done2 rfl (V.resV_cell T_ok Fk23 rfl rfl) (V.resV_tmp rfl) ?_
        first
          | rw [show rStage d ep aw al nw nl ws = (⟨d.id, ep, 2, aw, al, (maxSt d.bw d.bl nw nl).1, (maxSt d.bw d.bl nw nl).2, ws⟩, 0) by simp only [rStage, stR]; grind [ovE]]
        exact ⟨a120, c121, (by first | rfl | simp only [List.length_set]), F122.sl.re, HG⟩

set_option maxHeartbeats 4000000 in
set_option maxRecDepth 10000 in
theorem rstage_spec {w : World} {d : RecV} {D_o : Nat → Prop} {c_o : Nat} {a_o : Option Addr} (F_o : Sl V.Cod.write w D_o a_o c_o d.ws) (hD_o : ∀ k, D_o k → k < w.heap.size) {ep : Int} {aw : Int} {al : Int} {nw : Int} {nl : Int} {D_ws : Nat → Prop} {c_ws : Nat} {a_ws : Option Addr} {ws : List (ByteArray × Int)} (F_ws : Sl V.Cod.write w D_ws a_ws c_ws ws) (hD_ws : ∀ k, D_ws k → k < w.heap.size) (hl : d.ws.length ≤ 5864062014805) (hlw : ws.length ≤ 5864062014805) (hw : keysOk ws) :
    Meets Try.prog 34 [.agg #[.int .i64 d.id, .int .i64 d.ep, .int .i64 d.st, .int .i64 d.aw, .int .i64 d.al, .int .i64 d.bw, .int .i64 d.bl, .slice a_o d.ws.length c_o], .int .i64 ep, .agg #[.int .i64 aw, .int .i64 al], .agg #[.int .i64 nw, .int .i64 nl], .slice a_ws ws.length c_ws] w fun r w' => ∃ (ra28 : Option Addr) (rc28 : Nat), r = .tuple #[.agg #[.int .i64 ((rStage d ep aw al nw nl ws).1.id), .int .i64 ((rStage d ep aw al nw nl ws).1.ep), .int .i64 ((rStage d ep aw al nw nl ws).1.st), .int .i64 ((rStage d ep aw al nw nl ws).1.aw), .int .i64 ((rStage d ep aw al nw nl ws).1.al), .int .i64 ((rStage d ep aw al nw nl ws).1.bw), .int .i64 ((rStage d ep aw al nw nl ws).1.bl), .slice ra28 ((rStage d ep aw al nw nl ws).1.ws).length rc28], .int .i64 ((rStage d ep aw al nw nl ws).2)] ∧ Sl V.Cod.write w' (V.In w.heap.size w'.heap.size) ra28 rc28 ((rStage d ep aw al nw nl ws).1.ws) ∧ Gr w w' := by
 have HG := V.Fr.refl [] w
 refine V.enter (n := 80) Try.func34 rfl rfl (by decide) rfl ?_
 refine V.seq ?_
 refine V.region ?_
 refine V.box rfl rfl rfl rfl ?_
 rintro k1 w3 s5 s6 G4 Fk2
 have z7 := V.Fr.size G4
 try replace F_o := F_o.gr G4
 try replace F_ws := F_ws.gr G4
 replace HG := HG.grow G4
 clear G4
 try simp only [V.cellsL, V.spliceL] at Fk2
 refine V.box rfl rfl rfl rfl ?_
 rintro k8 w10 s12 s13 G11 Fk9
 have z14 := V.Fr.size G11
 try replace F_o := F_o.gr G11
 try replace F_ws := F_ws.gr G11
 try replace Fk2 := Fk2.gr G11
 replace HG := HG.grow G11
 clear G11
 try simp only [V.cellsL, V.spliceL] at Fk9
 refine V.box rfl rfl rfl rfl ?_
 rintro k15 w17 s19 s20 G18 Fk16
 have z21 := V.Fr.size G18
 try replace F_o := F_o.gr G18
 try replace F_ws := F_ws.gr G18
 try replace Fk2 := Fk2.gr G18
 try replace Fk9 := Fk9.gr G18
 replace HG := HG.grow G18
 clear G18
 try simp only [V.cellsL, V.spliceL] at Fk16
 refine V.alloc zero27 rfl rfl rfl ?_
 rintro k22 w24 s26 s27 G25 Fk23
 have z28 := V.Fr.size G25
 try replace F_o := F_o.gr G25
 try replace F_ws := F_ws.gr G25
 try replace Fk2 := Fk2.gr G25
 try replace Fk9 := Fk9.gr G25
 try replace Fk16 := Fk16.gr G25
 replace HG := HG.grow G25
 clear G25
 try simp only [V.cellsL, V.spliceL] at Fk23
 refine V.run T_ok 1 rfl ?_
 refine V.nil ?_
 refine V.tN ?_
 refine V.seq ?_
 refine V.region ?_
 refine V.loadO T_ok Fk2 rfl rfl rfl rfl rfl ?_
 refine V.call (copy_spec (d := d) F_o (fun k hk => by have := hD_o k hk; omega) (by first | assumption | omega | decide)) rfl rfl rfl ?_
 rintro _ w32 ⟨a29, c30, rfl, F31, G33⟩
 have z34 := V.Fr.size G33
 try replace F_o := F_o.gr G33
 try replace F_ws := F_ws.gr G33
 try replace Fk2 := Fk2.gr G33
 try replace Fk9 := Fk9.gr G33
 try replace Fk16 := Fk16.gr G33
 try replace Fk23 := Fk23.gr G33
 replace HG := HG.grow G33
 clear G33
 refine V.alloc zero27 rfl rfl rfl ?_
 rintro k35 w37 s39 s40 G38 Fk36
 have z41 := V.Fr.size G38
 try replace F_o := F_o.gr G38
 try replace F_ws := F_ws.gr G38
 try replace Fk2 := Fk2.gr G38
 try replace Fk9 := Fk9.gr G38
 try replace Fk16 := Fk16.gr G38
 try replace Fk23 := Fk23.gr G38
 try replace F31 := F31.gr G38
 replace HG := HG.grow G38
 clear G38
 try simp only [V.cellsL, V.spliceL] at Fk36
 refine V.storeO Fk36 rfl rfl rfl rfl sz27 rfl rfl rfl rfl ?_
 rintro w42 G43 z45 Fs44
 clear Fk36
 have z46 := V.Fr.size G43
 first | replace F_o := F_o.mb G43 hD_o | clear F_o | skip
 first | replace F_ws := F_ws.mb G43 hD_ws | clear F_ws | skip
 first | replace Fk2 := Fk2.mv1 G43 (by omega) | clear Fk2 | skip
 first | replace Fk9 := Fk9.mv1 G43 (by omega) | clear Fk9 | skip
 first | replace Fk16 := Fk16.mv1 G43 (by omega) | clear Fk16 | skip
 first | replace Fk23 := Fk23.mv1 G43 (by omega) | clear Fk23 | skip
 first | replace F31 := F31.ma G43 | clear F31 | skip
 replace HG := HG.n1 G43
 clear G43
 have Fk36 := Fs44; clear Fs44
 simp only [V.spliceL, V.cellsL] at Fk36
 refine V.nil ?_
 refine V.tN ?_
 refine V.seq ?_
 refine V.region ?_
 refine V.run T_ok 1 rfl ?_
 refine V.call (rnumber_ok (n := ep)) rfl rfl rfl ?_
 rintro _ w42_ ⟨rfl, rfl⟩
 refine V.run T_ok 1 rfl ?_
 refine V.nil ?_
 refine V.tN ?_
 refine V.seq ?_
 refine V.region ?_
 refine V.loadO T_ok Fk9 rfl rfl rfl rfl rfl ?_
 refine V.call (rright_spec (a := aw) (b := al)) rfl rfl rfl ?_
 rintro _ w48 ⟨rfl, G49⟩
 have z50 := V.Fr.size G49
 try replace F_o := F_o.gr G49
 try replace F_ws := F_ws.gr G49
 try replace Fk2 := Fk2.gr G49
 try replace Fk9 := Fk9.gr G49
 try replace Fk16 := Fk16.gr G49
 try replace Fk23 := Fk23.gr G49
 try replace F31 := F31.gr G49
 try replace Fk36 := Fk36.gr G49
 replace HG := HG.grow G49
 clear G49
 refine V.run T_ok 1 rfl ?_
 refine V.split (j := 2) (t := 22) rfl rfl (fun g3_2 => ?_) (fun g3_2 => ?_)
 ·
  try replace g3_2 := V.dec g3_2
  try simp only [V.mk0, V.mk1, V.mk2, V.mk3] at g3_2
  refine V.yes rfl rfl rfl ?_
  refine V.loadO T_ok Fk16 rfl rfl rfl rfl rfl ?_
  refine V.yes rfl rfl rfl ?_
  refine V.call (rright_spec (a := nw) (b := nl)) rfl rfl rfl ?_
  rintro _ w51 ⟨rfl, G52⟩
  have z53 := V.Fr.size G52
  try replace F_o := F_o.gr G52
  try replace F_ws := F_ws.gr G52
  try replace Fk2 := Fk2.gr G52
  try replace Fk9 := Fk9.gr G52
  try replace Fk16 := Fk16.gr G52
  try replace Fk23 := Fk23.gr G52
  try replace F31 := F31.gr G52
  try replace Fk36 := Fk36.gr G52
  replace HG := HG.grow G52
  clear G52
  refine V.run T_ok 2 rfl ?_
  refine V.nil ?_
  refine V.tN ?_
  refine V.seq ?_
  refine V.region ?_
  refine V.run T_ok 1 rfl ?_
  refine V.call (rwritten_spec F_ws (fun k hk => by have := hD_ws k hk; omega) (by first | assumption | exact keysOk.nil | (unfold keysOk; decide))) rfl rfl rfl ?_
  rintro _ w54 ⟨rfl, G55⟩
  have z56 := V.Fr.size G55
  try replace F_o := F_o.gr G55
  try replace F_ws := F_ws.gr G55
  try replace Fk2 := Fk2.gr G55
  try replace Fk9 := Fk9.gr G55
  try replace Fk16 := Fk16.gr G55
  try replace Fk23 := Fk23.gr G55
  try replace F31 := F31.gr G55
  try replace Fk36 := Fk36.gr G55
  replace HG := HG.grow G55
  clear G55
  refine V.run T_ok 1 rfl ?_
  refine V.nil ?_
  refine V.tN ?_
  refine V.seq ?_
  refine V.seq ?_
  refine V.region ?_
  refine V.run T_ok 3 rfl ?_
  refine V.orG T_ok 2 2 30 rfl rfl rfl rfl rfl rfl rfl rfl ?_
  refine V.run T_ok 1 rfl ?_
  refine V.orG T_ok 2 6 34 rfl rfl rfl rfl rfl rfl rfl rfl ?_
  refine V.nil ?_
  refine V.tN ?_
  refine V.condT rfl (fun h5 => ?_) (fun h5 => ?_)
  ·
   try replace h5 := V.dec h5
   try simp only [V.mk0, V.mk1, V.mk2, V.mk3] at h5
   refine V.seq ?_
   refine V.region ?_
   refine V.loadO T_ok Fk36 rfl rfl rfl rfl rfl ?_
   refine V.storeO Fk23 rfl rfl rfl rfl sz27 rfl rfl rfl rfl ?_
   rintro w57 G58 z60 Fs59
   clear Fk23
   have z61 := V.Fr.size G58
   first | replace F_o := F_o.mb G58 hD_o | clear F_o | skip
   first | replace F_ws := F_ws.mb G58 hD_ws | clear F_ws | skip
   first | replace Fk2 := Fk2.mv1 G58 (by omega) | clear Fk2 | skip
   first | replace Fk9 := Fk9.mv1 G58 (by omega) | clear Fk9 | skip
   first | replace Fk16 := Fk16.mv1 G58 (by omega) | clear Fk16 | skip
   first | replace F31 := F31.ma G58 | clear F31 | skip
   first | replace Fk36 := Fk36.mv1 G58 (by omega) | clear Fk36 | skip
   replace HG := HG.n1 G58
   clear G58
   have Fk23 := Fs59; clear Fs59
   simp only [V.spliceL, V.cellsL] at Fk23
   refine V.run T_ok 1 rfl ?_
   refine V.nil ?_
   refine V.tN ?_
   refine V.ret ?_
   refine V.tR ?_
   refine V.done2 rfl (V.resV_cell T_ok Fk23 rfl rfl) (V.resV_tmp rfl) ?_
   first
     | rw [show rStage d ep aw al nw nl ws = (d, 1) by simp only [rStage, stR]; grind [ovE]]
   exact ⟨a29, c30, (by first | rfl | simp only [List.length_set]), F31.re, HG⟩
  ·
   try replace h5 := V.dec h5
   try simp only [V.mk0, V.mk1, V.mk2, V.mk3] at h5
   refine V.skip ?_
   refine V.tN ?_
   refine V.seq ?_
   refine V.seq ?_
   refine V.region ?_
   refine V.run T_ok 1 rfl ?_
   refine V.loadO T_ok Fk2 rfl rfl rfl rfl rfl ?_
   refine V.run T_ok 1 rfl ?_
   refine V.nil ?_
   refine V.tN ?_
   refine V.condT rfl (fun h7 => ?_) (fun h7 => ?_)
   ·
    try replace h7 := V.dec h7
    try simp only [V.mk0, V.mk1, V.mk2, V.mk3] at h7
    refine V.seq ?_
    refine V.region ?_
    refine V.loadO T_ok Fk36 rfl rfl rfl rfl rfl ?_
    refine V.storeO Fk23 rfl rfl rfl rfl sz27 rfl rfl rfl rfl ?_
    rintro w62 G63 z65 Fs64
    clear Fk23
    have z66 := V.Fr.size G63
    first | replace F_o := F_o.mb G63 hD_o | clear F_o | skip
    first | replace F_ws := F_ws.mb G63 hD_ws | clear F_ws | skip
    first | replace Fk2 := Fk2.mv1 G63 (by omega) | clear Fk2 | skip
    first | replace Fk9 := Fk9.mv1 G63 (by omega) | clear Fk9 | skip
    first | replace Fk16 := Fk16.mv1 G63 (by omega) | clear Fk16 | skip
    first | replace F31 := F31.ma G63 | clear F31 | skip
    first | replace Fk36 := Fk36.mv1 G63 (by omega) | clear Fk36 | skip
    replace HG := HG.n1 G63
    clear G63
    have Fk23 := Fs64; clear Fs64
    simp only [V.spliceL, V.cellsL] at Fk23
    refine V.run T_ok 1 rfl ?_
    refine V.nil ?_
    refine V.tN ?_
    refine V.ret ?_
    refine V.tR ?_
    refine V.done2 rfl (V.resV_cell T_ok Fk23 rfl rfl) (V.resV_tmp rfl) ?_
    first
      | rw [show rStage d ep aw al nw nl ws = (d, 83) by simp only [rStage, stR]; grind [ovE]]
    exact ⟨a29, c30, (by first | rfl | simp only [List.length_set]), F31.re, HG⟩
   ·
    try replace h7 := V.dec h7
    try simp only [V.mk0, V.mk1, V.mk2, V.mk3] at h7
    refine V.skip ?_
    refine V.tN ?_
    refine V.seq ?_
    refine V.seq ?_
    refine V.region ?_
    refine V.run T_ok 1 rfl ?_
    refine V.loadO T_ok Fk2 rfl rfl rfl rfl rfl ?_
    refine V.run T_ok 1 rfl ?_
    refine V.nil ?_
    refine V.tN ?_
    refine V.condT rfl (fun h9 => ?_) (fun h9 => ?_)
    ·
     try replace h9 := V.dec h9
     try simp only [V.mk0, V.mk1, V.mk2, V.mk3] at h9
     refine V.seq ?_
     refine V.region ?_
     refine V.loadO T_ok Fk36 rfl rfl rfl rfl rfl ?_
     refine V.storeO Fk23 rfl rfl rfl rfl sz27 rfl rfl rfl rfl ?_
     rintro w67 G68 z70 Fs69
     clear Fk23
     have z71 := V.Fr.size G68
     first | replace F_o := F_o.mb G68 hD_o | clear F_o | skip
     first | replace F_ws := F_ws.mb G68 hD_ws | clear F_ws | skip
     first | replace Fk2 := Fk2.mv1 G68 (by omega) | clear Fk2 | skip
     first | replace Fk9 := Fk9.mv1 G68 (by omega) | clear Fk9 | skip
     first | replace Fk16 := Fk16.mv1 G68 (by omega) | clear Fk16 | skip
     first | replace F31 := F31.ma G68 | clear F31 | skip
     first | replace Fk36 := Fk36.mv1 G68 (by omega) | clear Fk36 | skip
     replace HG := HG.n1 G68
     clear G68
     have Fk23 := Fs69; clear Fs69
     simp only [V.spliceL, V.cellsL] at Fk23
     refine V.run T_ok 1 rfl ?_
     refine V.nil ?_
     refine V.tN ?_
     refine V.ret ?_
     refine V.tR ?_
     refine V.done2 rfl (V.resV_cell T_ok Fk23 rfl rfl) (V.resV_tmp rfl) ?_
     first
       | rw [show rStage d ep aw al nw nl ws = (d, 122) by simp only [rStage, stR]; grind [ovE]]
     exact ⟨a29, c30, (by first | rfl | simp only [List.length_set]), F31.re, HG⟩
    ·
     try replace h9 := V.dec h9
     try simp only [V.mk0, V.mk1, V.mk2, V.mk3] at h9
     refine V.skip ?_
     refine V.tN ?_
     refine V.seq ?_
     refine V.seq ?_
     refine V.region ?_
     refine V.run T_ok 1 rfl ?_
     refine V.loadO T_ok Fk2 rfl rfl rfl rfl rfl ?_
     refine V.run T_ok 3 rfl ?_
     refine V.split (j := 4) (t := 51) rfl rfl (fun g11_4 => ?_) (fun g11_4 => ?_)
     ·
      try replace g11_4 := V.dec g11_4
      try simp only [V.mk0, V.mk1, V.mk2, V.mk3] at g11_4
      refine V.run T_ok 16 rfl ?_
      refine V.nil ?_
      refine V.tN ?_
      refine V.condY rfl rfl ?_
      refine V.seq ?_
      refine V.region ?_
      refine V.loadO T_ok Fk36 rfl rfl rfl rfl rfl ?_
      refine V.storeO Fk23 rfl rfl rfl rfl sz27 rfl rfl rfl rfl ?_
      rintro w72 G73 z75 Fs74
      clear Fk23
      have z76 := V.Fr.size G73
      first | replace F_o := F_o.mb G73 hD_o | clear F_o | skip
      first | replace F_ws := F_ws.mb G73 hD_ws | clear F_ws | skip
      first | replace Fk2 := Fk2.mv1 G73 (by omega) | clear Fk2 | skip
      first | replace Fk9 := Fk9.mv1 G73 (by omega) | clear Fk9 | skip
      first | replace Fk16 := Fk16.mv1 G73 (by omega) | clear Fk16 | skip
      first | replace F31 := F31.ma G73 | clear F31 | skip
      first | replace Fk36 := Fk36.mv1 G73 (by omega) | clear Fk36 | skip
      replace HG := HG.n1 G73
      clear G73
      have Fk23 := Fs74; clear Fs74
      simp only [V.spliceL, V.cellsL] at Fk23
      refine V.run T_ok 1 rfl ?_
      refine V.nil ?_
      refine V.tN ?_
      refine V.ret ?_
      refine V.tR ?_
      refine V.done2 rfl (V.resV_cell T_ok Fk23 rfl rfl) (V.resV_tmp rfl) ?_
      first
        | rw [show rStage d ep aw al nw nl ws = (d, 84) by simp only [rStage, stR]; grind [ovE]]
      exact ⟨a29, c30, (by first | rfl | simp only [List.length_set]), F31.re, HG⟩
     ·
      try replace g11_4 := V.dec g11_4
      try simp only [V.mk0, V.mk1, V.mk2, V.mk3] at g11_4
      refine V.run T_ok 1 rfl ?_
      refine V.yes rfl rfl rfl ?_
      refine V.loadO T_ok Fk2 rfl rfl rfl rfl rfl ?_
      refine V.run T_ok 2 rfl ?_
      refine V.split (j := 8) (t := 55) rfl rfl (fun g11_8 => ?_) (fun g11_8 => ?_)
      ·
       try replace g11_8 := V.dec g11_8
       try simp only [V.mk0, V.mk1, V.mk2, V.mk3] at g11_8
       refine V.run T_ok 1 rfl ?_
       refine V.yes rfl rfl rfl ?_
       refine V.loadO T_ok Fk2 rfl rfl rfl rfl rfl ?_
       refine V.run T_ok 4 rfl ?_
       refine V.split (j := 14) (t := 61) rfl rfl (fun g11_14 => ?_) (fun g11_14 => ?_)
       ·
        try replace g11_14 := V.dec g11_14
        try simp only [V.mk0, V.mk1, V.mk2, V.mk3] at g11_14
        refine V.yes rfl rfl rfl ?_
        refine V.loadO T_ok Fk9 rfl rfl rfl rfl rfl ?_
        refine V.run T_ok 1 rfl ?_
        refine V.yes rfl rfl rfl ?_
        refine V.loadO T_ok Fk2 rfl rfl rfl rfl rfl ?_
        refine V.yes rfl rfl rfl ?_
        refine V.call (rless_spec (a := aw) (b := al) (c := d.aw) (d := d.al)) rfl rfl rfl ?_
        rintro _ w77 ⟨rfl, G78⟩
        have z79 := V.Fr.size G78
        try replace F_o := F_o.gr G78
        try replace F_ws := F_ws.gr G78
        try replace Fk2 := Fk2.gr G78
        try replace Fk9 := Fk9.gr G78
        try replace Fk16 := Fk16.gr G78
        try replace Fk23 := Fk23.gr G78
        try replace F31 := F31.gr G78
        try replace Fk36 := Fk36.gr G78
        replace HG := HG.grow G78
        clear G78
        refine V.run T_ok 2 rfl ?_
        refine V.nil ?_
        refine V.tN ?_
        refine V.condT rfl (fun h11 => ?_) (fun h11 => ?_)
        ·
         try replace h11 := V.dec h11
         try simp only [V.mk0, V.mk1, V.mk2, V.mk3] at h11
         refine V.seq ?_
         refine V.region ?_
         refine V.loadO T_ok Fk36 rfl rfl rfl rfl rfl ?_
         refine V.storeO Fk23 rfl rfl rfl rfl sz27 rfl rfl rfl rfl ?_
         rintro w80 G81 z83 Fs82
         clear Fk23
         have z84 := V.Fr.size G81
         first | replace F_o := F_o.mb G81 hD_o | clear F_o | skip
         first | replace F_ws := F_ws.mb G81 hD_ws | clear F_ws | skip
         first | replace Fk2 := Fk2.mv1 G81 (by omega) | clear Fk2 | skip
         first | replace Fk9 := Fk9.mv1 G81 (by omega) | clear Fk9 | skip
         first | replace Fk16 := Fk16.mv1 G81 (by omega) | clear Fk16 | skip
         first | replace F31 := F31.ma G81 | clear F31 | skip
         first | replace Fk36 := Fk36.mv1 G81 (by omega) | clear Fk36 | skip
         replace HG := HG.n1 G81
         clear G81
         have Fk23 := Fs82; clear Fs82
         simp only [V.spliceL, V.cellsL] at Fk23
         refine V.run T_ok 1 rfl ?_
         refine V.nil ?_
         refine V.tN ?_
         refine V.ret ?_
         refine V.tR ?_
         refine V.done2 rfl (V.resV_cell T_ok Fk23 rfl rfl) (V.resV_tmp rfl) ?_
         first
           | rw [show rStage d ep aw al nw nl ws = (d, 84) by simp only [rStage, stR]; grind [ovE]]
         exact ⟨a29, c30, (by first | rfl | simp only [List.length_set]), F31.re, HG⟩
        ·
         try replace h11 := V.dec h11
         try simp only [V.mk0, V.mk1, V.mk2, V.mk3] at h11
         refine V.skip ?_
         refine V.tN ?_
         refine V.seq ?_
         refine V.drawGT 9 (V.sel [(7, (fun v wz => v = .agg #[.int .i64 ((maxSt d.bw d.bl nw nl).1), .int .i64 ((maxSt d.bw d.bl nw nl).2)]))]) mixed (by kernel_rfl) (V.mono_cons V.eqV_mono V.mono_nil) ?_
         refine V.grun T_ok 1 rfl (V.sel_none rfl) ?_
         refine V.gloadO T_ok (fun w' h => Fk2.gr h.1) rfl rfl rfl rfl rfl rfl ?_
         refine V.grun T_ok 1 rfl (V.sel_none rfl) ?_
         refine V.gloadO T_ok (fun w' h => Fk9.gr h.1) rfl rfl rfl rfl rfl rfl ?_
         refine V.grun T_ok 1 rfl (V.sel_none rfl) ?_
         refine V.gloadO T_ok (fun w' h => Fk2.gr h.1) rfl rfl rfl rfl rfl rfl ?_
         refine V.gloadO T_ok (fun w' h => Fk16.gr h.1) rfl rfl rfl rfl rfl rfl ?_
         refine V.gcall (fun w' h => (rmax_spec (a := d.bw) (b := d.bl) (c := nw) (d := nl)).mono (by rintro v w'' ⟨rfl, G⟩; exact ⟨rfl, G⟩)) rfl rfl rfl rfl ?_
         rintro _ w85 - - rfl
         refine V.grun T_ok 1 rfl (V.sel_none rfl) ?_
         refine V.gnil ?_
         rintro w86 G87 hH88
         have z89 := V.Fr.size G87
         try replace F_o := F_o.gr G87
         try replace F_ws := F_ws.gr G87
         try replace Fk2 := Fk2.gr G87
         try replace Fk9 := Fk9.gr G87
         try replace Fk16 := Fk16.gr G87
         try replace Fk23 := Fk23.gr G87
         try replace F31 := F31.gr G87
         try replace Fk36 := Fk36.gr G87
         replace HG := HG.grow G87
         clear G87
         clear hH88
         refine V.mkStruct T_ok zero27 rfl rfl rfl rfl rfl ?_
         refine V.call (copy_spec (d := (⟨d.id, ep, 2, aw, al, (maxSt d.bw d.bl nw nl).1, (maxSt d.bw d.bl nw nl).2, ws⟩ : RecV)) F_ws (fun k hk => by have := hD_ws k hk; omega) (by first | assumption | omega | decide)) rfl rfl rfl ?_
         rintro _ w93 ⟨a90, c91, rfl, F92, G94⟩
         have z95 := V.Fr.size G94
         try replace F_o := F_o.gr G94
         try replace F_ws := F_ws.gr G94
         try replace Fk2 := Fk2.gr G94
         try replace Fk9 := Fk9.gr G94
         try replace Fk16 := Fk16.gr G94
         try replace Fk23 := Fk23.gr G94
         try replace F31 := F31.gr G94
         try replace Fk36 := Fk36.gr G94
         replace HG := HG.grow G94
         clear G94
         refine V.storeO Fk23 rfl rfl rfl rfl sz27 rfl rfl rfl rfl ?_
         rintro w96 G97 z99 Fs98
         clear Fk23
         have z100 := V.Fr.size G97
         first | replace F_o := F_o.mb G97 hD_o | clear F_o | skip
         first | replace F_ws := F_ws.mb G97 hD_ws | clear F_ws | skip
         first | replace Fk2 := Fk2.mv1 G97 (by omega) | clear Fk2 | skip
         first | replace Fk9 := Fk9.mv1 G97 (by omega) | clear Fk9 | skip
         first | replace Fk16 := Fk16.mv1 G97 (by omega) | clear Fk16 | skip
         first | replace F31 := F31.ma G97 | clear F31 | skip
         first | replace Fk36 := Fk36.mv1 G97 (by omega) | clear Fk36 | skip
         first | replace F92 := F92.ma G97 | clear F92 | skip
         replace HG := HG.n1 G97
         clear G97
         have Fk23 := Fs98; clear Fs98
         simp only [V.spliceL, V.cellsL] at Fk23
         refine V.run T_ok 1 rfl ?_
         refine V.nil ?_
         refine V.tN ?_
         refine V.ret ?_
         refine V.done2 rfl (V.resV_cell T_ok Fk23 rfl rfl) (V.resV_tmp rfl) ?_
         first
           | rw [show rStage d ep aw al nw nl ws = (⟨d.id, ep, 2, aw, al, (maxSt d.bw d.bl nw nl).1, (maxSt d.bw d.bl nw nl).2, ws⟩, 0) by simp only [rStage, stR]; grind [ovE]]
         exact ⟨a90, c91, (by first | rfl | simp only [List.length_set]), F92.re, HG⟩
       ·
        try replace g11_14 := V.dec g11_14
        try simp only [V.mk0, V.mk1, V.mk2, V.mk3] at g11_14
        refine V.run T_ok 6 rfl ?_
        refine V.nil ?_
        refine V.tN ?_
        refine V.condN rfl rfl ?_
        refine V.skip ?_
        refine V.tN ?_
        refine V.seq ?_
        refine V.drawGT 9 (V.sel [(7, (fun v wz => v = .agg #[.int .i64 ((maxSt d.bw d.bl nw nl).1), .int .i64 ((maxSt d.bw d.bl nw nl).2)]))]) mixed (by kernel_rfl) (V.mono_cons V.eqV_mono V.mono_nil) ?_
        refine V.grun T_ok 1 rfl (V.sel_none rfl) ?_
        refine V.gloadO T_ok (fun w' h => Fk2.gr h.1) rfl rfl rfl rfl rfl rfl ?_
        refine V.grun T_ok 1 rfl (V.sel_none rfl) ?_
        refine V.gloadO T_ok (fun w' h => Fk9.gr h.1) rfl rfl rfl rfl rfl rfl ?_
        refine V.grun T_ok 1 rfl (V.sel_none rfl) ?_
        refine V.gloadO T_ok (fun w' h => Fk2.gr h.1) rfl rfl rfl rfl rfl rfl ?_
        refine V.gloadO T_ok (fun w' h => Fk16.gr h.1) rfl rfl rfl rfl rfl rfl ?_
        refine V.gcall (fun w' h => (rmax_spec (a := d.bw) (b := d.bl) (c := nw) (d := nl)).mono (by rintro v w'' ⟨rfl, G⟩; exact ⟨rfl, G⟩)) rfl rfl rfl rfl ?_
        rintro _ w101 - - rfl
        refine V.grun T_ok 1 rfl (V.sel_none rfl) ?_
        refine V.gnil ?_
        rintro w102 G103 hH104
        have z105 := V.Fr.size G103
        try replace F_o := F_o.gr G103
        try replace F_ws := F_ws.gr G103
        try replace Fk2 := Fk2.gr G103
        try replace Fk9 := Fk9.gr G103
        try replace Fk16 := Fk16.gr G103
        try replace Fk23 := Fk23.gr G103
        try replace F31 := F31.gr G103
        try replace Fk36 := Fk36.gr G103
        replace HG := HG.grow G103
        clear G103
        clear hH104
        refine V.mkStruct T_ok zero27 rfl rfl rfl rfl rfl ?_
        refine V.call (copy_spec (d := (⟨d.id, ep, 2, aw, al, (maxSt d.bw d.bl nw nl).1, (maxSt d.bw d.bl nw nl).2, ws⟩ : RecV)) F_ws (fun k hk => by have := hD_ws k hk; omega) (by first | assumption | omega | decide)) rfl rfl rfl ?_
        rintro _ w109 ⟨a106, c107, rfl, F108, G110⟩
        have z111 := V.Fr.size G110
        try replace F_o := F_o.gr G110
        try replace F_ws := F_ws.gr G110
        try replace Fk2 := Fk2.gr G110
        try replace Fk9 := Fk9.gr G110
        try replace Fk16 := Fk16.gr G110
        try replace Fk23 := Fk23.gr G110
        try replace F31 := F31.gr G110
        try replace Fk36 := Fk36.gr G110
        replace HG := HG.grow G110
        clear G110
        refine V.storeO Fk23 rfl rfl rfl rfl sz27 rfl rfl rfl rfl ?_
        rintro w112 G113 z115 Fs114
        clear Fk23
        have z116 := V.Fr.size G113
        first | replace F_o := F_o.mb G113 hD_o | clear F_o | skip
        first | replace F_ws := F_ws.mb G113 hD_ws | clear F_ws | skip
        first | replace Fk2 := Fk2.mv1 G113 (by omega) | clear Fk2 | skip
        first | replace Fk9 := Fk9.mv1 G113 (by omega) | clear Fk9 | skip
        first | replace Fk16 := Fk16.mv1 G113 (by omega) | clear Fk16 | skip
        first | replace F31 := F31.ma G113 | clear F31 | skip
        first | replace Fk36 := Fk36.mv1 G113 (by omega) | clear Fk36 | skip
        first | replace F108 := F108.ma G113 | clear F108 | skip
        replace HG := HG.n1 G113
        clear G113
        have Fk23 := Fs114; clear Fs114
        simp only [V.spliceL, V.cellsL] at Fk23
        refine V.run T_ok 1 rfl ?_
        refine V.nil ?_
        refine V.tN ?_
        refine V.ret ?_
        refine V.done2 rfl (V.resV_cell T_ok Fk23 rfl rfl) (V.resV_tmp rfl) ?_
        first
          | rw [show rStage d ep aw al nw nl ws = (⟨d.id, ep, 2, aw, al, (maxSt d.bw d.bl nw nl).1, (maxSt d.bw d.bl nw nl).2, ws⟩, 0) by simp only [rStage, stR]; grind [ovE]]
        exact ⟨a106, c107, (by first | rfl | simp only [List.length_set]), F108.re, HG⟩
      ·
       try replace g11_8 := V.dec g11_8
       try simp only [V.mk0, V.mk1, V.mk2, V.mk3] at g11_8
       refine V.run T_ok 12 rfl ?_
       refine V.nil ?_
       refine V.tN ?_
       refine V.condN rfl rfl ?_
       refine V.skip ?_
       refine V.tN ?_
       refine V.seq ?_
       refine V.drawGT 9 (V.sel [(7, (fun v wz => v = .agg #[.int .i64 ((maxSt d.bw d.bl nw nl).1), .int .i64 ((maxSt d.bw d.bl nw nl).2)]))]) mixed (by kernel_rfl) (V.mono_cons V.eqV_mono V.mono_nil) ?_
       refine V.grun T_ok 1 rfl (V.sel_none rfl) ?_
       refine V.gloadO T_ok (fun w' h => Fk2.gr h.1) rfl rfl rfl rfl rfl rfl ?_
       refine V.grun T_ok 1 rfl (V.sel_none rfl) ?_
       refine V.gloadO T_ok (fun w' h => Fk9.gr h.1) rfl rfl rfl rfl rfl rfl ?_
       refine V.grun T_ok 1 rfl (V.sel_none rfl) ?_
       refine V.gloadO T_ok (fun w' h => Fk2.gr h.1) rfl rfl rfl rfl rfl rfl ?_
       refine V.gloadO T_ok (fun w' h => Fk16.gr h.1) rfl rfl rfl rfl rfl rfl ?_
       refine V.gcall (fun w' h => (rmax_spec (a := d.bw) (b := d.bl) (c := nw) (d := nl)).mono (by rintro v w'' ⟨rfl, G⟩; exact ⟨rfl, G⟩)) rfl rfl rfl rfl ?_
       rintro _ w117 - - rfl
       refine V.grun T_ok 1 rfl (V.sel_none rfl) ?_
       refine V.gnil ?_
       rintro w118 G119 hH120
       have z121 := V.Fr.size G119
       try replace F_o := F_o.gr G119
       try replace F_ws := F_ws.gr G119
       try replace Fk2 := Fk2.gr G119
       try replace Fk9 := Fk9.gr G119
       try replace Fk16 := Fk16.gr G119
       try replace Fk23 := Fk23.gr G119
       try replace F31 := F31.gr G119
       try replace Fk36 := Fk36.gr G119
       replace HG := HG.grow G119
       clear G119
       clear hH120
       refine V.mkStruct T_ok zero27 rfl rfl rfl rfl rfl ?_
       refine V.call (copy_spec (d := (⟨d.id, ep, 2, aw, al, (maxSt d.bw d.bl nw nl).1, (maxSt d.bw d.bl nw nl).2, ws⟩ : RecV)) F_ws (fun k hk => by have := hD_ws k hk; omega) (by first | assumption | omega | decide)) rfl rfl rfl ?_
       rintro _ w125 ⟨a122, c123, rfl, F124, G126⟩
       have z127 := V.Fr.size G126
       try replace F_o := F_o.gr G126
       try replace F_ws := F_ws.gr G126
       try replace Fk2 := Fk2.gr G126
       try replace Fk9 := Fk9.gr G126
       try replace Fk16 := Fk16.gr G126
       try replace Fk23 := Fk23.gr G126
       try replace F31 := F31.gr G126
       try replace Fk36 := Fk36.gr G126
       replace HG := HG.grow G126
       clear G126
       refine V.storeO Fk23 rfl rfl rfl rfl sz27 rfl rfl rfl rfl ?_
       rintro w128 G129 z131 Fs130
       clear Fk23
       have z132 := V.Fr.size G129
       first | replace F_o := F_o.mb G129 hD_o | clear F_o | skip
       first | replace F_ws := F_ws.mb G129 hD_ws | clear F_ws | skip
       first | replace Fk2 := Fk2.mv1 G129 (by omega) | clear Fk2 | skip
       first | replace Fk9 := Fk9.mv1 G129 (by omega) | clear Fk9 | skip
       first | replace Fk16 := Fk16.mv1 G129 (by omega) | clear Fk16 | skip
       first | replace F31 := F31.ma G129 | clear F31 | skip
       first | replace Fk36 := Fk36.mv1 G129 (by omega) | clear Fk36 | skip
       first | replace F124 := F124.ma G129 | clear F124 | skip
       replace HG := HG.n1 G129
       clear G129
       have Fk23 := Fs130; clear Fs130
       simp only [V.spliceL, V.cellsL] at Fk23
       refine V.run T_ok 1 rfl ?_
       refine V.nil ?_
       refine V.tN ?_
       refine V.ret ?_
       refine V.done2 rfl (V.resV_cell T_ok Fk23 rfl rfl) (V.resV_tmp rfl) ?_
       first
         | rw [show rStage d ep aw al nw nl ws = (⟨d.id, ep, 2, aw, al, (maxSt d.bw d.bl nw nl).1, (maxSt d.bw d.bl nw nl).2, ws⟩, 0) by simp only [rStage, stR]; grind [ovE]]
       exact ⟨a122, c123, (by first | rfl | simp only [List.length_set]), F124.re, HG⟩
 ·
  try replace g3_2 := V.dec g3_2
  try simp only [V.mk0, V.mk1, V.mk2, V.mk3] at g3_2
  refine V.run T_ok 4 rfl ?_
  refine V.nil ?_
  refine V.tN ?_
  refine V.seq ?_
  refine V.region ?_
  refine V.run T_ok 1 rfl ?_
  refine V.call (rwritten_spec F_ws (fun k hk => by have := hD_ws k hk; omega) (by first | assumption | exact keysOk.nil | (unfold keysOk; decide))) rfl rfl rfl ?_
  rintro _ w133 ⟨rfl, G134⟩
  have z135 := V.Fr.size G134
  try replace F_o := F_o.gr G134
  try replace F_ws := F_ws.gr G134
  try replace Fk2 := Fk2.gr G134
  try replace Fk9 := Fk9.gr G134
  try replace Fk16 := Fk16.gr G134
  try replace Fk23 := Fk23.gr G134
  try replace F31 := F31.gr G134
  try replace Fk36 := Fk36.gr G134
  replace HG := HG.grow G134
  clear G134
  refine V.run T_ok 1 rfl ?_
  refine V.nil ?_
  refine V.tN ?_
  refine V.seq ?_
  refine V.seq ?_
  refine V.region ?_
  refine V.run T_ok 3 rfl ?_
  refine V.orG T_ok 2 2 30 rfl rfl rfl rfl rfl rfl rfl rfl ?_
  refine V.run T_ok 1 rfl ?_
  refine V.orG T_ok 2 6 34 rfl rfl rfl rfl rfl rfl rfl rfl ?_
  refine V.nil ?_
  refine V.tN ?_
  refine V.condT rfl (fun h5 => ?_) (fun h5 => ?_)
  ·
   try replace h5 := V.dec h5
   try simp only [V.mk0, V.mk1, V.mk2, V.mk3] at h5
   refine V.seq ?_
   refine V.region ?_
   refine V.loadO T_ok Fk36 rfl rfl rfl rfl rfl ?_
   refine V.storeO Fk23 rfl rfl rfl rfl sz27 rfl rfl rfl rfl ?_
   rintro w136 G137 z139 Fs138
   clear Fk23
   have z140 := V.Fr.size G137
   first | replace F_o := F_o.mb G137 hD_o | clear F_o | skip
   first | replace F_ws := F_ws.mb G137 hD_ws | clear F_ws | skip
   first | replace Fk2 := Fk2.mv1 G137 (by omega) | clear Fk2 | skip
   first | replace Fk9 := Fk9.mv1 G137 (by omega) | clear Fk9 | skip
   first | replace Fk16 := Fk16.mv1 G137 (by omega) | clear Fk16 | skip
   first | replace F31 := F31.ma G137 | clear F31 | skip
   first | replace Fk36 := Fk36.mv1 G137 (by omega) | clear Fk36 | skip
   replace HG := HG.n1 G137
   clear G137
   have Fk23 := Fs138; clear Fs138
   simp only [V.spliceL, V.cellsL] at Fk23
   refine V.run T_ok 1 rfl ?_
   refine V.nil ?_
   refine V.tN ?_
   refine V.ret ?_
   refine V.tR ?_
   refine V.done2 rfl (V.resV_cell T_ok Fk23 rfl rfl) (V.resV_tmp rfl) ?_
   first
     | rw [show rStage d ep aw al nw nl ws = (d, 1) by simp only [rStage, stR]; grind [ovE]]
   exact ⟨a29, c30, (by first | rfl | simp only [List.length_set]), F31.re, HG⟩
  ·
   try replace h5 := V.dec h5
   try simp only [V.mk0, V.mk1, V.mk2, V.mk3] at h5
   refine V.skip ?_
   refine V.tN ?_
   refine V.seq ?_
   refine V.seq ?_
   refine V.region ?_
   refine V.run T_ok 1 rfl ?_
   refine V.loadO T_ok Fk2 rfl rfl rfl rfl rfl ?_
   refine V.run T_ok 1 rfl ?_
   refine V.nil ?_
   refine V.tN ?_
   refine V.condT rfl (fun h7 => ?_) (fun h7 => ?_)
   ·
    try replace h7 := V.dec h7
    try simp only [V.mk0, V.mk1, V.mk2, V.mk3] at h7
    refine V.seq ?_
    refine V.region ?_
    refine V.loadO T_ok Fk36 rfl rfl rfl rfl rfl ?_
    refine V.storeO Fk23 rfl rfl rfl rfl sz27 rfl rfl rfl rfl ?_
    rintro w141 G142 z144 Fs143
    clear Fk23
    have z145 := V.Fr.size G142
    first | replace F_o := F_o.mb G142 hD_o | clear F_o | skip
    first | replace F_ws := F_ws.mb G142 hD_ws | clear F_ws | skip
    first | replace Fk2 := Fk2.mv1 G142 (by omega) | clear Fk2 | skip
    first | replace Fk9 := Fk9.mv1 G142 (by omega) | clear Fk9 | skip
    first | replace Fk16 := Fk16.mv1 G142 (by omega) | clear Fk16 | skip
    first | replace F31 := F31.ma G142 | clear F31 | skip
    first | replace Fk36 := Fk36.mv1 G142 (by omega) | clear Fk36 | skip
    replace HG := HG.n1 G142
    clear G142
    have Fk23 := Fs143; clear Fs143
    simp only [V.spliceL, V.cellsL] at Fk23
    refine V.run T_ok 1 rfl ?_
    refine V.nil ?_
    refine V.tN ?_
    refine V.ret ?_
    refine V.tR ?_
    refine V.done2 rfl (V.resV_cell T_ok Fk23 rfl rfl) (V.resV_tmp rfl) ?_
    first
      | rw [show rStage d ep aw al nw nl ws = (d, 83) by simp only [rStage, stR]; grind [ovE]]
    exact ⟨a29, c30, (by first | rfl | simp only [List.length_set]), F31.re, HG⟩
   ·
    try replace h7 := V.dec h7
    try simp only [V.mk0, V.mk1, V.mk2, V.mk3] at h7
    refine V.skip ?_
    refine V.tN ?_
    refine V.seq ?_
    refine V.seq ?_
    refine V.region ?_
    refine V.run T_ok 1 rfl ?_
    refine V.loadO T_ok Fk2 rfl rfl rfl rfl rfl ?_
    refine V.run T_ok 1 rfl ?_
    refine V.nil ?_
    refine V.tN ?_
    refine V.condT rfl (fun h9 => ?_) (fun h9 => ?_)
    ·
     try replace h9 := V.dec h9
     try simp only [V.mk0, V.mk1, V.mk2, V.mk3] at h9
     refine V.seq ?_
     refine V.region ?_
     refine V.loadO T_ok Fk36 rfl rfl rfl rfl rfl ?_
     refine V.storeO Fk23 rfl rfl rfl rfl sz27 rfl rfl rfl rfl ?_
     rintro w146 G147 z149 Fs148
     clear Fk23
     have z150 := V.Fr.size G147
     first | replace F_o := F_o.mb G147 hD_o | clear F_o | skip
     first | replace F_ws := F_ws.mb G147 hD_ws | clear F_ws | skip
     first | replace Fk2 := Fk2.mv1 G147 (by omega) | clear Fk2 | skip
     first | replace Fk9 := Fk9.mv1 G147 (by omega) | clear Fk9 | skip
     first | replace Fk16 := Fk16.mv1 G147 (by omega) | clear Fk16 | skip
     first | replace F31 := F31.ma G147 | clear F31 | skip
     first | replace Fk36 := Fk36.mv1 G147 (by omega) | clear Fk36 | skip
     replace HG := HG.n1 G147
     clear G147
     have Fk23 := Fs148; clear Fs148
     simp only [V.spliceL, V.cellsL] at Fk23
     refine V.run T_ok 1 rfl ?_
     refine V.nil ?_
     refine V.tN ?_
     refine V.ret ?_
     refine V.tR ?_
     refine V.done2 rfl (V.resV_cell T_ok Fk23 rfl rfl) (V.resV_tmp rfl) ?_
     first
       | rw [show rStage d ep aw al nw nl ws = (d, 122) by simp only [rStage, stR]; grind [ovE]]
     exact ⟨a29, c30, (by first | rfl | simp only [List.length_set]), F31.re, HG⟩
    ·
     try replace h9 := V.dec h9
     try simp only [V.mk0, V.mk1, V.mk2, V.mk3] at h9
     refine V.skip ?_
     refine V.tN ?_
     refine V.seq ?_
     refine V.seq ?_
     refine V.region ?_
     refine V.run T_ok 1 rfl ?_
     refine V.loadO T_ok Fk2 rfl rfl rfl rfl rfl ?_
     refine V.run T_ok 3 rfl ?_
     refine V.split (j := 4) (t := 51) rfl rfl (fun g11_4 => ?_) (fun g11_4 => ?_)
     ·
      try replace g11_4 := V.dec g11_4
      try simp only [V.mk0, V.mk1, V.mk2, V.mk3] at g11_4
      refine V.run T_ok 16 rfl ?_
      refine V.nil ?_
      refine V.tN ?_
      refine V.condY rfl rfl ?_
      refine V.seq ?_
      refine V.region ?_
      refine V.loadO T_ok Fk36 rfl rfl rfl rfl rfl ?_
      refine V.storeO Fk23 rfl rfl rfl rfl sz27 rfl rfl rfl rfl ?_
      rintro w151 G152 z154 Fs153
      clear Fk23
      have z155 := V.Fr.size G152
      first | replace F_o := F_o.mb G152 hD_o | clear F_o | skip
      first | replace F_ws := F_ws.mb G152 hD_ws | clear F_ws | skip
      first | replace Fk2 := Fk2.mv1 G152 (by omega) | clear Fk2 | skip
      first | replace Fk9 := Fk9.mv1 G152 (by omega) | clear Fk9 | skip
      first | replace Fk16 := Fk16.mv1 G152 (by omega) | clear Fk16 | skip
      first | replace F31 := F31.ma G152 | clear F31 | skip
      first | replace Fk36 := Fk36.mv1 G152 (by omega) | clear Fk36 | skip
      replace HG := HG.n1 G152
      clear G152
      have Fk23 := Fs153; clear Fs153
      simp only [V.spliceL, V.cellsL] at Fk23
      refine V.run T_ok 1 rfl ?_
      refine V.nil ?_
      refine V.tN ?_
      refine V.ret ?_
      refine V.tR ?_
      refine V.done2 rfl (V.resV_cell T_ok Fk23 rfl rfl) (V.resV_tmp rfl) ?_
      first
        | rw [show rStage d ep aw al nw nl ws = (d, 84) by simp only [rStage, stR]; grind [ovE]]
      exact ⟨a29, c30, (by first | rfl | simp only [List.length_set]), F31.re, HG⟩
     ·
      try replace g11_4 := V.dec g11_4
      try simp only [V.mk0, V.mk1, V.mk2, V.mk3] at g11_4
      refine V.run T_ok 1 rfl ?_
      refine V.yes rfl rfl rfl ?_
      refine V.loadO T_ok Fk2 rfl rfl rfl rfl rfl ?_
      refine V.run T_ok 2 rfl ?_
      refine V.split (j := 8) (t := 55) rfl rfl (fun g11_8 => ?_) (fun g11_8 => ?_)
      ·
       try replace g11_8 := V.dec g11_8
       try simp only [V.mk0, V.mk1, V.mk2, V.mk3] at g11_8
       refine V.run T_ok 1 rfl ?_
       refine V.yes rfl rfl rfl ?_
       refine V.loadO T_ok Fk2 rfl rfl rfl rfl rfl ?_
       refine V.run T_ok 4 rfl ?_
       refine V.split (j := 14) (t := 61) rfl rfl (fun g11_14 => ?_) (fun g11_14 => ?_)
       ·
        try replace g11_14 := V.dec g11_14
        try simp only [V.mk0, V.mk1, V.mk2, V.mk3] at g11_14
        refine V.yes rfl rfl rfl ?_
        refine V.loadO T_ok Fk9 rfl rfl rfl rfl rfl ?_
        refine V.run T_ok 1 rfl ?_
        refine V.yes rfl rfl rfl ?_
        refine V.loadO T_ok Fk2 rfl rfl rfl rfl rfl ?_
        refine V.yes rfl rfl rfl ?_
        refine V.call (rless_spec (a := aw) (b := al) (c := d.aw) (d := d.al)) rfl rfl rfl ?_
        rintro _ w156 ⟨rfl, G157⟩
        have z158 := V.Fr.size G157
        try replace F_o := F_o.gr G157
        try replace F_ws := F_ws.gr G157
        try replace Fk2 := Fk2.gr G157
        try replace Fk9 := Fk9.gr G157
        try replace Fk16 := Fk16.gr G157
        try replace Fk23 := Fk23.gr G157
        try replace F31 := F31.gr G157
        try replace Fk36 := Fk36.gr G157
        replace HG := HG.grow G157
        clear G157
        refine V.run T_ok 2 rfl ?_
        refine V.nil ?_
        refine V.tN ?_
        refine V.condT rfl (fun h11 => ?_) (fun h11 => ?_)
        ·
         try replace h11 := V.dec h11
         try simp only [V.mk0, V.mk1, V.mk2, V.mk3] at h11
         refine V.seq ?_
         refine V.region ?_
         refine V.loadO T_ok Fk36 rfl rfl rfl rfl rfl ?_
         refine V.storeO Fk23 rfl rfl rfl rfl sz27 rfl rfl rfl rfl ?_
         rintro w159 G160 z162 Fs161
         clear Fk23
         have z163 := V.Fr.size G160
         first | replace F_o := F_o.mb G160 hD_o | clear F_o | skip
         first | replace F_ws := F_ws.mb G160 hD_ws | clear F_ws | skip
         first | replace Fk2 := Fk2.mv1 G160 (by omega) | clear Fk2 | skip
         first | replace Fk9 := Fk9.mv1 G160 (by omega) | clear Fk9 | skip
         first | replace Fk16 := Fk16.mv1 G160 (by omega) | clear Fk16 | skip
         first | replace F31 := F31.ma G160 | clear F31 | skip
         first | replace Fk36 := Fk36.mv1 G160 (by omega) | clear Fk36 | skip
         replace HG := HG.n1 G160
         clear G160
         have Fk23 := Fs161; clear Fs161
         simp only [V.spliceL, V.cellsL] at Fk23
         refine V.run T_ok 1 rfl ?_
         refine V.nil ?_
         refine V.tN ?_
         refine V.ret ?_
         refine V.tR ?_
         refine V.done2 rfl (V.resV_cell T_ok Fk23 rfl rfl) (V.resV_tmp rfl) ?_
         first
           | rw [show rStage d ep aw al nw nl ws = (d, 84) by simp only [rStage, stR]; grind [ovE]]
         exact ⟨a29, c30, (by first | rfl | simp only [List.length_set]), F31.re, HG⟩
        ·
         try replace h11 := V.dec h11
         try simp only [V.mk0, V.mk1, V.mk2, V.mk3] at h11
         refine V.skip ?_
         refine V.tN ?_
         refine V.seq ?_
         refine V.drawGT 9 (V.sel [(7, (fun v wz => v = .agg #[.int .i64 ((maxSt d.bw d.bl nw nl).1), .int .i64 ((maxSt d.bw d.bl nw nl).2)]))]) mixed (by kernel_rfl) (V.mono_cons V.eqV_mono V.mono_nil) ?_
         refine V.grun T_ok 1 rfl (V.sel_none rfl) ?_
         refine V.gloadO T_ok (fun w' h => Fk2.gr h.1) rfl rfl rfl rfl rfl rfl ?_
         refine V.grun T_ok 1 rfl (V.sel_none rfl) ?_
         refine V.gloadO T_ok (fun w' h => Fk9.gr h.1) rfl rfl rfl rfl rfl rfl ?_
         refine V.grun T_ok 1 rfl (V.sel_none rfl) ?_
         refine V.gloadO T_ok (fun w' h => Fk2.gr h.1) rfl rfl rfl rfl rfl rfl ?_
         refine V.gloadO T_ok (fun w' h => Fk16.gr h.1) rfl rfl rfl rfl rfl rfl ?_
         refine V.gcall (fun w' h => (rmax_spec (a := d.bw) (b := d.bl) (c := nw) (d := nl)).mono (by rintro v w'' ⟨rfl, G⟩; exact ⟨rfl, G⟩)) rfl rfl rfl rfl ?_
         rintro _ w164 - - rfl
         refine V.grun T_ok 1 rfl (V.sel_none rfl) ?_
         refine V.gnil ?_
         rintro w165 G166 hH167
         have z168 := V.Fr.size G166
         try replace F_o := F_o.gr G166
         try replace F_ws := F_ws.gr G166
         try replace Fk2 := Fk2.gr G166
         try replace Fk9 := Fk9.gr G166
         try replace Fk16 := Fk16.gr G166
         try replace Fk23 := Fk23.gr G166
         try replace F31 := F31.gr G166
         try replace Fk36 := Fk36.gr G166
         replace HG := HG.grow G166
         clear G166
         clear hH167
         refine V.mkStruct T_ok zero27 rfl rfl rfl rfl rfl ?_
         refine V.call (copy_spec (d := (⟨d.id, ep, 2, aw, al, (maxSt d.bw d.bl nw nl).1, (maxSt d.bw d.bl nw nl).2, ws⟩ : RecV)) F_ws (fun k hk => by have := hD_ws k hk; omega) (by first | assumption | omega | decide)) rfl rfl rfl ?_
         rintro _ w172 ⟨a169, c170, rfl, F171, G173⟩
         have z174 := V.Fr.size G173
         try replace F_o := F_o.gr G173
         try replace F_ws := F_ws.gr G173
         try replace Fk2 := Fk2.gr G173
         try replace Fk9 := Fk9.gr G173
         try replace Fk16 := Fk16.gr G173
         try replace Fk23 := Fk23.gr G173
         try replace F31 := F31.gr G173
         try replace Fk36 := Fk36.gr G173
         replace HG := HG.grow G173
         clear G173
         refine V.storeO Fk23 rfl rfl rfl rfl sz27 rfl rfl rfl rfl ?_
         rintro w175 G176 z178 Fs177
         clear Fk23
         have z179 := V.Fr.size G176
         first | replace F_o := F_o.mb G176 hD_o | clear F_o | skip
         first | replace F_ws := F_ws.mb G176 hD_ws | clear F_ws | skip
         first | replace Fk2 := Fk2.mv1 G176 (by omega) | clear Fk2 | skip
         first | replace Fk9 := Fk9.mv1 G176 (by omega) | clear Fk9 | skip
         first | replace Fk16 := Fk16.mv1 G176 (by omega) | clear Fk16 | skip
         first | replace F31 := F31.ma G176 | clear F31 | skip
         first | replace Fk36 := Fk36.mv1 G176 (by omega) | clear Fk36 | skip
         first | replace F171 := F171.ma G176 | clear F171 | skip
         replace HG := HG.n1 G176
         clear G176
         have Fk23 := Fs177; clear Fs177
         simp only [V.spliceL, V.cellsL] at Fk23
         refine V.run T_ok 1 rfl ?_
         refine V.nil ?_
         refine V.tN ?_
         refine V.ret ?_
         refine V.done2 rfl (V.resV_cell T_ok Fk23 rfl rfl) (V.resV_tmp rfl) ?_
         first
           | rw [show rStage d ep aw al nw nl ws = (⟨d.id, ep, 2, aw, al, (maxSt d.bw d.bl nw nl).1, (maxSt d.bw d.bl nw nl).2, ws⟩, 0) by simp only [rStage, stR]; grind [ovE]]
         exact ⟨a169, c170, (by first | rfl | simp only [List.length_set]), F171.re, HG⟩
       ·
        try replace g11_14 := V.dec g11_14
        try simp only [V.mk0, V.mk1, V.mk2, V.mk3] at g11_14
        refine V.run T_ok 6 rfl ?_
        refine V.nil ?_
        refine V.tN ?_
        refine V.condN rfl rfl ?_
        refine V.skip ?_
        refine V.tN ?_
        refine V.seq ?_
        refine V.drawGT 9 (V.sel [(7, (fun v wz => v = .agg #[.int .i64 ((maxSt d.bw d.bl nw nl).1), .int .i64 ((maxSt d.bw d.bl nw nl).2)]))]) mixed (by kernel_rfl) (V.mono_cons V.eqV_mono V.mono_nil) ?_
        refine V.grun T_ok 1 rfl (V.sel_none rfl) ?_
        refine V.gloadO T_ok (fun w' h => Fk2.gr h.1) rfl rfl rfl rfl rfl rfl ?_
        refine V.grun T_ok 1 rfl (V.sel_none rfl) ?_
        refine V.gloadO T_ok (fun w' h => Fk9.gr h.1) rfl rfl rfl rfl rfl rfl ?_
        refine V.grun T_ok 1 rfl (V.sel_none rfl) ?_
        refine V.gloadO T_ok (fun w' h => Fk2.gr h.1) rfl rfl rfl rfl rfl rfl ?_
        refine V.gloadO T_ok (fun w' h => Fk16.gr h.1) rfl rfl rfl rfl rfl rfl ?_
        refine V.gcall (fun w' h => (rmax_spec (a := d.bw) (b := d.bl) (c := nw) (d := nl)).mono (by rintro v w'' ⟨rfl, G⟩; exact ⟨rfl, G⟩)) rfl rfl rfl rfl ?_
        rintro _ w180 - - rfl
        refine V.grun T_ok 1 rfl (V.sel_none rfl) ?_
        refine V.gnil ?_
        rintro w181 G182 hH183
        have z184 := V.Fr.size G182
        try replace F_o := F_o.gr G182
        try replace F_ws := F_ws.gr G182
        try replace Fk2 := Fk2.gr G182
        try replace Fk9 := Fk9.gr G182
        try replace Fk16 := Fk16.gr G182
        try replace Fk23 := Fk23.gr G182
        try replace F31 := F31.gr G182
        try replace Fk36 := Fk36.gr G182
        replace HG := HG.grow G182
        clear G182
        clear hH183
        refine V.mkStruct T_ok zero27 rfl rfl rfl rfl rfl ?_
        refine V.call (copy_spec (d := (⟨d.id, ep, 2, aw, al, (maxSt d.bw d.bl nw nl).1, (maxSt d.bw d.bl nw nl).2, ws⟩ : RecV)) F_ws (fun k hk => by have := hD_ws k hk; omega) (by first | assumption | omega | decide)) rfl rfl rfl ?_
        rintro _ w188 ⟨a185, c186, rfl, F187, G189⟩
        have z190 := V.Fr.size G189
        try replace F_o := F_o.gr G189
        try replace F_ws := F_ws.gr G189
        try replace Fk2 := Fk2.gr G189
        try replace Fk9 := Fk9.gr G189
        try replace Fk16 := Fk16.gr G189
        try replace Fk23 := Fk23.gr G189
        try replace F31 := F31.gr G189
        try replace Fk36 := Fk36.gr G189
        replace HG := HG.grow G189
        clear G189
        refine V.storeO Fk23 rfl rfl rfl rfl sz27 rfl rfl rfl rfl ?_
        rintro w191 G192 z194 Fs193
        clear Fk23
        have z195 := V.Fr.size G192
        first | replace F_o := F_o.mb G192 hD_o | clear F_o | skip
        first | replace F_ws := F_ws.mb G192 hD_ws | clear F_ws | skip
        first | replace Fk2 := Fk2.mv1 G192 (by omega) | clear Fk2 | skip
        first | replace Fk9 := Fk9.mv1 G192 (by omega) | clear Fk9 | skip
        first | replace Fk16 := Fk16.mv1 G192 (by omega) | clear Fk16 | skip
        first | replace F31 := F31.ma G192 | clear F31 | skip
        first | replace Fk36 := Fk36.mv1 G192 (by omega) | clear Fk36 | skip
        first | replace F187 := F187.ma G192 | clear F187 | skip
        replace HG := HG.n1 G192
        clear G192
        have Fk23 := Fs193; clear Fs193
        simp only [V.spliceL, V.cellsL] at Fk23
        refine V.run T_ok 1 rfl ?_
        refine V.nil ?_
        refine V.tN ?_
        refine V.ret ?_
        refine V.done2 rfl (V.resV_cell T_ok Fk23 rfl rfl) (V.resV_tmp rfl) ?_
        first
          | rw [show rStage d ep aw al nw nl ws = (⟨d.id, ep, 2, aw, al, (maxSt d.bw d.bl nw nl).1, (maxSt d.bw d.bl nw nl).2, ws⟩, 0) by simp only [rStage, stR]; grind [ovE]]
        exact ⟨a185, c186, (by first | rfl | simp only [List.length_set]), F187.re, HG⟩
      ·
       try replace g11_8 := V.dec g11_8
       try simp only [V.mk0, V.mk1, V.mk2, V.mk3] at g11_8
       refine V.run T_ok 12 rfl ?_
       refine V.nil ?_
       refine V.tN ?_
       refine V.condN rfl rfl ?_
       refine V.skip ?_
       refine V.tN ?_
       refine V.seq ?_
       refine V.drawGT 9 (V.sel [(7, (fun v wz => v = .agg #[.int .i64 ((maxSt d.bw d.bl nw nl).1), .int .i64 ((maxSt d.bw d.bl nw nl).2)]))]) mixed (by kernel_rfl) (V.mono_cons V.eqV_mono V.mono_nil) ?_
       refine V.grun T_ok 1 rfl (V.sel_none rfl) ?_
       refine V.gloadO T_ok (fun w' h => Fk2.gr h.1) rfl rfl rfl rfl rfl rfl ?_
       refine V.grun T_ok 1 rfl (V.sel_none rfl) ?_
       refine V.gloadO T_ok (fun w' h => Fk9.gr h.1) rfl rfl rfl rfl rfl rfl ?_
       refine V.grun T_ok 1 rfl (V.sel_none rfl) ?_
       refine V.gloadO T_ok (fun w' h => Fk2.gr h.1) rfl rfl rfl rfl rfl rfl ?_
       refine V.gloadO T_ok (fun w' h => Fk16.gr h.1) rfl rfl rfl rfl rfl rfl ?_
       refine V.gcall (fun w' h => (rmax_spec (a := d.bw) (b := d.bl) (c := nw) (d := nl)).mono (by rintro v w'' ⟨rfl, G⟩; exact ⟨rfl, G⟩)) rfl rfl rfl rfl ?_
       rintro _ w196 - - rfl
       refine V.grun T_ok 1 rfl (V.sel_none rfl) ?_
       refine V.gnil ?_
       rintro w197 G198 hH199
       have z200 := V.Fr.size G198
       try replace F_o := F_o.gr G198
       try replace F_ws := F_ws.gr G198
       try replace Fk2 := Fk2.gr G198
       try replace Fk9 := Fk9.gr G198
       try replace Fk16 := Fk16.gr G198
       try replace Fk23 := Fk23.gr G198
       try replace F31 := F31.gr G198
       try replace Fk36 := Fk36.gr G198
       replace HG := HG.grow G198
       clear G198
       clear hH199
       refine V.mkStruct T_ok zero27 rfl rfl rfl rfl rfl ?_
       refine V.call (copy_spec (d := (⟨d.id, ep, 2, aw, al, (maxSt d.bw d.bl nw nl).1, (maxSt d.bw d.bl nw nl).2, ws⟩ : RecV)) F_ws (fun k hk => by have := hD_ws k hk; omega) (by first | assumption | omega | decide)) rfl rfl rfl ?_
       rintro _ w204 ⟨a201, c202, rfl, F203, G205⟩
       have z206 := V.Fr.size G205
       try replace F_o := F_o.gr G205
       try replace F_ws := F_ws.gr G205
       try replace Fk2 := Fk2.gr G205
       try replace Fk9 := Fk9.gr G205
       try replace Fk16 := Fk16.gr G205
       try replace Fk23 := Fk23.gr G205
       try replace F31 := F31.gr G205
       try replace Fk36 := Fk36.gr G205
       replace HG := HG.grow G205
       clear G205
       refine V.storeO Fk23 rfl rfl rfl rfl sz27 rfl rfl rfl rfl ?_
       rintro w207 G208 z210 Fs209
       clear Fk23
       have z211 := V.Fr.size G208
       first | replace F_o := F_o.mb G208 hD_o | clear F_o | skip
       first | replace F_ws := F_ws.mb G208 hD_ws | clear F_ws | skip
       first | replace Fk2 := Fk2.mv1 G208 (by omega) | clear Fk2 | skip
       first | replace Fk9 := Fk9.mv1 G208 (by omega) | clear Fk9 | skip
       first | replace Fk16 := Fk16.mv1 G208 (by omega) | clear Fk16 | skip
       first | replace F31 := F31.ma G208 | clear F31 | skip
       first | replace Fk36 := Fk36.mv1 G208 (by omega) | clear Fk36 | skip
       first | replace F203 := F203.ma G208 | clear F203 | skip
       replace HG := HG.n1 G208
       clear G208
       have Fk23 := Fs209; clear Fs209
       simp only [V.spliceL, V.cellsL] at Fk23
       refine V.run T_ok 1 rfl ?_
       refine V.nil ?_
       refine V.tN ?_
       refine V.ret ?_
       refine V.done2 rfl (V.resV_cell T_ok Fk23 rfl rfl) (V.resV_tmp rfl) ?_
       first
         | rw [show rStage d ep aw al nw nl ws = (⟨d.id, ep, 2, aw, al, (maxSt d.bw d.bl nw nl).1, (maxSt d.bw d.bl nw nl).2, ws⟩, 0) by simp only [rStage, stR]; grind [ovE]]
       exact ⟨a201, c202, (by first | rfl | simp only [List.length_set]), F203.re, HG⟩


def sameR (d e : RecV) : Bool := decide (d.id = e.id ∧ d.ep = e.ep ∧ d.st = e.st ∧ (d.aw = e.aw ∧ d.al = e.al) ∧ (d.bw = e.bw ∧ d.bl = e.bl) ∧ d.ws = e.ws)
theorem sameR_self (d : RecV) : sameR d d = true := by simp [sameR]
theorem sameR_eq {d e : RecV} : sameR d e = true ↔ d = e := by
  cases d; cases e
  simp only [sameR, decide_eq_true_eq, RecV.mk.injEq]
  constructor
  · rintro ⟨h1, h2, h3, ⟨h4, h5⟩, ⟨h6, h7⟩, h8⟩; exact ⟨h1, h2, h3, h4, h5, h6, h7, h8⟩
  · rintro ⟨h1, h2, h3, h4, h5, h6, h7, h8⟩; exact ⟨h1, h2, h3, ⟨h4, h5⟩, ⟨h6, h7⟩, h8⟩

set_option maxHeartbeats 4000000 in
set_option maxRecDepth 10000 in
theorem same_spec {w : World} {d : RecV} {D_o : Nat → Prop} {c_o : Nat} {a_o : Option Addr} (F_o : Sl V.Cod.write w D_o a_o c_o d.ws) (hD_o : ∀ k, D_o k → k < w.heap.size) {x : RecV} {D_q : Nat → Prop} {c_q : Nat} {a_q : Option Addr} (F_q : Sl V.Cod.write w D_q a_q c_q x.ws) (hD_q : ∀ k, D_q k → k < w.heap.size)   :
    Meets Try.prog 19 [.agg #[.int .i64 d.id, .int .i64 d.ep, .int .i64 d.st, .int .i64 d.aw, .int .i64 d.al, .int .i64 d.bw, .int .i64 d.bl, .slice a_o d.ws.length c_o], .agg #[.int .i64 x.id, .int .i64 x.ep, .int .i64 x.st, .int .i64 x.aw, .int .i64 x.al, .int .i64 x.bw, .int .i64 x.bl, .slice a_q x.ws.length c_q]] w fun r w' => r = .bool (sameR d x) ∧ Gr w w' := by
 have HG := V.Fr.refl [] w
 refine V.enter (n := 45) Try.func19 rfl rfl (by decide) rfl ?_
 refine V.seq ?_
 refine V.region ?_
 refine V.box rfl rfl rfl rfl ?_
 rintro k1 w3 s5 s6 G4 Fk2
 have z7 := V.Fr.size G4
 try replace F_o := F_o.gr G4
 try replace F_q := F_q.gr G4
 replace HG := HG.grow G4
 clear G4
 try simp only [V.cellsL, V.spliceL] at Fk2
 refine V.box rfl rfl rfl rfl ?_
 rintro k8 w10 s12 s13 G11 Fk9
 have z14 := V.Fr.size G11
 try replace F_o := F_o.gr G11
 try replace F_q := F_q.gr G11
 try replace Fk2 := Fk2.gr G11
 replace HG := HG.grow G11
 clear G11
 try simp only [V.cellsL, V.spliceL] at Fk9
 refine V.run T_ok 1 rfl ?_
 refine V.nil ?_
 refine V.tN ?_
 refine V.seq ?_
 refine V.region ?_
 refine V.run T_ok 1 rfl ?_
 refine V.loadO T_ok Fk2 rfl rfl rfl rfl rfl ?_
 refine V.run T_ok 1 rfl ?_
 refine V.loadO T_ok Fk9 rfl rfl rfl rfl rfl ?_
 refine V.run T_ok 2 rfl ?_
 refine V.split (j := 5) (t := 10) rfl rfl (fun g1_5 => ?_) (fun g1_5 => ?_)
 ·
  try replace g1_5 := V.dec g1_5
  try simp only [V.mk0, V.mk1, V.mk2, V.mk3] at g1_5
  refine V.run T_ok 1 rfl ?_
  refine V.yes rfl rfl rfl ?_
  refine V.loadO T_ok Fk2 rfl rfl rfl rfl rfl ?_
  refine V.run T_ok 1 rfl ?_
  refine V.yes rfl rfl rfl ?_
  refine V.loadO T_ok Fk9 rfl rfl rfl rfl rfl ?_
  refine V.run T_ok 3 rfl ?_
  refine V.split (j := 12) (t := 17) rfl rfl (fun g1_12 => ?_) (fun g1_12 => ?_)
  ·
   try replace g1_12 := V.dec g1_12
   try simp only [V.mk0, V.mk1, V.mk2, V.mk3] at g1_12
   refine V.run T_ok 1 rfl ?_
   refine V.yes rfl rfl rfl ?_
   refine V.loadO T_ok Fk2 rfl rfl rfl rfl rfl ?_
   refine V.run T_ok 1 rfl ?_
   refine V.yes rfl rfl rfl ?_
   refine V.loadO T_ok Fk9 rfl rfl rfl rfl rfl ?_
   refine V.run T_ok 3 rfl ?_
   refine V.split (j := 19) (t := 24) rfl rfl (fun g1_19 => ?_) (fun g1_19 => ?_)
   ·
    try replace g1_19 := V.dec g1_19
    try simp only [V.mk0, V.mk1, V.mk2, V.mk3] at g1_19
    refine V.run T_ok 1 rfl ?_
    refine V.yes rfl rfl rfl ?_
    refine V.loadO T_ok Fk2 rfl rfl rfl rfl rfl ?_
    refine V.run T_ok 1 rfl ?_
    refine V.yes rfl rfl rfl ?_
    refine V.loadO T_ok Fk9 rfl rfl rfl rfl rfl ?_
    refine V.yes rfl rfl rfl ?_
    refine V.step rfl rfl (V.eqA_run rfl rfl rfl eqG24 (eqS24 _)) ?_
    refine V.run T_ok 2 rfl ?_
    refine V.split (j := 26) (t := 31) rfl rfl (fun g1_26 => ?_) (fun g1_26 => ?_)
    ·
     try replace g1_26 := V.dec g1_26
     try simp only [V.mk0, V.mk1, V.mk2, V.mk3] at g1_26
     refine V.run T_ok 1 rfl ?_
     refine V.yes rfl rfl rfl ?_
     refine V.loadO T_ok Fk2 rfl rfl rfl rfl rfl ?_
     refine V.run T_ok 1 rfl ?_
     refine V.yes rfl rfl rfl ?_
     refine V.loadO T_ok Fk9 rfl rfl rfl rfl rfl ?_
     refine V.yes rfl rfl rfl ?_
     refine V.step rfl rfl (V.eqA_run rfl rfl rfl eqG24 (eqS24 _)) ?_
     refine V.run T_ok 2 rfl ?_
     refine V.split (j := 33) (t := 38) rfl rfl (fun g1_33 => ?_) (fun g1_33 => ?_)
     ·
      try replace g1_33 := V.dec g1_33
      try simp only [V.mk0, V.mk1, V.mk2, V.mk3] at g1_33
      refine V.run T_ok 1 rfl ?_
      refine V.yes rfl rfl rfl ?_
      refine V.loadO T_ok Fk2 rfl rfl rfl rfl rfl ?_
      refine V.run T_ok 1 rfl ?_
      refine V.yes rfl rfl rfl ?_
      refine V.loadO T_ok Fk9 rfl rfl rfl rfl rfl ?_
      refine V.yes rfl rfl rfl ?_
      refine V.call (equalW_spec F_o F_q) rfl rfl rfl ?_
      rintro _ w15 ⟨rfl, G16⟩
      have z17 := V.Fr.size G16
      try replace F_o := F_o.gr G16
      try replace F_q := F_q.gr G16
      try replace Fk2 := Fk2.gr G16
      try replace Fk9 := Fk9.gr G16
      replace HG := HG.grow G16
      clear G16
      refine V.run T_ok 2 rfl ?_
      refine V.nil ?_
      refine V.tN ?_
      refine V.ret ?_
      refine V.done rfl ?_
      exact ⟨(congrArg Value.bool (by first | rfl | (simp only [sameR]; grind))), HG⟩
     ·
      try replace g1_33 := V.dec g1_33
      try simp only [V.mk0, V.mk1, V.mk2, V.mk3] at g1_33
      refine V.run T_ok 7 rfl ?_
      refine V.nil ?_
      refine V.tN ?_
      refine V.ret ?_
      refine V.done rfl ?_
      exact ⟨(congrArg Value.bool (by first | rfl | (simp only [sameR]; grind))), HG⟩
    ·
     try replace g1_26 := V.dec g1_26
     try simp only [V.mk0, V.mk1, V.mk2, V.mk3] at g1_26
     refine V.run T_ok 14 rfl ?_
     refine V.nil ?_
     refine V.tN ?_
     refine V.ret ?_
     refine V.done rfl ?_
     exact ⟨(congrArg Value.bool (by first | rfl | (simp only [sameR]; grind))), HG⟩
   ·
    try replace g1_19 := V.dec g1_19
    try simp only [V.mk0, V.mk1, V.mk2, V.mk3] at g1_19
    refine V.run T_ok 21 rfl ?_
    refine V.nil ?_
    refine V.tN ?_
    refine V.ret ?_
    refine V.done rfl ?_
    exact ⟨(congrArg Value.bool (by first | rfl | (simp only [sameR]; grind))), HG⟩
  ·
   try replace g1_12 := V.dec g1_12
   try simp only [V.mk0, V.mk1, V.mk2, V.mk3] at g1_12
   refine V.run T_ok 28 rfl ?_
   refine V.nil ?_
   refine V.tN ?_
   refine V.ret ?_
   refine V.done rfl ?_
   exact ⟨(congrArg Value.bool (by first | rfl | (simp only [sameR]; grind))), HG⟩
 ·
  try replace g1_5 := V.dec g1_5
  try simp only [V.mk0, V.mk1, V.mk2, V.mk3] at g1_5
  refine V.run T_ok 35 rfl ?_
  refine V.nil ?_
  refine V.tN ?_
  refine V.ret ?_
  refine V.done rfl ?_
  exact ⟨(congrArg Value.bool (by first | rfl | (simp only [sameR]; grind))), HG⟩

set_option maxHeartbeats 4000000 in
set_option maxRecDepth 10000 in
theorem rsame_spec {w : World} {d : RecV} {D_o : Nat → Prop} {c_o : Nat} {a_o : Option Addr} (F_o : Sl V.Cod.write w D_o a_o c_o d.ws) (hD_o : ∀ k, D_o k → k < w.heap.size) {x : RecV} {D_q : Nat → Prop} {c_q : Nat} {a_q : Option Addr} (F_q : Sl V.Cod.write w D_q a_q c_q x.ws) (hD_q : ∀ k, D_q k → k < w.heap.size)   :
    Meets Try.prog 17 [.agg #[.int .i64 d.id, .int .i64 d.ep, .int .i64 d.st, .int .i64 d.aw, .int .i64 d.al, .int .i64 d.bw, .int .i64 d.bl, .slice a_o d.ws.length c_o], .agg #[.int .i64 x.id, .int .i64 x.ep, .int .i64 x.st, .int .i64 x.aw, .int .i64 x.al, .int .i64 x.bw, .int .i64 x.bl, .slice a_q x.ws.length c_q]] w fun r w' => r = .bool (sameR d x) ∧ Gr w w' := by
 have HG := V.Fr.refl [] w
 refine V.enter (n := 66) Try.func17 rfl rfl (by decide) rfl ?_
 refine V.seq ?_
 refine V.region ?_
 refine V.box rfl rfl rfl rfl ?_
 rintro k1 w3 s5 s6 G4 Fk2
 have z7 := V.Fr.size G4
 try replace F_o := F_o.gr G4
 try replace F_q := F_q.gr G4
 replace HG := HG.grow G4
 clear G4
 try simp only [V.cellsL, V.spliceL] at Fk2
 refine V.box rfl rfl rfl rfl ?_
 rintro k8 w10 s12 s13 G11 Fk9
 have z14 := V.Fr.size G11
 try replace F_o := F_o.gr G11
 try replace F_q := F_q.gr G11
 try replace Fk2 := Fk2.gr G11
 replace HG := HG.grow G11
 clear G11
 try simp only [V.cellsL, V.spliceL] at Fk9
 refine V.run T_ok 1 rfl ?_
 refine V.nil ?_
 refine V.tN ?_
 refine V.seq ?_
 refine V.seq ?_
 refine V.region ?_
 refine V.run T_ok 1 rfl ?_
 refine V.loadO T_ok Fk2 rfl rfl rfl rfl rfl ?_
 refine V.run T_ok 1 rfl ?_
 refine V.loadO T_ok Fk9 rfl rfl rfl rfl rfl ?_
 refine V.run T_ok 2 rfl ?_
 refine V.split (j := 5) (t := 11) rfl rfl (fun g1_5 => ?_) (fun g1_5 => ?_)
 ·
  try replace g1_5 := V.dec g1_5
  try simp only [V.mk0, V.mk1, V.mk2, V.mk3] at g1_5
  refine V.run T_ok 36 rfl ?_
  refine V.nil ?_
  refine V.tN ?_
  refine V.condY rfl rfl ?_
  refine V.seq ?_
  refine V.region ?_
  refine V.run T_ok 1 rfl ?_
  refine V.nil ?_
  refine V.tN ?_
  refine V.ret ?_
  refine V.tR ?_
  refine V.done rfl ?_
  exact ⟨congrArg Value.bool (by simp only [sameR]; grind), HG⟩
 ·
  try replace g1_5 := V.dec g1_5
  try simp only [V.mk0, V.mk1, V.mk2, V.mk3] at g1_5
  refine V.run T_ok 1 rfl ?_
  refine V.yes rfl rfl rfl ?_
  refine V.loadO T_ok Fk2 rfl rfl rfl rfl rfl ?_
  refine V.run T_ok 1 rfl ?_
  refine V.yes rfl rfl rfl ?_
  refine V.loadO T_ok Fk9 rfl rfl rfl rfl rfl ?_
  refine V.run T_ok 3 rfl ?_
  refine V.split (j := 12) (t := 18) rfl rfl (fun g1_12 => ?_) (fun g1_12 => ?_)
  ·
   try replace g1_12 := V.dec g1_12
   try simp only [V.mk0, V.mk1, V.mk2, V.mk3] at g1_12
   refine V.run T_ok 29 rfl ?_
   refine V.nil ?_
   refine V.tN ?_
   refine V.condY rfl rfl ?_
   refine V.seq ?_
   refine V.region ?_
   refine V.run T_ok 1 rfl ?_
   refine V.nil ?_
   refine V.tN ?_
   refine V.ret ?_
   refine V.tR ?_
   refine V.done rfl ?_
   exact ⟨congrArg Value.bool (by simp only [sameR]; grind), HG⟩
  ·
   try replace g1_12 := V.dec g1_12
   try simp only [V.mk0, V.mk1, V.mk2, V.mk3] at g1_12
   refine V.run T_ok 1 rfl ?_
   refine V.yes rfl rfl rfl ?_
   refine V.loadO T_ok Fk2 rfl rfl rfl rfl rfl ?_
   refine V.run T_ok 1 rfl ?_
   refine V.yes rfl rfl rfl ?_
   refine V.loadO T_ok Fk9 rfl rfl rfl rfl rfl ?_
   refine V.run T_ok 3 rfl ?_
   refine V.split (j := 19) (t := 25) rfl rfl (fun g1_19 => ?_) (fun g1_19 => ?_)
   ·
    try replace g1_19 := V.dec g1_19
    try simp only [V.mk0, V.mk1, V.mk2, V.mk3] at g1_19
    refine V.run T_ok 22 rfl ?_
    refine V.nil ?_
    refine V.tN ?_
    refine V.condY rfl rfl ?_
    refine V.seq ?_
    refine V.region ?_
    refine V.run T_ok 1 rfl ?_
    refine V.nil ?_
    refine V.tN ?_
    refine V.ret ?_
    refine V.tR ?_
    refine V.done rfl ?_
    exact ⟨congrArg Value.bool (by simp only [sameR]; grind), HG⟩
   ·
    try replace g1_19 := V.dec g1_19
    try simp only [V.mk0, V.mk1, V.mk2, V.mk3] at g1_19
    refine V.run T_ok 1 rfl ?_
    refine V.yes rfl rfl rfl ?_
    refine V.loadO T_ok Fk2 rfl rfl rfl rfl rfl ?_
    refine V.run T_ok 1 rfl ?_
    refine V.yes rfl rfl rfl ?_
    refine V.loadO T_ok Fk9 rfl rfl rfl rfl rfl ?_
    refine V.yes rfl rfl rfl ?_
    refine V.step rfl rfl (V.neA_run rfl rfl rfl eqG24 (eqS24 _)) ?_
    refine V.run T_ok 2 rfl ?_
    refine V.split (j := 26) (t := 32) rfl rfl (fun g1_26 => ?_) (fun g1_26 => ?_)
    ·
     try replace g1_26 := V.dec g1_26
     try simp only [V.mk0, V.mk1, V.mk2, V.mk3] at g1_26
     refine V.run T_ok 15 rfl ?_
     refine V.nil ?_
     refine V.tN ?_
     refine V.condY rfl rfl ?_
     refine V.seq ?_
     refine V.region ?_
     refine V.run T_ok 1 rfl ?_
     refine V.nil ?_
     refine V.tN ?_
     refine V.ret ?_
     refine V.tR ?_
     refine V.done rfl ?_
     exact ⟨congrArg Value.bool (by simp only [sameR]; grind), HG⟩
    ·
     try replace g1_26 := V.dec g1_26
     try simp only [V.mk0, V.mk1, V.mk2, V.mk3] at g1_26
     refine V.run T_ok 1 rfl ?_
     refine V.yes rfl rfl rfl ?_
     refine V.loadO T_ok Fk2 rfl rfl rfl rfl rfl ?_
     refine V.run T_ok 1 rfl ?_
     refine V.yes rfl rfl rfl ?_
     refine V.loadO T_ok Fk9 rfl rfl rfl rfl rfl ?_
     refine V.yes rfl rfl rfl ?_
     refine V.step rfl rfl (V.neA_run rfl rfl rfl eqG24 (eqS24 _)) ?_
     refine V.run T_ok 2 rfl ?_
     refine V.split (j := 33) (t := 39) rfl rfl (fun g1_33 => ?_) (fun g1_33 => ?_)
     ·
      try replace g1_33 := V.dec g1_33
      try simp only [V.mk0, V.mk1, V.mk2, V.mk3] at g1_33
      refine V.run T_ok 8 rfl ?_
      refine V.nil ?_
      refine V.tN ?_
      refine V.condY rfl rfl ?_
      refine V.seq ?_
      refine V.region ?_
      refine V.run T_ok 1 rfl ?_
      refine V.nil ?_
      refine V.tN ?_
      refine V.ret ?_
      refine V.tR ?_
      refine V.done rfl ?_
      exact ⟨congrArg Value.bool (by simp only [sameR]; grind), HG⟩
     ·
      try replace g1_33 := V.dec g1_33
      try simp only [V.mk0, V.mk1, V.mk2, V.mk3] at g1_33
      refine V.run T_ok 1 rfl ?_
      refine V.yes rfl rfl rfl ?_
      refine V.loadO T_ok Fk2 rfl rfl rfl rfl rfl ?_
      refine V.run T_ok 2 rfl ?_
      refine V.yes rfl rfl rfl ?_
      refine V.loadO T_ok Fk9 rfl rfl rfl rfl rfl ?_
      refine V.run T_ok 3 rfl ?_
      refine V.nil ?_
      refine V.tN ?_
      refine V.condT rfl (fun h1 => ?_) (fun h1 => ?_)
      ·
       try replace h1 := V.dec h1
       try simp only [V.mk0, V.mk1, V.mk2, V.mk3] at h1
       refine V.seq ?_
       refine V.region ?_
       refine V.run T_ok 1 rfl ?_
       refine V.nil ?_
       refine V.tN ?_
       refine V.ret ?_
       refine V.tR ?_
       refine V.done rfl ?_
       exact ⟨congrArg Value.bool (by simp only [sameR]; grind), HG⟩
      ·
       try replace h1 := V.dec h1
       try simp only [V.mk0, V.mk1, V.mk2, V.mk3] at h1
       refine V.skip ?_
       refine V.tN ?_
       refine V.seq ?_
       refine V.seq ?_
       refine V.region ?_
       refine V.run T_ok 1 rfl ?_
       refine V.nil ?_
       refine V.tN ?_
       refine V.block ?_
       have hl63 := F_o.len63
       refine V.loopM (fun m e v16 => Fr [] w v16 ∧ w10.heap.size ≤ v16.heap.size ∧ Sl V.Cod.write v16 D_o a_o c_o d.ws ∧ Sl V.Cod.write v16 D_q a_q c_q x.ws ∧ Cells v16 k1 [.int .i64 d.id, .int .i64 d.ep, .int .i64 d.st, .int .i64 d.aw, .int .i64 d.al, .int .i64 d.bw, .int .i64 d.bl, .slice a_o d.ws.length c_o] 27 ∧ Cells v16 k8 [.int .i64 x.id, .int .i64 x.ep, .int .i64 x.st, .int .i64 x.aw, .int .i64 x.al, .int .i64 x.bw, .int .i64 x.bl, .slice a_q x.ws.length c_q] 27 ∧ ∃ (i : Nat) , m = d.ws.length - i ∧ i ≤ d.ws.length ∧ (∀ j (hj : j < d.ws.length) (hj2 : j < x.ws.length), j < i → d.ws[j] = x.ws[j]) ∧ e 2 = .pointer (some ⟨k1, 0, none⟩) ∧ e 3 = .pointer (some ⟨k8, 0, none⟩) ∧ e 5 = .int .i64 (i : Int)) ?_ ?_
       ·
        exact ⟨_, HG, (by omega), F_o, F_q, Fk2, Fk9, (0), rfl, (by omega), (fun j hj hj2 h => absurd h (Nat.not_lt_zero _)), rfl, rfl, rfl⟩
       clear HG F_o F_q Fk2 Fk9
       rintro _ e v16 ⟨HG, z17, F_o, F_q, Fk2, Fk9, i, rfl, hi, hno, he0_2, he0_3, he0_5⟩
       refine V.knownC (t := 2) he0_2 ?_
       refine V.knownC (t := 3) he0_3 ?_
       refine V.knownC (t := 5) he0_5 ?_
       refine V.seq ?_
       refine V.seq ?_
       refine V.region ?_
       refine V.run T_ok 2 rfl ?_
       refine V.loadO T_ok Fk2 rfl rfl rfl rfl rfl ?_
       refine V.run T_ok 2 rfl ?_
       refine V.nil ?_
       refine V.tN ?_
       refine V.condT rfl (fun h4 => ?_) (fun h4 => ?_)
       ·
        try replace h4 := V.dec h4
        try simp only [V.mk0, V.mk1, V.mk2, V.mk3] at h4
        refine V.skip ?_
        refine V.tN ?_
        refine V.seq ?_
        refine V.block ?_
        refine V.seq ?_
        refine V.drawQ mixed (by kernel_rfl) ?_
        refine V.qrun T_ok 1 rfl ?_
        refine V.qloadO T_ok Fk2 rfl rfl rfl rfl rfl ?_
        refine V.qrun T_ok 1 rfl ?_
        refine V.qelem T_ok F_o rfl rfl sz49 rfl rfl rfl rfl (by first | omega | (simp only [List.length_take, List.length_drop, List.length_append, List.length_cons, List.length_nil, List.length_replicate, List.length_set, V.length_data, V.S_size]; omega)) (by first | omega | (simp only [List.length_take, List.length_drop, List.length_append, List.length_cons, List.length_nil, List.length_replicate, List.length_set, V.length_data, V.S_size]; omega)) ?_
        rintro b18 o19 cs20 hx21 hb22 hR25 hA23
        obtain ⟨x24, hx24⟩ : ∃ z', d.ws[((i : Int)).toNat] = z' := ⟨_, rfl⟩
        rw [hx24] at hR25
        obtain ⟨_, _, rfl, rfl, rfl⟩ := hR25
        try simp only [Int.toNat_natCast] at hx24 hx21
        refine V.qloadA T_ok (o0 := o19) (off := 0) hA23 rfl rfl rfl rfl rfl ?_
        refine V.qrun T_ok 1 rfl ?_
        refine V.qloadO T_ok Fk9 rfl rfl rfl rfl rfl ?_
        refine V.qrun T_ok 1 rfl ?_
        refine V.qelem T_ok F_q rfl rfl sz49 rfl rfl rfl rfl (by first | omega | (simp only [List.length_take, List.length_drop, List.length_append, List.length_cons, List.length_nil, List.length_replicate, List.length_set, V.length_data, V.S_size]; omega)) (by first | omega | (simp only [List.length_take, List.length_drop, List.length_append, List.length_cons, List.length_nil, List.length_replicate, List.length_set, V.length_data, V.S_size]; omega)) ?_
        rintro b26 o27 cs28 hx29 hb30 hR33 hA31
        obtain ⟨x32, hx32⟩ : ∃ z', x.ws[((i : Int)).toNat] = z' := ⟨_, rfl⟩
        rw [hx32] at hR33
        obtain ⟨_, _, rfl, rfl, rfl⟩ := hR33
        try simp only [Int.toNat_natCast] at hx32 hx29
        refine V.qloadA T_ok (o0 := o27) (off := 0) hA31 rfl rfl rfl rfl rfl ?_
        refine V.qstep rfl rfl (fun _ _ => V.neA_run rfl rfl rfl eqG49 (eqS49 _)) ?_
        refine V.qnil ?_
        rintro w34 G35
        have z36 := V.Fr.size G35
        try replace F_o := F_o.gr G35
        try replace F_q := F_q.gr G35
        try replace Fk2 := Fk2.gr G35
        try replace Fk9 := Fk9.gr G35
        replace HG := HG.grow G35
        clear G35
        refine V.tN ?_
        refine V.condT rfl (fun h6 => ?_) (fun h6 => ?_)
        ·
         try replace h6 := V.dec h6
         try simp only [V.mk0, V.mk1, V.mk2, V.mk3] at h6
         refine V.seq ?_
         refine V.region ?_
         refine V.run T_ok 1 rfl ?_
         refine V.nil ?_
         refine V.tN ?_
         refine V.ret ?_
         refine V.bR ?_
         refine V.tR ?_
         refine V.tR ?_
         refine V.bR ?_
         refine V.tR ?_
         refine V.done rfl ?_
         exact ⟨congrArg Value.bool (by have hne : d.ws ≠ x.ws := (fun h => by subst_vars; simp only [h] at h6; simp at h6); simp only [sameR]; grind), HG⟩
        ·
         try replace h6 := V.dec h6
         try simp only [V.mk0, V.mk1, V.mk2, V.mk3] at h6
         refine V.skip ?_
         refine V.bN ?_
         refine V.tN ?_
         refine V.region ?_
         refine V.run T_ok 1 rfl ?_
         refine V.addN rfl rfl rfl rfl rfl (by first | omega | (simp only [List.length_take, List.length_drop, List.length_append, List.length_cons, List.length_nil, List.length_replicate, List.length_set, V.length_data, V.S_size]; omega)) (by first | omega | (simp only [List.length_take, List.length_drop, List.length_append, List.length_cons, List.length_nil, List.length_replicate, List.length_set, V.length_data, V.S_size]; omega)) ?_
         refine V.run T_ok 1 rfl ?_
         refine V.nil ?_
         refine V.tN ?_
         exact ⟨_, (by omega), HG, (by omega), F_o, F_q, Fk2, Fk9, (i + 1), rfl, (by omega), (fun j hj hj2 h => by rcases Nat.lt_or_ge j i with h2 | h2; exact hno j hj hj2 h2; obtain rfl : j = i := (by omega); subst_vars; grind), rfl, rfl, rfl⟩
       ·
        try replace h4 := V.dec h4
        try simp only [V.mk0, V.mk1, V.mk2, V.mk3] at h4
        refine V.exit ?_
        refine V.tX ?_
        refine V.tX ?_
        refine V.bE ?_
        refine V.tN ?_
        refine V.seq ?_
        refine V.region ?_
        refine V.run T_ok 1 rfl ?_
        refine V.nil ?_
        refine V.tN ?_
        refine V.ret ?_
        refine V.done rfl ?_
        exact ⟨congrArg Value.bool (by have heq : d.ws = x.ws := List.ext_getElem (by omega) fun j h1 h2 => hno j h1 h2 (by omega); simp only [sameR]; grind), HG⟩

end Go.Proofs.Ytaokenlcjkomhaa
