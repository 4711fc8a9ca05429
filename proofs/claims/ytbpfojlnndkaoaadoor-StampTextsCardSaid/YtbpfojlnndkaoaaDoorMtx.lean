/- Proved here: walks: what functions of this seat's program return and what they leave of memory, each as a contract. Conditions: stated at each theorem. -/
import Derived.Test.YtbpfojlnndkaoaaDoorMito
namespace Go.Proofs.YtbpfojlnndkaoaaDoor
set_option linter.unusedVariables false
set_option linter.unusedSimpArgs false
open Go
open V (Bytes Meets Env Sl Own Gr Fr Cells S)

theorem tx_eq (a b c d : Int) : (decide (S (txtB a b) = S (txtB c d)) == ((decide (a = c)) && ((decide (b = d)) && (true)))) = true := by
  rw [Bool.beq_eq_decide_eq, decide_eq_true_eq, Bool.eq_iff_iff]
  simp [V.S_inj, txt_inj]
theorem byte46 {x : UInt8} : (x.toNat : Int) = 46 ↔ x = 46 := by
  constructor
  · intro h; exact UInt8.toNat_inj.1 (by simp; omega)
  · rintro rfl; rfl

set_option maxHeartbeats 400000 in
set_option maxRecDepth 10000 in
theorem stampTells_walk {w : World}  {a : Int} {b : Int} {c : Int} {d : Int} {ticks : Int} (ha : -9223372036854775808 ≤ a ∧ a ≤ 9223372036854775807) (hb : -9223372036854775808 ≤ b ∧ b ≤ 9223372036854775807) (hc : -9223372036854775808 ≤ c ∧ c ≤ 9223372036854775807) (hd : -9223372036854775808 ≤ d ∧ d ≤ 9223372036854775807) (FT : Tb w) :
    Meets Tryd.prog 6 [.agg #[.int .i64 a, .int .i64 b], .agg #[.int .i64 c, .int .i64 d], .int .i64 ticks] w fun r w' => r = .bool true ∧ Gr w w' := by
 have h0s := FT.at0
 have HG := V.Fr.refl [] w
 refine V.enter (n := 86) Tryd.func6 rfl rfl (by decide) rfl ?_
 refine V.seq ?_
 refine V.region ?_
 refine V.box rfl rfl rfl rfl ?_
 rintro k1 w3 s5 s6 G4 Fk2
 have z7 := V.Fr.size G4
 try replace FT := FT.gr G4
 replace HG := HG.grow G4
 clear G4
 try simp only [V.cellsL, V.spliceL] at Fk2
 refine V.box rfl rfl rfl rfl ?_
 rintro k8 w10 s12 s13 G11 Fk9
 have z14 := V.Fr.size G11
 try replace FT := FT.gr G11
 try replace Fk2 := Fk2.gr G11
 replace HG := HG.grow G11
 clear G11
 try simp only [V.cellsL, V.spliceL] at Fk9
 refine V.run T_ok 1 rfl ?_
 refine V.nil ?_
 refine V.tN ?_
 refine V.seq ?_
 refine V.region ?_
 refine V.run T_ok 1 rfl ?_
 refine V.nil ?_
 refine V.tN ?_
 refine V.seq ?_
 refine V.seq ?_
 refine V.region ?_
 refine V.loadO T_ok Fk2 rfl rfl rfl rfl rfl ?_
 refine V.loadO T_ok Fk9 rfl rfl rfl rfl rfl ?_
 refine V.call (rless_spec (a := a) (b := b) (c := c) (d := d)) rfl rfl rfl ?_
 rintro _ w15 ⟨rfl, G16⟩
 have z17 := V.Fr.size G16
 try replace FT := FT.gr G16
 try replace Fk2 := Fk2.gr G16
 try replace Fk9 := Fk9.gr G16
 replace HG := HG.grow G16
 clear G16
 refine V.nil ?_
 refine V.tN ?_
 refine V.condT rfl (fun h2 => ?_) (fun h2 => ?_)
 ·
  try replace h2 := V.dec h2
  try simp only [V.mk0, V.mk1, V.mk2, V.mk3] at h2
  refine V.region ?_
  refine V.run T_ok 1 rfl ?_
  refine V.nil ?_
  refine V.tN ?_
  refine V.seq ?_
  refine V.seq ?_
  refine V.region ?_
  refine V.loadO T_ok Fk9 rfl rfl rfl rfl rfl ?_
  refine V.loadO T_ok Fk2 rfl rfl rfl rfl rfl ?_
  refine V.call (rless_spec (a := c) (b := d) (c := a) (d := b)) rfl rfl rfl ?_
  rintro _ w18 ⟨rfl, G19⟩
  have z20 := V.Fr.size G19
  try replace FT := FT.gr G19
  try replace Fk2 := Fk2.gr G19
  try replace Fk9 := Fk9.gr G19
  replace HG := HG.grow G19
  clear G19
  refine V.nil ?_
  refine V.tN ?_
  refine V.condT rfl (fun h4 => ?_) (fun h4 => ?_)
  ·
   try replace h4 := V.dec h4
   try simp only [V.mk0, V.mk1, V.mk2, V.mk3] at h4
   refine V.region ?_
   refine V.run T_ok 1 rfl ?_
   refine V.nil ?_
   refine V.tN ?_
   refine V.seq ?_
   refine V.region ?_
   refine V.loadO T_ok Fk2 rfl rfl rfl rfl rfl ?_
   refine V.call (snext_spec (a := a) (b := b)) rfl rfl rfl ?_
   rintro _ w21 ⟨rfl, G22⟩
   have z23 := V.Fr.size G22
   try replace FT := FT.gr G22
   try replace Fk2 := Fk2.gr G22
   try replace Fk9 := Fk9.gr G22
   replace HG := HG.grow G22
   clear G22
   refine V.run T_ok 3 rfl ?_
   refine V.alloc zero23 rfl rfl rfl ?_
   rintro k24 w26 s28 s29 G27 Fk25
   have z30 := V.Fr.size G27
   try replace FT := FT.gr G27
   try replace Fk2 := Fk2.gr G27
   try replace Fk9 := Fk9.gr G27
   replace HG := HG.grow G27
   clear G27
   try simp only [V.cellsL, V.spliceL] at Fk25
   refine V.storeO Fk25 rfl rfl rfl rfl sz23 rfl rfl rfl rfl ?_
   rintro w31 G32 z34 Fs33
   clear Fk25
   have z35 := V.Fr.size G32
   first | replace FT := FT.mv1 G32 (by first | exact ⟨by omega, by assumption⟩ | exact ⟨by omega, fun h => absurd h.1 (by assumption)⟩ | exact ⟨by omega, fun h => absurd h.1.1 (by assumption)⟩ | exact ⟨by omega, fun h => by first | (have h2 := h.1; have h3 := h.2; omega) | (have h2 := h; dsimp only at h2; omega)⟩ | first | omega | exact fun h => h | exact ⟨by omega, fun h => h⟩ | (intro h; first | (have := hD _ h; omega)) | (refine ⟨by omega, ?_⟩; intro h; first | (have := hD _ h; omega))) | clear FT | skip
   first | replace Fk2 := Fk2.mv1 G32 (by omega) | clear Fk2 | skip
   first | replace Fk9 := Fk9.mv1 G32 (by omega) | clear Fk9 | skip
   replace HG := HG.n1 G32
   clear G32
   have Fk25 := Fs33; clear Fs33
   simp only [V.spliceL, V.cellsL] at Fk25
   refine V.run T_ok 1 rfl ?_
   refine V.nil ?_
   refine V.tN ?_
   refine V.seq ?_
   refine V.region ?_
   refine V.loadO T_ok Fk2 rfl rfl rfl rfl rfl ?_
   refine V.call (rsnext_spec (a := a) (b := b)) rfl rfl rfl ?_
   rintro _ w36 ⟨rfl, G37⟩
   have z38 := V.Fr.size G37
   try replace FT := FT.gr G37
   try replace Fk2 := Fk2.gr G37
   try replace Fk9 := Fk9.gr G37
   try replace Fk25 := Fk25.gr G37
   replace HG := HG.grow G37
   clear G37
   refine V.run T_ok 3 rfl ?_
   refine V.alloc zero23 rfl rfl rfl ?_
   rintro k39 w41 s43 s44 G42 Fk40
   have z45 := V.Fr.size G42
   try replace FT := FT.gr G42
   try replace Fk2 := Fk2.gr G42
   try replace Fk9 := Fk9.gr G42
   try replace Fk25 := Fk25.gr G42
   replace HG := HG.grow G42
   clear G42
   try simp only [V.cellsL, V.spliceL] at Fk40
   refine V.storeO Fk40 rfl rfl rfl rfl sz23 rfl rfl rfl rfl ?_
   rintro w46 G47 z49 Fs48
   clear Fk40
   have z50 := V.Fr.size G47
   first | replace FT := FT.mv1 G47 (by first | exact ⟨by omega, by assumption⟩ | exact ⟨by omega, fun h => absurd h.1 (by assumption)⟩ | exact ⟨by omega, fun h => absurd h.1.1 (by assumption)⟩ | exact ⟨by omega, fun h => by first | (have h2 := h.1; have h3 := h.2; omega) | (have h2 := h; dsimp only at h2; omega)⟩ | first | omega | exact fun h => h | exact ⟨by omega, fun h => h⟩ | (intro h; first | (have := hD _ h; omega)) | (refine ⟨by omega, ?_⟩; intro h; first | (have := hD _ h; omega))) | clear FT | skip
   first | replace Fk2 := Fk2.mv1 G47 (by omega) | clear Fk2 | skip
   first | replace Fk9 := Fk9.mv1 G47 (by omega) | clear Fk9 | skip
   first | replace Fk25 := Fk25.mv1 G47 (by omega) | clear Fk25 | skip
   replace HG := HG.n1 G47
   clear G47
   have Fk40 := Fs48; clear Fs48
   simp only [V.spliceL, V.cellsL] at Fk40
   refine V.run T_ok 1 rfl ?_
   refine V.nil ?_
   refine V.tN ?_
   refine V.seq ?_
   refine V.drawQ mixed (by kernel_rfl) ?_
   refine V.qcall V.clo (fun w1 g => (alive_spec)) rfl rfl rfl ?_
   refine V.qrun T_ok 1 rfl ?_
   refine V.qyes rfl rfl rfl ?_
   refine V.qloadO T_ok Fk2 rfl rfl rfl rfl rfl ?_
   refine V.qyes rfl rfl rfl ?_
   refine V.qcall V.clo (fun w1 g => (right_spec (a := a) (b := b))) rfl rfl rfl ?_
   refine V.qyes rfl rfl rfl ?_
   refine V.qloadO T_ok Fk2 rfl rfl rfl rfl rfl ?_
   refine V.qyes rfl rfl rfl ?_
   refine V.qcall V.clo (fun w1 g => (rright_spec (a := a) (b := b))) rfl rfl rfl ?_
   refine V.qrun T_ok 3 rfl ?_
   refine V.qsplitT (j := 8) (t := 36) rfl rfl (by (first | rfl | (simp; done) | (unfold cmpS cmpI; grind) | grind)) ?_
   refine V.qyes rfl rfl rfl ?_
   refine V.qloadO T_ok Fk2 rfl rfl rfl rfl rfl ?_
   refine V.qyes rfl rfl rfl ?_
   refine V.qloadO T_ok Fk9 rfl rfl rfl rfl rfl ?_
   refine V.qyes rfl rfl rfl ?_
   refine V.qcall V.clo (fun w1 g => (compare_spec (a := a) (b := b) (c := c) (d := d))) rfl rfl rfl ?_
   refine V.qrun T_ok 4 rfl ?_
   refine V.qsplitT (j := 15) (t := 43) rfl rfl (by (first | rfl | (simp; done) | (unfold cmpS cmpI; grind) | grind)) ?_
   refine V.qyes rfl rfl rfl ?_
   refine V.qloadO T_ok Fk2 rfl rfl rfl rfl rfl ?_
   refine V.qyes rfl rfl rfl ?_
   refine V.qloadO T_ok Fk9 rfl rfl rfl rfl rfl ?_
   refine V.qyes rfl rfl rfl ?_
   refine V.qcall V.clo (fun w1 g => (less_spec (a := a) (b := b) (c := c) (d := d))) rfl rfl rfl ?_
   refine V.qrun T_ok 5 rfl ?_
   refine V.qsplitT (j := 23) (t := 51) rfl rfl (by (first | rfl | (simp; done) | (unfold cmpS cmpI; grind) | grind)) ?_
   refine V.qyes rfl rfl rfl ?_
   refine V.qloadO T_ok Fk2 rfl rfl rfl rfl rfl ?_
   refine V.qyes rfl rfl rfl ?_
   refine V.qloadO T_ok Fk9 rfl rfl rfl rfl rfl ?_
   refine V.qyes rfl rfl rfl ?_
   refine V.qcall V.clo (fun w1 g => (max_spec (a := a) (b := b) (c := c) (d := d))) rfl rfl rfl ?_
   refine V.qyes rfl rfl rfl ?_
   refine V.qloadO T_ok Fk2 rfl rfl rfl rfl rfl ?_
   refine V.qyes rfl rfl rfl ?_
   refine V.qloadO T_ok Fk9 rfl rfl rfl rfl rfl ?_
   refine V.qyes rfl rfl rfl ?_
   refine V.qcall V.clo (fun w1 g => (rmax_spec (a := a) (b := b) (c := c) (d := d))) rfl rfl rfl ?_
   refine V.qyes rfl rfl rfl ?_
   refine V.qstep rfl rfl (fun _ _ => V.eqA_run rfl rfl rfl eqG23 (eqS23 _)) ?_
   refine V.qrun T_ok 2 rfl ?_
   refine V.qsplitT (j := 32) (t := 60) rfl rfl (by (first | rfl | (simp; done) | (unfold cmpS cmpI; grind) | grind)) ?_
   refine V.qyes rfl rfl rfl ?_
   refine V.qloadO T_ok Fk25 rfl rfl rfl rfl rfl ?_
   refine V.qyes rfl rfl rfl ?_
   refine V.qloadO T_ok Fk40 rfl rfl rfl rfl rfl ?_
   refine V.qyes rfl rfl rfl ?_
   refine V.qstep rfl rfl (fun _ _ => V.eqA_run rfl rfl rfl eqG23 (eqS23 _)) ?_
   refine V.qrun T_ok 2 rfl ?_
   refine V.qsplitT (j := 37) (t := 65) rfl rfl (by (first | rfl | (simp; done) | (unfold cmpS cmpI; grind) | grind)) ?_
   refine V.qrun T_ok 5 rfl ?_
   refine V.qsplitT (j := 42) (t := 70) rfl rfl (by (first | rfl | (simp; done) | (unfold cmpS cmpI; grind) | grind)) ?_
   refine V.qyes rfl rfl rfl ?_
   refine V.qloadO T_ok Fk2 rfl rfl rfl rfl rfl ?_
   refine V.qrun T_ok 1 rfl ?_
   refine V.qyes rfl rfl rfl ?_
   refine V.qcall V.clo (fun w1 g => (plus_spec (a := a) (b := b) (t := ticks))) rfl rfl rfl ?_
   refine V.qyes rfl rfl rfl ?_
   refine V.qloadO T_ok Fk2 rfl rfl rfl rfl rfl ?_
   refine V.qrun T_ok 1 rfl ?_
   refine V.qyes rfl rfl rfl ?_
   refine V.qcall V.clo (fun w1 g => (rplus_spec (a := a) (b := b) (t := ticks))) rfl rfl rfl ?_
   refine V.qyes rfl rfl rfl ?_
   refine V.qstep rfl rfl (fun _ _ => V.eqA_run rfl rfl rfl eqG23 (eqS23 _)) ?_
   refine V.qrun T_ok 2 rfl ?_
   refine V.qsplitT (j := 51) (t := 79) rfl rfl (by (first | rfl | (simp; done) | (unfold cmpS cmpI; grind) | grind)) ?_
   refine V.qyes rfl rfl rfl ?_
   refine V.qloadO T_ok Fk2 rfl rfl rfl rfl rfl ?_
   refine V.qyes rfl rfl rfl ?_
   refine V.qcall V.clo (fun w1 g => (text_spec (a := a) (b := b) (by omega) (by omega) (FT.gr g))) rfl rfl rfl ?_
   refine V.qyes rfl rfl rfl ?_
   refine V.qloadO T_ok Fk2 rfl rfl rfl rfl rfl ?_
   refine V.qyes rfl rfl rfl ?_
   refine V.qcall V.clo (fun w1 g => (rtext_spec (a := a) (b := b) (by omega) (by omega))) rfl rfl rfl ?_
   refine V.qrun T_ok 3 rfl ?_
   refine V.qnil ?_
   rintro w51 G52
   have z53 := V.Fr.size G52
   try replace FT := FT.gr G52
   try replace Fk2 := Fk2.gr G52
   try replace Fk9 := Fk9.gr G52
   try replace Fk25 := Fk25.gr G52
   try replace Fk40 := Fk40.gr G52
   replace HG := HG.grow G52
   clear G52
   refine V.tN ?_
   refine V.ret ?_
   refine V.done rfl ?_
   exact ⟨congrArg Value.bool (by simp), HG⟩
  ·
   try replace h4 := V.dec h4
   try simp only [V.mk0, V.mk1, V.mk2, V.mk3] at h4
   refine V.skip ?_
   refine V.tN ?_
   refine V.seq ?_
   refine V.region ?_
   refine V.loadO T_ok Fk2 rfl rfl rfl rfl rfl ?_
   refine V.call (snext_spec (a := a) (b := b)) rfl rfl rfl ?_
   rintro _ w54 ⟨rfl, G55⟩
   have z56 := V.Fr.size G55
   try replace FT := FT.gr G55
   try replace Fk2 := Fk2.gr G55
   try replace Fk9 := Fk9.gr G55
   replace HG := HG.grow G55
   clear G55
   refine V.run T_ok 3 rfl ?_
   refine V.alloc zero23 rfl rfl rfl ?_
   rintro k57 w59 s61 s62 G60 Fk58
   have z63 := V.Fr.size G60
   try replace FT := FT.gr G60
   try replace Fk2 := Fk2.gr G60
   try replace Fk9 := Fk9.gr G60
   replace HG := HG.grow G60
   clear G60
   try simp only [V.cellsL, V.spliceL] at Fk58
   refine V.storeO Fk58 rfl rfl rfl rfl sz23 rfl rfl rfl rfl ?_
   rintro w64 G65 z67 Fs66
   clear Fk58
   have z68 := V.Fr.size G65
   first | replace FT := FT.mv1 G65 (by first | exact ⟨by omega, by assumption⟩ | exact ⟨by omega, fun h => absurd h.1 (by assumption)⟩ | exact ⟨by omega, fun h => absurd h.1.1 (by assumption)⟩ | exact ⟨by omega, fun h => by first | (have h2 := h.1; have h3 := h.2; omega) | (have h2 := h; dsimp only at h2; omega)⟩ | first | omega | exact fun h => h | exact ⟨by omega, fun h => h⟩ | (intro h; first | (have := hD _ h; omega)) | (refine ⟨by omega, ?_⟩; intro h; first | (have := hD _ h; omega))) | clear FT | skip
   first | replace Fk2 := Fk2.mv1 G65 (by omega) | clear Fk2 | skip
   first | replace Fk9 := Fk9.mv1 G65 (by omega) | clear Fk9 | skip
   replace HG := HG.n1 G65
   clear G65
   have Fk58 := Fs66; clear Fs66
   simp only [V.spliceL, V.cellsL] at Fk58
   refine V.run T_ok 1 rfl ?_
   refine V.nil ?_
   refine V.tN ?_
   refine V.seq ?_
   refine V.region ?_
   refine V.loadO T_ok Fk2 rfl rfl rfl rfl rfl ?_
   refine V.call (rsnext_spec (a := a) (b := b)) rfl rfl rfl ?_
   rintro _ w69 ⟨rfl, G70⟩
   have z71 := V.Fr.size G70
   try replace FT := FT.gr G70
   try replace Fk2 := Fk2.gr G70
   try replace Fk9 := Fk9.gr G70
   try replace Fk58 := Fk58.gr G70
   replace HG := HG.grow G70
   clear G70
   refine V.run T_ok 3 rfl ?_
   refine V.alloc zero23 rfl rfl rfl ?_
   rintro k72 w74 s76 s77 G75 Fk73
   have z78 := V.Fr.size G75
   try replace FT := FT.gr G75
   try replace Fk2 := Fk2.gr G75
   try replace Fk9 := Fk9.gr G75
   try replace Fk58 := Fk58.gr G75
   replace HG := HG.grow G75
   clear G75
   try simp only [V.cellsL, V.spliceL] at Fk73
   refine V.storeO Fk73 rfl rfl rfl rfl sz23 rfl rfl rfl rfl ?_
   rintro w79 G80 z82 Fs81
   clear Fk73
   have z83 := V.Fr.size G80
   first | replace FT := FT.mv1 G80 (by first | exact ⟨by omega, by assumption⟩ | exact ⟨by omega, fun h => absurd h.1 (by assumption)⟩ | exact ⟨by omega, fun h => absurd h.1.1 (by assumption)⟩ | exact ⟨by omega, fun h => by first | (have h2 := h.1; have h3 := h.2; omega) | (have h2 := h; dsimp only at h2; omega)⟩ | first | omega | exact fun h => h | exact ⟨by omega, fun h => h⟩ | (intro h; first | (have := hD _ h; omega)) | (refine ⟨by omega, ?_⟩; intro h; first | (have := hD _ h; omega))) | clear FT | skip
   first | replace Fk2 := Fk2.mv1 G80 (by omega) | clear Fk2 | skip
   first | replace Fk9 := Fk9.mv1 G80 (by omega) | clear Fk9 | skip
   first | replace Fk58 := Fk58.mv1 G80 (by omega) | clear Fk58 | skip
   replace HG := HG.n1 G80
   clear G80
   have Fk73 := Fs81; clear Fs81
   simp only [V.spliceL, V.cellsL] at Fk73
   refine V.run T_ok 1 rfl ?_
   refine V.nil ?_
   refine V.tN ?_
   refine V.seq ?_
   refine V.drawQ mixed (by kernel_rfl) ?_
   refine V.qcall V.clo (fun w1 g => (alive_spec)) rfl rfl rfl ?_
   refine V.qrun T_ok 1 rfl ?_
   refine V.qyes rfl rfl rfl ?_
   refine V.qloadO T_ok Fk2 rfl rfl rfl rfl rfl ?_
   refine V.qyes rfl rfl rfl ?_
   refine V.qcall V.clo (fun w1 g => (right_spec (a := a) (b := b))) rfl rfl rfl ?_
   refine V.qyes rfl rfl rfl ?_
   refine V.qloadO T_ok Fk2 rfl rfl rfl rfl rfl ?_
   refine V.qyes rfl rfl rfl ?_
   refine V.qcall V.clo (fun w1 g => (rright_spec (a := a) (b := b))) rfl rfl rfl ?_
   refine V.qrun T_ok 3 rfl ?_
   refine V.qsplitT (j := 8) (t := 36) rfl rfl (by (first | rfl | (simp; done) | (unfold cmpS cmpI; grind) | grind)) ?_
   refine V.qyes rfl rfl rfl ?_
   refine V.qloadO T_ok Fk2 rfl rfl rfl rfl rfl ?_
   refine V.qyes rfl rfl rfl ?_
   refine V.qloadO T_ok Fk9 rfl rfl rfl rfl rfl ?_
   refine V.qyes rfl rfl rfl ?_
   refine V.qcall V.clo (fun w1 g => (compare_spec (a := a) (b := b) (c := c) (d := d))) rfl rfl rfl ?_
   refine V.qrun T_ok 4 rfl ?_
   refine V.qsplitT (j := 15) (t := 43) rfl rfl (by (first | rfl | (simp; done) | (unfold cmpS cmpI; grind) | grind)) ?_
   refine V.qyes rfl rfl rfl ?_
   refine V.qloadO T_ok Fk2 rfl rfl rfl rfl rfl ?_
   refine V.qyes rfl rfl rfl ?_
   refine V.qloadO T_ok Fk9 rfl rfl rfl rfl rfl ?_
   refine V.qyes rfl rfl rfl ?_
   refine V.qcall V.clo (fun w1 g => (less_spec (a := a) (b := b) (c := c) (d := d))) rfl rfl rfl ?_
   refine V.qrun T_ok 5 rfl ?_
   refine V.qsplitT (j := 23) (t := 51) rfl rfl (by (first | rfl | (simp; done) | (unfold cmpS cmpI; grind) | grind)) ?_
   refine V.qyes rfl rfl rfl ?_
   refine V.qloadO T_ok Fk2 rfl rfl rfl rfl rfl ?_
   refine V.qyes rfl rfl rfl ?_
   refine V.qloadO T_ok Fk9 rfl rfl rfl rfl rfl ?_
   refine V.qyes rfl rfl rfl ?_
   refine V.qcall V.clo (fun w1 g => (max_spec (a := a) (b := b) (c := c) (d := d))) rfl rfl rfl ?_
   refine V.qyes rfl rfl rfl ?_
   refine V.qloadO T_ok Fk2 rfl rfl rfl rfl rfl ?_
   refine V.qyes rfl rfl rfl ?_
   refine V.qloadO T_ok Fk9 rfl rfl rfl rfl rfl ?_
   refine V.qyes rfl rfl rfl ?_
   refine V.qcall V.clo (fun w1 g => (rmax_spec (a := a) (b := b) (c := c) (d := d))) rfl rfl rfl ?_
   refine V.qyes rfl rfl rfl ?_
   refine V.qstep rfl rfl (fun _ _ => V.eqA_run rfl rfl rfl eqG23 (eqS23 _)) ?_
   refine V.qrun T_ok 2 rfl ?_
   refine V.qsplitT (j := 32) (t := 60) rfl rfl (by (first | rfl | (simp; done) | (unfold cmpS cmpI; grind) | grind)) ?_
   refine V.qyes rfl rfl rfl ?_
   refine V.qloadO T_ok Fk58 rfl rfl rfl rfl rfl ?_
   refine V.qyes rfl rfl rfl ?_
   refine V.qloadO T_ok Fk73 rfl rfl rfl rfl rfl ?_
   refine V.qyes rfl rfl rfl ?_
   refine V.qstep rfl rfl (fun _ _ => V.eqA_run rfl rfl rfl eqG23 (eqS23 _)) ?_
   refine V.qrun T_ok 2 rfl ?_
   refine V.qsplitT (j := 37) (t := 65) rfl rfl (by (first | rfl | (simp; done) | (unfold cmpS cmpI; grind) | grind)) ?_
   refine V.qrun T_ok 5 rfl ?_
   refine V.qsplitT (j := 42) (t := 70) rfl rfl (by (first | rfl | (simp; done) | (unfold cmpS cmpI; grind) | grind)) ?_
   refine V.qyes rfl rfl rfl ?_
   refine V.qloadO T_ok Fk2 rfl rfl rfl rfl rfl ?_
   refine V.qrun T_ok 1 rfl ?_
   refine V.qyes rfl rfl rfl ?_
   refine V.qcall V.clo (fun w1 g => (plus_spec (a := a) (b := b) (t := ticks))) rfl rfl rfl ?_
   refine V.qyes rfl rfl rfl ?_
   refine V.qloadO T_ok Fk2 rfl rfl rfl rfl rfl ?_
   refine V.qrun T_ok 1 rfl ?_
   refine V.qyes rfl rfl rfl ?_
   refine V.qcall V.clo (fun w1 g => (rplus_spec (a := a) (b := b) (t := ticks))) rfl rfl rfl ?_
   refine V.qyes rfl rfl rfl ?_
   refine V.qstep rfl rfl (fun _ _ => V.eqA_run rfl rfl rfl eqG23 (eqS23 _)) ?_
   refine V.qrun T_ok 2 rfl ?_
   refine V.qsplitT (j := 51) (t := 79) rfl rfl (by (first | rfl | (simp; done) | (unfold cmpS cmpI; grind) | grind)) ?_
   refine V.qyes rfl rfl rfl ?_
   refine V.qloadO T_ok Fk2 rfl rfl rfl rfl rfl ?_
   refine V.qyes rfl rfl rfl ?_
   refine V.qcall V.clo (fun w1 g => (text_spec (a := a) (b := b) (by omega) (by omega) (FT.gr g))) rfl rfl rfl ?_
   refine V.qyes rfl rfl rfl ?_
   refine V.qloadO T_ok Fk2 rfl rfl rfl rfl rfl ?_
   refine V.qyes rfl rfl rfl ?_
   refine V.qcall V.clo (fun w1 g => (rtext_spec (a := a) (b := b) (by omega) (by omega))) rfl rfl rfl ?_
   refine V.qrun T_ok 3 rfl ?_
   refine V.qnil ?_
   rintro w84 G85
   have z86 := V.Fr.size G85
   try replace FT := FT.gr G85
   try replace Fk2 := Fk2.gr G85
   try replace Fk9 := Fk9.gr G85
   try replace Fk58 := Fk58.gr G85
   try replace Fk73 := Fk73.gr G85
   replace HG := HG.grow G85
   clear G85
   refine V.tN ?_
   refine V.ret ?_
   refine V.done rfl ?_
   exact ⟨congrArg Value.bool (by simp), HG⟩
 ·
  try replace h2 := V.dec h2
  try simp only [V.mk0, V.mk1, V.mk2, V.mk3] at h2
  refine V.skip ?_
  refine V.tN ?_
  refine V.seq ?_
  refine V.seq ?_
  refine V.region ?_
  refine V.loadO T_ok Fk9 rfl rfl rfl rfl rfl ?_
  refine V.loadO T_ok Fk2 rfl rfl rfl rfl rfl ?_
  refine V.call (rless_spec (a := c) (b := d) (c := a) (d := b)) rfl rfl rfl ?_
  rintro _ w87 ⟨rfl, G88⟩
  have z89 := V.Fr.size G88
  try replace FT := FT.gr G88
  try replace Fk2 := Fk2.gr G88
  try replace Fk9 := Fk9.gr G88
  replace HG := HG.grow G88
  clear G88
  refine V.nil ?_
  refine V.tN ?_
  refine V.condT rfl (fun h4 => ?_) (fun h4 => ?_)
  ·
   try replace h4 := V.dec h4
   try simp only [V.mk0, V.mk1, V.mk2, V.mk3] at h4
   refine V.region ?_
   refine V.run T_ok 1 rfl ?_
   refine V.nil ?_
   refine V.tN ?_
   refine V.seq ?_
   refine V.region ?_
   refine V.loadO T_ok Fk2 rfl rfl rfl rfl rfl ?_
   refine V.call (snext_spec (a := a) (b := b)) rfl rfl rfl ?_
   rintro _ w90 ⟨rfl, G91⟩
   have z92 := V.Fr.size G91
   try replace FT := FT.gr G91
   try replace Fk2 := Fk2.gr G91
   try replace Fk9 := Fk9.gr G91
   replace HG := HG.grow G91
   clear G91
   refine V.run T_ok 3 rfl ?_
   refine V.alloc zero23 rfl rfl rfl ?_
   rintro k93 w95 s97 s98 G96 Fk94
   have z99 := V.Fr.size G96
   try replace FT := FT.gr G96
   try replace Fk2 := Fk2.gr G96
   try replace Fk9 := Fk9.gr G96
   replace HG := HG.grow G96
   clear G96
   try simp only [V.cellsL, V.spliceL] at Fk94
   refine V.storeO Fk94 rfl rfl rfl rfl sz23 rfl rfl rfl rfl ?_
   rintro w100 G101 z103 Fs102
   clear Fk94
   have z104 := V.Fr.size G101
   first | replace FT := FT.mv1 G101 (by first | exact ⟨by omega, by assumption⟩ | exact ⟨by omega, fun h => absurd h.1 (by assumption)⟩ | exact ⟨by omega, fun h => absurd h.1.1 (by assumption)⟩ | exact ⟨by omega, fun h => by first | (have h2 := h.1; have h3 := h.2; omega) | (have h2 := h; dsimp only at h2; omega)⟩ | first | omega | exact fun h => h | exact ⟨by omega, fun h => h⟩ | (intro h; first | (have := hD _ h; omega)) | (refine ⟨by omega, ?_⟩; intro h; first | (have := hD _ h; omega))) | clear FT | skip
   first | replace Fk2 := Fk2.mv1 G101 (by omega) | clear Fk2 | skip
   first | replace Fk9 := Fk9.mv1 G101 (by omega) | clear Fk9 | skip
   replace HG := HG.n1 G101
   clear G101
   have Fk94 := Fs102; clear Fs102
   simp only [V.spliceL, V.cellsL] at Fk94
   refine V.run T_ok 1 rfl ?_
   refine V.nil ?_
   refine V.tN ?_
   refine V.seq ?_
   refine V.region ?_
   refine V.loadO T_ok Fk2 rfl rfl rfl rfl rfl ?_
   refine V.call (rsnext_spec (a := a) (b := b)) rfl rfl rfl ?_
   rintro _ w105 ⟨rfl, G106⟩
   have z107 := V.Fr.size G106
   try replace FT := FT.gr G106
   try replace Fk2 := Fk2.gr G106
   try replace Fk9 := Fk9.gr G106
   try replace Fk94 := Fk94.gr G106
   replace HG := HG.grow G106
   clear G106
   refine V.run T_ok 3 rfl ?_
   refine V.alloc zero23 rfl rfl rfl ?_
   rintro k108 w110 s112 s113 G111 Fk109
   have z114 := V.Fr.size G111
   try replace FT := FT.gr G111
   try replace Fk2 := Fk2.gr G111
   try replace Fk9 := Fk9.gr G111
   try replace Fk94 := Fk94.gr G111
   replace HG := HG.grow G111
   clear G111
   try simp only [V.cellsL, V.spliceL] at Fk109
   refine V.storeO Fk109 rfl rfl rfl rfl sz23 rfl rfl rfl rfl ?_
   rintro w115 G116 z118 Fs117
   clear Fk109
   have z119 := V.Fr.size G116
   first | replace FT := FT.mv1 G116 (by first | exact ⟨by omega, by assumption⟩ | exact ⟨by omega, fun h => absurd h.1 (by assumption)⟩ | exact ⟨by omega, fun h => absurd h.1.1 (by assumption)⟩ | exact ⟨by omega, fun h => by first | (have h2 := h.1; have h3 := h.2; omega) | (have h2 := h; dsimp only at h2; omega)⟩ | first | omega | exact fun h => h | exact ⟨by omega, fun h => h⟩ | (intro h; first | (have := hD _ h; omega)) | (refine ⟨by omega, ?_⟩; intro h; first | (have := hD _ h; omega))) | clear FT | skip
   first | replace Fk2 := Fk2.mv1 G116 (by omega) | clear Fk2 | skip
   first | replace Fk9 := Fk9.mv1 G116 (by omega) | clear Fk9 | skip
   first | replace Fk94 := Fk94.mv1 G116 (by omega) | clear Fk94 | skip
   replace HG := HG.n1 G116
   clear G116
   have Fk109 := Fs117; clear Fs117
   simp only [V.spliceL, V.cellsL] at Fk109
   refine V.run T_ok 1 rfl ?_
   refine V.nil ?_
   refine V.tN ?_
   refine V.seq ?_
   refine V.drawQ mixed (by kernel_rfl) ?_
   refine V.qcall V.clo (fun w1 g => (alive_spec)) rfl rfl rfl ?_
   refine V.qrun T_ok 1 rfl ?_
   refine V.qyes rfl rfl rfl ?_
   refine V.qloadO T_ok Fk2 rfl rfl rfl rfl rfl ?_
   refine V.qyes rfl rfl rfl ?_
   refine V.qcall V.clo (fun w1 g => (right_spec (a := a) (b := b))) rfl rfl rfl ?_
   refine V.qyes rfl rfl rfl ?_
   refine V.qloadO T_ok Fk2 rfl rfl rfl rfl rfl ?_
   refine V.qyes rfl rfl rfl ?_
   refine V.qcall V.clo (fun w1 g => (rright_spec (a := a) (b := b))) rfl rfl rfl ?_
   refine V.qrun T_ok 3 rfl ?_
   refine V.qsplitT (j := 8) (t := 36) rfl rfl (by (first | rfl | (simp; done) | (unfold cmpS cmpI; grind) | grind)) ?_
   refine V.qyes rfl rfl rfl ?_
   refine V.qloadO T_ok Fk2 rfl rfl rfl rfl rfl ?_
   refine V.qyes rfl rfl rfl ?_
   refine V.qloadO T_ok Fk9 rfl rfl rfl rfl rfl ?_
   refine V.qyes rfl rfl rfl ?_
   refine V.qcall V.clo (fun w1 g => (compare_spec (a := a) (b := b) (c := c) (d := d))) rfl rfl rfl ?_
   refine V.qrun T_ok 4 rfl ?_
   refine V.qsplitT (j := 15) (t := 43) rfl rfl (by (first | rfl | (simp; done) | (unfold cmpS cmpI; grind) | grind)) ?_
   refine V.qyes rfl rfl rfl ?_
   refine V.qloadO T_ok Fk2 rfl rfl rfl rfl rfl ?_
   refine V.qyes rfl rfl rfl ?_
   refine V.qloadO T_ok Fk9 rfl rfl rfl rfl rfl ?_
   refine V.qyes rfl rfl rfl ?_
   refine V.qcall V.clo (fun w1 g => (less_spec (a := a) (b := b) (c := c) (d := d))) rfl rfl rfl ?_
   refine V.qrun T_ok 5 rfl ?_
   refine V.qsplitT (j := 23) (t := 51) rfl rfl (by (first | rfl | (simp; done) | (unfold cmpS cmpI; grind) | grind)) ?_
   refine V.qyes rfl rfl rfl ?_
   refine V.qloadO T_ok Fk2 rfl rfl rfl rfl rfl ?_
   refine V.qyes rfl rfl rfl ?_
   refine V.qloadO T_ok Fk9 rfl rfl rfl rfl rfl ?_
   refine V.qyes rfl rfl rfl ?_
   refine V.qcall V.clo (fun w1 g => (max_spec (a := a) (b := b) (c := c) (d := d))) rfl rfl rfl ?_
   refine V.qyes rfl rfl rfl ?_
   refine V.qloadO T_ok Fk2 rfl rfl rfl rfl rfl ?_
   refine V.qyes rfl rfl rfl ?_
   refine V.qloadO T_ok Fk9 rfl rfl rfl rfl rfl ?_
   refine V.qyes rfl rfl rfl ?_
   refine V.qcall V.clo (fun w1 g => (rmax_spec (a := a) (b := b) (c := c) (d := d))) rfl rfl rfl ?_
   refine V.qyes rfl rfl rfl ?_
   refine V.qstep rfl rfl (fun _ _ => V.eqA_run rfl rfl rfl eqG23 (eqS23 _)) ?_
   refine V.qrun T_ok 2 rfl ?_
   refine V.qsplitT (j := 32) (t := 60) rfl rfl (by (first | rfl | (simp; done) | (unfold cmpS cmpI; grind) | grind)) ?_
   refine V.qyes rfl rfl rfl ?_
   refine V.qloadO T_ok Fk94 rfl rfl rfl rfl rfl ?_
   refine V.qyes rfl rfl rfl ?_
   refine V.qloadO T_ok Fk109 rfl rfl rfl rfl rfl ?_
   refine V.qyes rfl rfl rfl ?_
   refine V.qstep rfl rfl (fun _ _ => V.eqA_run rfl rfl rfl eqG23 (eqS23 _)) ?_
   refine V.qrun T_ok 2 rfl ?_
   refine V.qsplitT (j := 37) (t := 65) rfl rfl (by (first | rfl | (simp; done) | (unfold cmpS cmpI; grind) | grind)) ?_
   refine V.qrun T_ok 5 rfl ?_
   refine V.qsplitT (j := 42) (t := 70) rfl rfl (by (first | rfl | (simp; done) | (unfold cmpS cmpI; grind) | grind)) ?_
   refine V.qyes rfl rfl rfl ?_
   refine V.qloadO T_ok Fk2 rfl rfl rfl rfl rfl ?_
   refine V.qrun T_ok 1 rfl ?_
   refine V.qyes rfl rfl rfl ?_
   refine V.qcall V.clo (fun w1 g => (plus_spec (a := a) (b := b) (t := ticks))) rfl rfl rfl ?_
   refine V.qyes rfl rfl rfl ?_
   refine V.qloadO T_ok Fk2 rfl rfl rfl rfl rfl ?_
   refine V.qrun T_ok 1 rfl ?_
   refine V.qyes rfl rfl rfl ?_
   refine V.qcall V.clo (fun w1 g => (rplus_spec (a := a) (b := b) (t := ticks))) rfl rfl rfl ?_
   refine V.qyes rfl rfl rfl ?_
   refine V.qstep rfl rfl (fun _ _ => V.eqA_run rfl rfl rfl eqG23 (eqS23 _)) ?_
   refine V.qrun T_ok 2 rfl ?_
   refine V.qsplitT (j := 51) (t := 79) rfl rfl (by (first | rfl | (simp; done) | (unfold cmpS cmpI; grind) | grind)) ?_
   refine V.qyes rfl rfl rfl ?_
   refine V.qloadO T_ok Fk2 rfl rfl rfl rfl rfl ?_
   refine V.qyes rfl rfl rfl ?_
   refine V.qcall V.clo (fun w1 g => (text_spec (a := a) (b := b) (by omega) (by omega) (FT.gr g))) rfl rfl rfl ?_
   refine V.qyes rfl rfl rfl ?_
   refine V.qloadO T_ok Fk2 rfl rfl rfl rfl rfl ?_
   refine V.qyes rfl rfl rfl ?_
   refine V.qcall V.clo (fun w1 g => (rtext_spec (a := a) (b := b) (by omega) (by omega))) rfl rfl rfl ?_
   refine V.qrun T_ok 3 rfl ?_
   refine V.qnil ?_
   rintro w120 G121
   have z122 := V.Fr.size G121
   try replace FT := FT.gr G121
   try replace Fk2 := Fk2.gr G121
   try replace Fk9 := Fk9.gr G121
   try replace Fk94 := Fk94.gr G121
   try replace Fk109 := Fk109.gr G121
   replace HG := HG.grow G121
   clear G121
   refine V.tN ?_
   refine V.ret ?_
   refine V.done rfl ?_
   exact ⟨congrArg Value.bool (by simp), HG⟩
  ·
   try replace h4 := V.dec h4
   try simp only [V.mk0, V.mk1, V.mk2, V.mk3] at h4
   refine V.skip ?_
   refine V.tN ?_
   refine V.seq ?_
   refine V.region ?_
   refine V.loadO T_ok Fk2 rfl rfl rfl rfl rfl ?_
   refine V.call (snext_spec (a := a) (b := b)) rfl rfl rfl ?_
   rintro _ w123 ⟨rfl, G124⟩
   have z125 := V.Fr.size G124
   try replace FT := FT.gr G124
   try replace Fk2 := Fk2.gr G124
   try replace Fk9 := Fk9.gr G124
   replace HG := HG.grow G124
   clear G124
   refine V.run T_ok 3 rfl ?_
   refine V.alloc zero23 rfl rfl rfl ?_
   rintro k126 w128 s130 s131 G129 Fk127
   have z132 := V.Fr.size G129
   try replace FT := FT.gr G129
   try replace Fk2 := Fk2.gr G129
   try replace Fk9 := Fk9.gr G129
   replace HG := HG.grow G129
   clear G129
   try simp only [V.cellsL, V.spliceL] at Fk127
   refine V.storeO Fk127 rfl rfl rfl rfl sz23 rfl rfl rfl rfl ?_
   rintro w133 G134 z136 Fs135
   clear Fk127
   have z137 := V.Fr.size G134
   first | replace FT := FT.mv1 G134 (by first | exact ⟨by omega, by assumption⟩ | exact ⟨by omega, fun h => absurd h.1 (by assumption)⟩ | exact ⟨by omega, fun h => absurd h.1.1 (by assumption)⟩ | exact ⟨by omega, fun h => by first | (have h2 := h.1; have h3 := h.2; omega) | (have h2 := h; dsimp only at h2; omega)⟩ | first | omega | exact fun h => h | exact ⟨by omega, fun h => h⟩ | (intro h; first | (have := hD _ h; omega)) | (refine ⟨by omega, ?_⟩; intro h; first | (have := hD _ h; omega))) | clear FT | skip
   first | replace Fk2 := Fk2.mv1 G134 (by omega) | clear Fk2 | skip
   first | replace Fk9 := Fk9.mv1 G134 (by omega) | clear Fk9 | skip
   replace HG := HG.n1 G134
   clear G134
   have Fk127 := Fs135; clear Fs135
   simp only [V.spliceL, V.cellsL] at Fk127
   refine V.run T_ok 1 rfl ?_
   refine V.nil ?_
   refine V.tN ?_
   refine V.seq ?_
   refine V.region ?_
   refine V.loadO T_ok Fk2 rfl rfl rfl rfl rfl ?_
   refine V.call (rsnext_spec (a := a) (b := b)) rfl rfl rfl ?_
   rintro _ w138 ⟨rfl, G139⟩
   have z140 := V.Fr.size G139
   try replace FT := FT.gr G139
   try replace Fk2 := Fk2.gr G139
   try replace Fk9 := Fk9.gr G139
   try replace Fk127 := Fk127.gr G139
   replace HG := HG.grow G139
   clear G139
   refine V.run T_ok 3 rfl ?_
   refine V.alloc zero23 rfl rfl rfl ?_
   rintro k141 w143 s145 s146 G144 Fk142
   have z147 := V.Fr.size G144
   try replace FT := FT.gr G144
   try replace Fk2 := Fk2.gr G144
   try replace Fk9 := Fk9.gr G144
   try replace Fk127 := Fk127.gr G144
   replace HG := HG.grow G144
   clear G144
   try simp only [V.cellsL, V.spliceL] at Fk142
   refine V.storeO Fk142 rfl rfl rfl rfl sz23 rfl rfl rfl rfl ?_
   rintro w148 G149 z151 Fs150
   clear Fk142
   have z152 := V.Fr.size G149
   first | replace FT := FT.mv1 G149 (by first | exact ⟨by omega, by assumption⟩ | exact ⟨by omega, fun h => absurd h.1 (by assumption)⟩ | exact ⟨by omega, fun h => absurd h.1.1 (by assumption)⟩ | exact ⟨by omega, fun h => by first | (have h2 := h.1; have h3 := h.2; omega) | (have h2 := h; dsimp only at h2; omega)⟩ | first | omega | exact fun h => h | exact ⟨by omega, fun h => h⟩ | (intro h; first | (have := hD _ h; omega)) | (refine ⟨by omega, ?_⟩; intro h; first | (have := hD _ h; omega))) | clear FT | skip
   first | replace Fk2 := Fk2.mv1 G149 (by omega) | clear Fk2 | skip
   first | replace Fk9 := Fk9.mv1 G149 (by omega) | clear Fk9 | skip
   first | replace Fk127 := Fk127.mv1 G149 (by omega) | clear Fk127 | skip
   replace HG := HG.n1 G149
   clear G149
   have Fk142 := Fs150; clear Fs150
   simp only [V.spliceL, V.cellsL] at Fk142
   refine V.run T_ok 1 rfl ?_
   refine V.nil ?_
   refine V.tN ?_
   refine V.seq ?_
   refine V.drawQ mixed (by kernel_rfl) ?_
   refine V.qcall V.clo (fun w1 g => (alive_spec)) rfl rfl rfl ?_
   refine V.qrun T_ok 1 rfl ?_
   refine V.qyes rfl rfl rfl ?_
   refine V.qloadO T_ok Fk2 rfl rfl rfl rfl rfl ?_
   refine V.qyes rfl rfl rfl ?_
   refine V.qcall V.clo (fun w1 g => (right_spec (a := a) (b := b))) rfl rfl rfl ?_
   refine V.qyes rfl rfl rfl ?_
   refine V.qloadO T_ok Fk2 rfl rfl rfl rfl rfl ?_
   refine V.qyes rfl rfl rfl ?_
   refine V.qcall V.clo (fun w1 g => (rright_spec (a := a) (b := b))) rfl rfl rfl ?_
   refine V.qrun T_ok 3 rfl ?_
   refine V.qsplitT (j := 8) (t := 36) rfl rfl (by (first | rfl | (simp; done) | (unfold cmpS cmpI; grind) | grind)) ?_
   refine V.qyes rfl rfl rfl ?_
   refine V.qloadO T_ok Fk2 rfl rfl rfl rfl rfl ?_
   refine V.qyes rfl rfl rfl ?_
   refine V.qloadO T_ok Fk9 rfl rfl rfl rfl rfl ?_
   refine V.qyes rfl rfl rfl ?_
   refine V.qcall V.clo (fun w1 g => (compare_spec (a := a) (b := b) (c := c) (d := d))) rfl rfl rfl ?_
   refine V.qrun T_ok 4 rfl ?_
   refine V.qsplitT (j := 15) (t := 43) rfl rfl (by (first | rfl | (simp; done) | (unfold cmpS cmpI; grind) | grind)) ?_
   refine V.qyes rfl rfl rfl ?_
   refine V.qloadO T_ok Fk2 rfl rfl rfl rfl rfl ?_
   refine V.qyes rfl rfl rfl ?_
   refine V.qloadO T_ok Fk9 rfl rfl rfl rfl rfl ?_
   refine V.qyes rfl rfl rfl ?_
   refine V.qcall V.clo (fun w1 g => (less_spec (a := a) (b := b) (c := c) (d := d))) rfl rfl rfl ?_
   refine V.qrun T_ok 5 rfl ?_
   refine V.qsplitT (j := 23) (t := 51) rfl rfl (by (first | rfl | (simp; done) | (unfold cmpS cmpI; grind) | grind)) ?_
   refine V.qyes rfl rfl rfl ?_
   refine V.qloadO T_ok Fk2 rfl rfl rfl rfl rfl ?_
   refine V.qyes rfl rfl rfl ?_
   refine V.qloadO T_ok Fk9 rfl rfl rfl rfl rfl ?_
   refine V.qyes rfl rfl rfl ?_
   refine V.qcall V.clo (fun w1 g => (max_spec (a := a) (b := b) (c := c) (d := d))) rfl rfl rfl ?_
   refine V.qyes rfl rfl rfl ?_
   refine V.qloadO T_ok Fk2 rfl rfl rfl rfl rfl ?_
   refine V.qyes rfl rfl rfl ?_
   refine V.qloadO T_ok Fk9 rfl rfl rfl rfl rfl ?_
   refine V.qyes rfl rfl rfl ?_
   refine V.qcall V.clo (fun w1 g => (rmax_spec (a := a) (b := b) (c := c) (d := d))) rfl rfl rfl ?_
   refine V.qyes rfl rfl rfl ?_
   refine V.qstep rfl rfl (fun _ _ => V.eqA_run rfl rfl rfl eqG23 (eqS23 _)) ?_
   refine V.qrun T_ok 2 rfl ?_
   refine V.qsplitT (j := 32) (t := 60) rfl rfl (by (first | rfl | (simp; done) | (unfold cmpS cmpI; grind) | grind)) ?_
   refine V.qyes rfl rfl rfl ?_
   refine V.qloadO T_ok Fk127 rfl rfl rfl rfl rfl ?_
   refine V.qyes rfl rfl rfl ?_
   refine V.qloadO T_ok Fk142 rfl rfl rfl rfl rfl ?_
   refine V.qyes rfl rfl rfl ?_
   refine V.qstep rfl rfl (fun _ _ => V.eqA_run rfl rfl rfl eqG23 (eqS23 _)) ?_
   refine V.qrun T_ok 2 rfl ?_
   refine V.qsplitT (j := 37) (t := 65) rfl rfl (by (first | rfl | (simp; done) | (unfold cmpS cmpI; grind) | grind)) ?_
   refine V.qrun T_ok 5 rfl ?_
   refine V.qsplitT (j := 42) (t := 70) rfl rfl (by (first | rfl | (simp; done) | (unfold cmpS cmpI; grind) | grind)) ?_
   refine V.qyes rfl rfl rfl ?_
   refine V.qloadO T_ok Fk2 rfl rfl rfl rfl rfl ?_
   refine V.qrun T_ok 1 rfl ?_
   refine V.qyes rfl rfl rfl ?_
   refine V.qcall V.clo (fun w1 g => (plus_spec (a := a) (b := b) (t := ticks))) rfl rfl rfl ?_
   refine V.qyes rfl rfl rfl ?_
   refine V.qloadO T_ok Fk2 rfl rfl rfl rfl rfl ?_
   refine V.qrun T_ok 1 rfl ?_
   refine V.qyes rfl rfl rfl ?_
   refine V.qcall V.clo (fun w1 g => (rplus_spec (a := a) (b := b) (t := ticks))) rfl rfl rfl ?_
   refine V.qyes rfl rfl rfl ?_
   refine V.qstep rfl rfl (fun _ _ => V.eqA_run rfl rfl rfl eqG23 (eqS23 _)) ?_
   refine V.qrun T_ok 2 rfl ?_
   refine V.qsplitT (j := 51) (t := 79) rfl rfl (by (first | rfl | (simp; done) | (unfold cmpS cmpI; grind) | grind)) ?_
   refine V.qyes rfl rfl rfl ?_
   refine V.qloadO T_ok Fk2 rfl rfl rfl rfl rfl ?_
   refine V.qyes rfl rfl rfl ?_
   refine V.qcall V.clo (fun w1 g => (text_spec (a := a) (b := b) (by omega) (by omega) (FT.gr g))) rfl rfl rfl ?_
   refine V.qyes rfl rfl rfl ?_
   refine V.qloadO T_ok Fk2 rfl rfl rfl rfl rfl ?_
   refine V.qyes rfl rfl rfl ?_
   refine V.qcall V.clo (fun w1 g => (rtext_spec (a := a) (b := b) (by omega) (by omega))) rfl rfl rfl ?_
   refine V.qrun T_ok 3 rfl ?_
   refine V.qnil ?_
   rintro w153 G154
   have z155 := V.Fr.size G154
   try replace FT := FT.gr G154
   try replace Fk2 := Fk2.gr G154
   try replace Fk9 := Fk9.gr G154
   try replace Fk127 := Fk127.gr G154
   try replace Fk142 := Fk142.gr G154
   replace HG := HG.grow G154
   clear G154
   refine V.tN ?_
   refine V.ret ?_
   refine V.done rfl ?_
   exact ⟨congrArg Value.bool (by simp), HG⟩

set_option maxHeartbeats 400000 in
set_option maxRecDepth 10000 in
theorem stampTexts_walk {w : World}  {a : Int} {b : Int} {c : Int} {d : Int} (ha : -9223372036854775808 ≤ a ∧ a ≤ 9223372036854775807) (hb : -9223372036854775808 ≤ b ∧ b ≤ 9223372036854775807) (hc : -9223372036854775808 ≤ c ∧ c ≤ 9223372036854775807) (hd : -9223372036854775808 ≤ d ∧ d ≤ 9223372036854775807) (FT : Tb w) :
    Meets Tryd.prog 3 [.agg #[.int .i64 a, .int .i64 b], .agg #[.int .i64 c, .int .i64 d]] w fun r w' => r = .bool true ∧ Gr w w' := by
 have h0s := FT.at0
 have htl := txt_len ha hb
 have hsz : (S (txtB a b)).size = (txtB a b).length := V.S_size _
 have hsd : (S (txtB a b)).data.toList.length = (txtB a b).length := by simp [V.S]
 have HG := V.Fr.refl [] w
 refine V.enter (n := 58) Tryd.func3 rfl rfl (by decide) rfl ?_
 refine V.seq ?_
 refine V.region ?_
 refine V.box rfl rfl rfl rfl ?_
 rintro k1 w3 s5 s6 G4 Fk2
 have z7 := V.Fr.size G4
 try replace FT := FT.gr G4
 replace HG := HG.grow G4
 clear G4
 try simp only [V.cellsL, V.spliceL] at Fk2
 refine V.box rfl rfl rfl rfl ?_
 rintro k8 w10 s12 s13 G11 Fk9
 have z14 := V.Fr.size G11
 try replace FT := FT.gr G11
 try replace Fk2 := Fk2.gr G11
 replace HG := HG.grow G11
 clear G11
 try simp only [V.cellsL, V.spliceL] at Fk9
 refine V.run T_ok 1 rfl ?_
 refine V.nil ?_
 refine V.tN ?_
 refine V.seq ?_
 refine V.region ?_
 refine V.loadO T_ok Fk2 rfl rfl rfl rfl rfl ?_
 refine V.call (text_spec (a := a) (b := b) (by omega) (by omega) FT) rfl rfl rfl ?_
 rintro _ w15 ⟨rfl, G16⟩
 have z17 := V.Fr.size G16
 try replace FT := FT.gr G16
 try replace Fk2 := Fk2.gr G16
 try replace Fk9 := Fk9.gr G16
 replace HG := HG.grow G16
 clear G16
 refine V.run T_ok 1 rfl ?_
 refine V.nil ?_
 refine V.tN ?_
 refine V.seq ?_
 refine V.region ?_
 refine V.loadO T_ok Fk9 rfl rfl rfl rfl rfl ?_
 refine V.call (text_spec (a := c) (b := d) (by omega) (by omega) FT) rfl rfl rfl ?_
 rintro _ w18 ⟨rfl, G19⟩
 have z20 := V.Fr.size G19
 try replace FT := FT.gr G19
 try replace Fk2 := Fk2.gr G19
 try replace Fk9 := Fk9.gr G19
 replace HG := HG.grow G19
 clear G19
 refine V.run T_ok 1 rfl ?_
 refine V.nil ?_
 refine V.tN ?_
 refine V.seq ?_
 refine V.region ?_
 refine V.run T_ok 1 rfl ?_
 refine V.nil ?_
 refine V.tN ?_
 refine V.seq ?_
 refine V.seq ?_
 refine V.region ?_
 refine V.run T_ok 1 rfl ?_
 refine V.nil ?_
 refine V.tN ?_
 refine V.block ?_
 refine V.loopM (fun m e v22 => Fr [] w v22 ∧ w18.heap.size ≤ v22.heap.size ∧ Tb v22 ∧ Cells v22 k1 [.int .i64 a, .int .i64 b] 23 ∧ Cells v22 k8 [.int .i64 c, .int .i64 d] 23 ∧ ∃ (i : Nat) , m = (txtB a b).length - i ∧ i ≤ (txtB a b).length ∧ e 2 = .pointer (some ⟨k1, 0, none⟩) ∧ e 3 = .pointer (some ⟨k8, 0, none⟩) ∧ e 5 = .string (S (txtB a b)) ∧ e 6 = .string (S (txtB c d)) ∧ e 7 = .int .i64 (dots ((txtB a b).take i) : Int) ∧ e 8 = .int .i64 (i : Int)) ?_ ?_
 ·
  exact ⟨_, HG, (by omega), FT, Fk2, Fk9, (0), rfl, (Nat.zero_le _), rfl, rfl, rfl, rfl, (congrArg (Value.int .i64) (by simp [dots])), rfl⟩
 clear HG FT Fk2 Fk9
 rintro _ e v22 ⟨HG, z23, FT, Fk2, Fk9, i, rfl, hi, he0_2, he0_3, he0_5, he0_6, he0_7, he0_8⟩
 refine V.knownC (t := 2) he0_2 ?_
 refine V.knownC (t := 3) he0_3 ?_
 refine V.knownC (t := 5) he0_5 ?_
 refine V.knownC (t := 6) he0_6 ?_
 refine V.knownC (t := 7) he0_7 ?_
 refine V.knownC (t := 8) he0_8 ?_
 refine V.seq ?_
 refine V.seq ?_
 refine V.region ?_
 refine V.run T_ok 4 rfl ?_
 refine V.nil ?_
 refine V.tN ?_
 refine V.condT rfl (fun h5 => ?_) (fun h5 => ?_)
 ·
  try replace h5 := V.dec h5
  try simp only [V.mk0, V.mk1, V.mk2, V.mk3] at h5
  refine V.skip ?_
  refine V.tN ?_
  refine V.seq ?_
  refine V.block ?_
  refine V.seq ?_
  obtain ⟨x, hx⟩ : ∃ x, (txtB a b)[i]'(by omega) = x := ⟨_, rfl⟩
  have hxi : ∀ h, (S (txtB a b)).data.toList[((i : Int)).toNat]'h = x := by intro h; rw [← hx]; rfl
  refine V.region ?_
  refine V.run T_ok 2 rfl ?_
  refine V.sidx Tryd.underlying9 rfl rfl rfl rfl rfl (by omega) (by omega) (fun H7_2 => ?_)
  rw [hxi]
  refine V.run T_ok 1 rfl ?_
  refine V.nil ?_
  refine V.tN ?_
  refine V.condT rfl (fun h7 => ?_) (fun h7 => ?_)
  ·
   try replace h7 := V.dec h7
   try simp only [V.mk0, V.mk1, V.mk2, V.mk3] at h7
   have hdl : dots ((txtB a b).take i) ≤ i := Nat.le_trans (List.length_filter_le _ _) (by rw [List.length_take]; omega)
   refine V.region ?_
   refine V.run T_ok 1 rfl ?_
   refine V.addN rfl rfl rfl rfl rfl (by first | omega | (simp only [List.length_take, List.length_drop, List.length_append, List.length_cons, List.length_nil, List.length_replicate, List.length_set, V.length_data, V.S_size]; omega)) (by first | omega | (simp only [List.length_take, List.length_drop, List.length_append, List.length_cons, List.length_nil, List.length_replicate, List.length_set, V.length_data, V.S_size]; omega)) ?_
   refine V.run T_ok 1 rfl ?_
   refine V.nil ?_
   refine V.bN ?_
   refine V.tN ?_
   refine V.region ?_
   refine V.run T_ok 1 rfl ?_
   refine V.addN rfl rfl rfl rfl rfl (by first | omega | (simp only [List.length_take, List.length_drop, List.length_append, List.length_cons, List.length_nil, List.length_replicate, List.length_set, V.length_data, V.S_size]; omega)) (by first | omega | (simp only [List.length_take, List.length_drop, List.length_append, List.length_cons, List.length_nil, List.length_replicate, List.length_set, V.length_data, V.S_size]; omega)) ?_
   refine V.run T_ok 1 rfl ?_
   refine V.nil ?_
   refine V.tN ?_
   have hdt := dots_take (l := txtB a b) (i := i) (by omega)
   rw [hx] at hdt
   exact ⟨_, (by omega), HG, (by omega), FT, Fk2, Fk9, (i + 1), rfl, (by omega), rfl, rfl, rfl, rfl, (congrArg (Value.int .i64) (by first | (rw [hdt, if_pos (byte46.1 (by assumption))]; rfl) | (rw [hdt, if_neg (fun e => absurd (byte46.2 e) (by assumption))]; rfl))), rfl⟩
  ·
   try replace h7 := V.dec h7
   try simp only [V.mk0, V.mk1, V.mk2, V.mk3] at h7
   refine V.seq ?_
   refine V.region ?_
   refine V.run T_ok 2 rfl ?_
   refine V.sidx Tryd.underlying9 rfl rfl rfl rfl rfl (by omega) (by omega) (fun H9_2 => ?_)
   rw [hxi]
   refine V.run T_ok 2 rfl ?_
   refine V.split (j := 4) (t := 29) rfl rfl (fun g9_4 => ?_) (fun g9_4 => ?_)
   ·
    try replace g9_4 := V.dec g9_4
    try simp only [V.mk0, V.mk1, V.mk2, V.mk3] at g9_4
    refine V.run T_ok 6 rfl ?_
    refine V.yes rfl rfl rfl ?_
    refine V.loadO T_ok Fk2 rfl rfl rfl rfl rfl ?_
    refine V.yes rfl rfl rfl ?_
    refine V.call (right_spec (a := a) (b := b)) rfl rfl rfl ?_
    rintro _ w24 ⟨rfl, G25⟩
    have z26 := V.Fr.size G25
    try replace FT := FT.gr G25
    try replace Fk2 := Fk2.gr G25
    try replace Fk9 := Fk9.gr G25
    replace HG := HG.grow G25
    clear G25
    refine V.run T_ok 1 rfl ?_
    refine V.nil ?_
    refine V.tN ?_
    refine V.condT rfl (fun h9 => ?_) (fun h9 => ?_)
    ·
     try replace h9 := V.dec h9
     try simp only [V.mk0, V.mk1, V.mk2, V.mk3] at h9
     refine V.seq ?_
     refine V.region ?_
     refine V.run T_ok 1 rfl ?_
     refine V.nil ?_
     refine V.tN ?_
     refine V.ret ?_
     refine V.bR ?_
     refine V.tR ?_
     refine V.tR ?_
     refine V.bR ?_
     refine V.tR ?_
     refine V.done rfl ?_
     exfalso
     have hmm := txt_fig (a := a) (b := b) (by grind) x (hx ▸ List.getElem_mem _)
     rcases hmm with hmm | hmm
     · exact absurd (byte46.2 hmm) (by assumption)
     · omega
    ·
     try replace h9 := V.dec h9
     try simp only [V.mk0, V.mk1, V.mk2, V.mk3] at h9
     refine V.skip ?_
     refine V.bN ?_
     refine V.tN ?_
     refine V.region ?_
     refine V.run T_ok 1 rfl ?_
     refine V.addN rfl rfl rfl rfl rfl (by first | omega | (simp only [List.length_take, List.length_drop, List.length_append, List.length_cons, List.length_nil, List.length_replicate, List.length_set, V.length_data, V.S_size]; omega)) (by first | omega | (simp only [List.length_take, List.length_drop, List.length_append, List.length_cons, List.length_nil, List.length_replicate, List.length_set, V.length_data, V.S_size]; omega)) ?_
     refine V.run T_ok 1 rfl ?_
     refine V.nil ?_
     refine V.tN ?_
     have hdt := dots_take (l := txtB a b) (i := i) (by omega)
     rw [hx] at hdt
     exact ⟨_, (by omega), HG, (by omega), FT, Fk2, Fk9, (i + 1), rfl, (by omega), rfl, rfl, rfl, rfl, (congrArg (Value.int .i64) (by first | (rw [hdt, if_pos (byte46.1 (by assumption))]; rfl) | (rw [hdt, if_neg (fun e => absurd (byte46.2 e) (by assumption))]; rfl))), rfl⟩
   ·
    try replace g9_4 := V.dec g9_4
    try simp only [V.mk0, V.mk1, V.mk2, V.mk3] at g9_4
    refine V.run T_ok 2 rfl ?_
    refine V.yes rfl rfl rfl ?_
    refine V.sidx Tryd.underlying9 rfl rfl rfl rfl rfl (by omega) (by omega) (fun H9_7 => ?_)
    rw [hxi]
    refine V.run T_ok 3 rfl ?_
    refine V.split (j := 10) (t := 35) rfl rfl (fun g9_10 => ?_) (fun g9_10 => ?_)
    ·
     try replace g9_10 := V.dec g9_10
     try simp only [V.mk0, V.mk1, V.mk2, V.mk3] at g9_10
     refine V.yes rfl rfl rfl ?_
     refine V.loadO T_ok Fk2 rfl rfl rfl rfl rfl ?_
     refine V.yes rfl rfl rfl ?_
     refine V.call (right_spec (a := a) (b := b)) rfl rfl rfl ?_
     rintro _ w27 ⟨rfl, G28⟩
     have z29 := V.Fr.size G28
     try replace FT := FT.gr G28
     try replace Fk2 := Fk2.gr G28
     try replace Fk9 := Fk9.gr G28
     replace HG := HG.grow G28
     clear G28
     refine V.run T_ok 1 rfl ?_
     refine V.nil ?_
     refine V.tN ?_
     refine V.condT rfl (fun h9 => ?_) (fun h9 => ?_)
     ·
      try replace h9 := V.dec h9
      try simp only [V.mk0, V.mk1, V.mk2, V.mk3] at h9
      refine V.seq ?_
      refine V.region ?_
      refine V.run T_ok 1 rfl ?_
      refine V.nil ?_
      refine V.tN ?_
      refine V.ret ?_
      refine V.bR ?_
      refine V.tR ?_
      refine V.tR ?_
      refine V.bR ?_
      refine V.tR ?_
      refine V.done rfl ?_
      exfalso
      have hmm := txt_fig (a := a) (b := b) (by grind) x (hx ▸ List.getElem_mem _)
      rcases hmm with hmm | hmm
      · exact absurd (byte46.2 hmm) (by assumption)
      · omega
     ·
      try replace h9 := V.dec h9
      try simp only [V.mk0, V.mk1, V.mk2, V.mk3] at h9
      refine V.skip ?_
      refine V.bN ?_
      refine V.tN ?_
      refine V.region ?_
      refine V.run T_ok 1 rfl ?_
      refine V.addN rfl rfl rfl rfl rfl (by first | omega | (simp only [List.length_take, List.length_drop, List.length_append, List.length_cons, List.length_nil, List.length_replicate, List.length_set, V.length_data, V.S_size]; omega)) (by first | omega | (simp only [List.length_take, List.length_drop, List.length_append, List.length_cons, List.length_nil, List.length_replicate, List.length_set, V.length_data, V.S_size]; omega)) ?_
      refine V.run T_ok 1 rfl ?_
      refine V.nil ?_
      refine V.tN ?_
      have hdt := dots_take (l := txtB a b) (i := i) (by omega)
      rw [hx] at hdt
      exact ⟨_, (by omega), HG, (by omega), FT, Fk2, Fk9, (i + 1), rfl, (by omega), rfl, rfl, rfl, rfl, (congrArg (Value.int .i64) (by first | (rw [hdt, if_pos (byte46.1 (by assumption))]; rfl) | (rw [hdt, if_neg (fun e => absurd (byte46.2 e) (by assumption))]; rfl))), rfl⟩
    ·
     try replace g9_10 := V.dec g9_10
     try simp only [V.mk0, V.mk1, V.mk2, V.mk3] at g9_10
     refine V.run T_ok 3 rfl ?_
     refine V.nil ?_
     refine V.tN ?_
     refine V.condN rfl rfl ?_
     refine V.skip ?_
     refine V.bN ?_
     refine V.tN ?_
     refine V.region ?_
     refine V.run T_ok 1 rfl ?_
     refine V.addN rfl rfl rfl rfl rfl (by first | omega | (simp only [List.length_take, List.length_drop, List.length_append, List.length_cons, List.length_nil, List.length_replicate, List.length_set, V.length_data, V.S_size]; omega)) (by first | omega | (simp only [List.length_take, List.length_drop, List.length_append, List.length_cons, List.length_nil, List.length_replicate, List.length_set, V.length_data, V.S_size]; omega)) ?_
     refine V.run T_ok 1 rfl ?_
     refine V.nil ?_
     refine V.tN ?_
     have hdt := dots_take (l := txtB a b) (i := i) (by omega)
     rw [hx] at hdt
     exact ⟨_, (by omega), HG, (by omega), FT, Fk2, Fk9, (i + 1), rfl, (by omega), rfl, rfl, rfl, rfl, (congrArg (Value.int .i64) (by first | (rw [hdt, if_pos (byte46.1 (by assumption))]; rfl) | (rw [hdt, if_neg (fun e => absurd (byte46.2 e) (by assumption))]; rfl))), rfl⟩
 ·
  try replace h5 := V.dec h5
  try simp only [V.mk0, V.mk1, V.mk2, V.mk3] at h5
  refine V.exit ?_
  refine V.tX ?_
  refine V.tX ?_
  refine V.bE ?_
  refine V.tN ?_
  refine V.seq ?_
  refine V.region ?_
  refine V.call (alive_spec) rfl rfl rfl ?_
  rintro _ w30 ⟨rfl, G31⟩
  have z32 := V.Fr.size G31
  try replace FT := FT.gr G31
  try replace Fk2 := Fk2.gr G31
  try replace Fk9 := Fk9.gr G31
  replace HG := HG.grow G31
  clear G31
  refine V.run T_ok 4 rfl ?_
  refine V.yes rfl rfl rfl ?_
  refine V.loadO T_ok Fk2 rfl rfl rfl rfl rfl ?_
  refine V.yes rfl rfl rfl ?_
  refine V.loadO T_ok Fk9 rfl rfl rfl rfl rfl ?_
  refine V.yes rfl rfl rfl ?_
  refine V.step rfl rfl (V.eqA_run rfl rfl rfl eqG23 (eqS23 _)) ?_
  refine V.run T_ok 3 rfl ?_
  refine V.splitT (j := 10) (t := 49) rfl rfl (by (first | rfl | exact tx_eq _ _ _ _ | (rw [show (txtB a b).take i = txtB a b from List.take_of_length_le (by omega), txt_dots]; rfl) | simp)) ?_
  refine V.run T_ok 4 rfl ?_
  refine V.splitT (j := 14) (t := 53) rfl rfl (by (first | rfl | exact tx_eq _ _ _ _ | (rw [show (txtB a b).take i = txtB a b from List.take_of_length_le (by omega), txt_dots]; rfl) | simp)) ?_
  refine V.run T_ok 5 rfl ?_
  refine V.nil ?_
  refine V.tN ?_
  refine V.ret ?_
  refine V.done rfl ?_
  exact ⟨congrArg Value.bool (by simp; omega), HG⟩

end Go.Proofs.YtbpfojlnndkaoaaDoor
