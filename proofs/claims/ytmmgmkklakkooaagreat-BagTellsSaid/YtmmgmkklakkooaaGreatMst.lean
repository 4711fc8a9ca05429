/- Proved here: walks: what functions of this seat's program return and what they leave of memory, each as a contract. Conditions: stated at each theorem. -/
import Derived.Test.YtmmgmkklakkooaaGreatMs
namespace Go.Proofs.YtmmgmkklakkooaaGreat
set_option linter.unusedVariables false
set_option linter.unusedSimpArgs false
open Go
open V (Bytes Meets Env Sl Own Gr Fr Cells S)

/-- a stamp is right -/
def stR (a b : Int) : Prop := 0 ≤ a ∧ a ≤ 1099511627776 ∧ 0 ≤ b ∧ b ≤ 65535
instance (a b : Int) : Decidable (stR a b) := inferInstanceAs (Decidable (_ ∧ _))
/-- a stamp's bytes -/
def stB (a b : Int) : List UInt8 := numB a.toNat ++ numB b.toNat
/-- the stamp that is read -/
def rdS (d : List UInt8) : ((Int × Int) × Int) × List UInt8 :=
  let x := rdN d 1099511627776
  let y := rdN x.2 65535
  if x.1.2 ≠ 0 ∨ y.1.2 ≠ 0 then (((0, 0), 11), d) else (((x.1.1, y.1.1), 0), y.2)

theorem eqG33 : Tryz.prog.eqGuardType Tryz.prog.depth 33 = false := by kernel_rfl
theorem eqD33 (d : Nat) (w : World) {x0 y0 : Int} {x1 y1 : Int} : (Op.equalIn (d + 2) 33 (.agg #[.int .i64 x0, .int .i64 x1]) (.agg #[.int .i64 y0, .int .i64 y1])).run Tryz.prog w = .ok ((decide (x0 = y0)) && ((decide (x1 = y1)) && (true))) w :=
  V.eqIn_struct _ Tryz.underlying33 (by kernel_rfl) (V.eqF_cons (agg := false) (by decide) sz3 (by kernel_rfl) (by kernel_rfl) rfl rfl (V.eqIn_int _ Tryz.underlying3) (V.eqF_cons (agg := false) (by decide) sz3 (by kernel_rfl) (by kernel_rfl) rfl rfl (V.eqIn_int _ Tryz.underlying3) V.eqF_nil))
theorem eqS33 (w : World) {x0 y0 : Int} {x1 y1 : Int} : (Op.equalIn 10000 33 (.agg #[.int .i64 x0, .int .i64 x1]) (.agg #[.int .i64 y0, .int .i64 y1])).run Tryz.prog w = .ok ((decide (x0 = y0)) && ((decide (x1 = y1)) && (true))) w := eqD33 9998 w

set_option maxHeartbeats 900000 in
set_option maxRecDepth 10000 in
theorem within_spec {w : World}  {n : Int} {l : Int} {m : Int}  :
    Meets Tryz.prog 78 [.int .i64 n, .int .i64 l, .int .i64 m] w fun r w' => r = .bool (decide (l ≤ n ∧ n ≤ m)) ∧ w = w' := by
 refine V.enter (n := 15) Tryz.func78 rfl rfl (by decide) rfl ?_
 refine V.sr ?_
 refine V.ru 1 ?_
 refine V.nt ?_
 refine V.sr ?_
 refine V.ru 4 ?_
 refine V.andG T_ok 3 3 10 rfl rfl rfl rfl rfl rfl rfl rfl ?_
 refine V.ru 1 ?_
 refine V.nt ?_
 refine V.ret ?_
 refine V.done rfl ?_
 exact ⟨(congrArg Value.bool (by first | rfl | (grind))), rfl⟩

set_option maxHeartbeats 900000 in
set_option maxRecDepth 10000 in
theorem right_spec {w : World}  {a : Int} {b : Int}  :
    Meets Tryz.prog 38 [.agg #[.int .i64 a, .int .i64 b]] w fun r w' => r = .bool (decide (0 ≤ a ∧ a ≤ 1099511627776 ∧ 0 ≤ b ∧ b ≤ 65535)) ∧ Gr w w' := by
 have HG := V.Fr.refl [] w
 refine V.enter (n := 11) Tryz.func38 rfl rfl (by decide) rfl ?_
 refine V.sr ?_
 refine V.box rfl rfl rfl rfl ?_
 rintro k1 w3 s5 s6 G4 Fk2
 have z7 := V.Fr.size G4
 try simp only [V.cellsL, V.spliceL] at Fk2
 refine V.ru 1 ?_
 refine V.nt ?_
 refine V.sr ?_
 refine V.ru 1 ?_
 refine V.loadO T_ok Fk2 rfl rfl rfl rfl rfl ?_
 refine V.call (within_spec (n := a) (l := 0) (m := 1099511627776)) rfl rfl rfl ?_
 rintro _ w3_ ⟨rfl, rfl⟩
 refine V.ru 1 ?_
 refine V.split (j := 3) (t := 6) rfl rfl (fun g1_3 => ?_) (fun g1_3 => ?_)
 ·
  try replace g1_3 := V.dec g1_3
  try simp only [V.mk] at g1_3
  refine V.ru 1 ?_
  refine V.yes rfl rfl rfl ?_
  refine V.loadO T_ok Fk2 rfl rfl rfl rfl rfl ?_
  refine V.yes rfl rfl rfl ?_
  refine V.call (within_spec (n := b) (l := 0) (m := 65535)) rfl rfl rfl ?_
  rintro _ w3_ ⟨rfl, rfl⟩
  refine V.ru 2 ?_
  refine V.nt ?_
  refine V.ret ?_
  refine V.done rfl ?_
  replace HG := HG.grow G4
  exact ⟨(congrArg Value.bool (by first | rfl | (grind))), HG⟩
 ·
  try replace g1_3 := V.dec g1_3
  try simp only [V.mk] at g1_3
  refine V.ru 5 ?_
  refine V.nt ?_
  refine V.ret ?_
  refine V.done rfl ?_
  replace HG := HG.grow G4
  exact ⟨(congrArg Value.bool (by first | rfl | (grind))), HG⟩

set_option maxHeartbeats 900000 in
set_option maxRecDepth 10000 in
theorem sput_spec {w : World}  {D_l : Nat → Prop} {c_l : Nat} {a_l : Option Addr} {l : List UInt8} (F_l : Sl V.Cod.byte w D_l a_l c_l l) (hD_l : ∀ k, D_l k → k < w.heap.size) {a : Int} {b : Int} (hl : l.length ≤ 35184372088832) (ha : a ≤ 9223372036854775807) (hb : b ≤ 9223372036854775807) :
    Meets Tryz.prog 48 [.slice a_l l.length c_l, .agg #[.int .i64 a, .int .i64 b]] w fun r w' => ∃ (ra19 : Option Addr) (rc19 : Nat), r = .slice ra19 (l ++ stB a b).length rc19 ∧ V.Row V.Cod.byte 5 w' V.None' w.heap.size w'.heap.size ra19 rc19 (l ++ stB a b) ∧ Gr w w' := by
 have hna := numB_len9 ha
 have HG := V.Fr.refl [] w
 refine V.enter (n := 12) Tryz.func48 rfl rfl (by decide) rfl ?_
 refine V.sr ?_
 refine V.box rfl rfl rfl rfl ?_
 rintro k1 w3 s5 s6 G4 Fk2
 have z7 := V.Fr.size G4
 try simp only [V.cellsL, V.spliceL] at Fk2
 refine V.ru 1 ?_
 refine V.nt ?_
 refine V.seq ?_
 refine V.drawGT 6 (V.sel [(3, (fun v wz => ∃ (ra2 : Option Addr) (rc2 : Nat), v = .slice ra2 (l ++ numB a.toNat).length rc2 ∧ V.Row V.Cod.byte 5 wz V.None' w3.heap.size wz.heap.size ra2 rc2 (l ++ numB a.toNat)))]) mixed (by kernel_rfl) (V.mono_cons (by rintro v wz wz' g ⟨ra2, rc2, rfl, rF2⟩; exact ⟨ra2, rc2, rfl, (by first | exact (rF2.gr g).mono (V.In.sub (Nat.le_refl _) g.size) | exact rF2.gr g | exact (rF2.gr g).mono (fun _ h => h) (Nat.le_refl _) g.size | exact (rF2.gr g).mono (fun k h => ⟨h.1, Nat.lt_of_lt_of_le h.2 g.size⟩))⟩) V.mono_nil) ?_
 refine V.grun T_ok 2 rfl (V.sel_none rfl) ?_
 refine V.gloadO T_ok (fun w' h => Fk2.gr h.1) rfl rfl rfl rfl rfl rfl ?_
 replace F_l := F_l.gr G4
 refine V.gcall (fun w' h => (p_number (v := a) (F_l.gr h.1) (fun k hk => by have := Fr.size h.1; have := hD_l k hk; omega) V.lenA (by omega)).mono (by rintro v w'' ⟨ra2, rc2, rfl, rF2, G⟩; exact ⟨⟨ra2, rc2, rfl, (by first | exact rF2.mono (V.In.mono_l h.1.size) | exact rF2 | exact rF2.mono (fun _ h => h) h.1.size (Nat.le_refl _))⟩, G⟩)) rfl rfl rfl rfl ?_
 rintro _ w11 - - ⟨a8, c9, rfl, -⟩
 refine V.grun T_ok 1 rfl (V.sel_none rfl) ?_
 refine V.gloadO T_ok (fun w' h => Fk2.gr h.1) rfl rfl rfl rfl rfl rfl ?_
 refine V.gnil ?_
 rintro w12 G13 hH14
 have z15 := V.Fr.size G13
 have F10 : V.Row V.Cod.byte 5 w12 V.None' w3.heap.size w12.heap.size a8 c9 (l ++ numB a.toNat) := by
   obtain ⟨_, _, he, F0⟩ := (V.Hist.here (hH14 3))
   cases he
   exact F0
 clear hH14
 refine V.call (p_number (v := b) F10.sl (fun k hk => by have := hk.2; omega) V.lenA (by omega)) rfl rfl rfl ?_
 rintro _ w19 ⟨a16, c17, rfl, F18, G20⟩
 have z21 := V.Fr.size G20
 refine V.ru 1 ?_
 refine V.nt ?_
 refine V.ret ?_
 refine V.done rfl ?_
 rw [show l ++ stB a b = l ++ numB a.toNat ++ numB b.toNat by simp [stB]]
 replace HG := HG.grow (G4.trans (G13.trans G20))
 exact ⟨a16, c17, (by first | rfl | simp only [List.length_set]), F18.re, HG⟩

set_option maxHeartbeats 900000 in
set_option maxRecDepth 10000 in
theorem sget_spec {w : World} {k : Nat} {D : Nat → Prop} {d : List UInt8} (FX : Rd w k D d)   :
    Meets Tryz.prog 109 [.pointer (some ⟨k, 0, none⟩)] w fun r w' => r = .tuple #[.agg #[.int .i64 (((rdS d).1.1).1), .int .i64 (((rdS d).1.1).2)], .int .i64 ((rdS d).1.2)] ∧ Rd w' k D ((rdS d).2) ∧ Fr [k] w w' := by
 have hkl := FX.lt
 have hnk := FX.nk
 replace FX := FX.flb
 have HG := V.Fr.refl [k] w
 refine V.enter (n := 38) Tryz.func109 rfl rfl (by decide) rfl ?_
 refine V.sr ?_
 refine V.alloc zero33 rfl rfl rfl ?_
 rintro k1 w3 s5 s6 G4 Fk2
 have z7 := V.Fr.size G4
 try simp only [V.cellsL, V.spliceL] at Fk2
 refine V.ru 1 ?_
 refine V.nt ?_
 refine V.seq ?_
 refine V.sr ?_
 refine V.ru 2 ?_
 refine V.nt ?_
 refine V.condN rfl rfl ?_
 refine V.skip ?_
 refine V.tN ?_
 refine V.seq ?_
 replace FX := FX.gr G4
 obtain ⟨a8, c9, F11, F10⟩ := FX.ex
 refine V.region ?_
 refine V.ru 2 ?_
 refine V.loadO T_ok F11 rfl rfl rfl rfl rfl ?_
 refine V.alloc zero152 rfl rfl rfl ?_
 rintro k12 w14 s16 s17 G15 Fk13
 have z18 := V.Fr.size G15
 try simp only [V.cellsL, V.spliceL] at Fk13
 refine V.storeO Fk13 rfl rfl rfl rfl sz152 rfl rfl rfl rfl ?_
 rintro w19 G20 z22 Fs21
 clear Fk13
 have z23 := V.Fr.size G20
 have Fk13 := Fs21; clear Fs21
 simp only [V.spliceL, V.cellsL] at Fk13
 refine V.nt ?_
 refine V.sr ?_
 refine V.ru 1 ?_
 replace FX := FX.gr G15
 replace FX := FX.ma G20
 refine V.call (rd_number (most := 1099511627776) FX) rfl rfl rfl ?_
 rintro _ w25 ⟨rfl, F24, G26⟩
 have z27 := V.Fr.size G26
 refine V.ru 5 ?_
 refine V.nt ?_
 refine V.sr ?_
 refine V.ru 1 ?_
 refine V.call (rd_number (most := 65535) F24) rfl rfl rfl ?_
 rintro _ w29 ⟨rfl, F28, G30⟩
 have z31 := V.Fr.size G30
 refine V.ru 5 ?_
 refine V.nt ?_
 refine V.seq ?_
 refine V.sr ?_
 refine V.ru 3 ?_
 refine V.orG T_ok 2 2 27 rfl rfl rfl rfl rfl rfl rfl rfl ?_
 refine V.nt ?_
 refine V.condT rfl (fun h6 => ?_) (fun h6 => ?_)
 ·
  try replace h6 := V.dec h6
  try simp only [V.mk] at h6
  refine V.seq ?_
  obtain ⟨a32, c33, F35, F34⟩ := F28.ex
  refine V.region ?_
  refine V.ru 1 ?_
  replace Fk13 := Fk13.ma G26
  replace Fk13 := Fk13.ma G30
  refine V.loadO T_ok Fk13 rfl rfl rfl rfl rfl ?_
  refine V.ru 1 ?_
  refine V.storeO F35 rfl rfl rfl rfl sz152 rfl rfl rfl rfl ?_
  rintro w36 G37 z39 Fs38
  clear F35
  have z40 := V.Fr.size G37
  have F35 := Fs38; clear Fs38
  simp only [V.spliceL, V.cellsL] at F35
  refine V.nt ?_
  refine V.sr ?_
  refine V.mkStruct T_ok zero33 rfl rfl rfl rfl rfl ?_
  replace Fk2 := Fk2.gr G15
  replace Fk2 := Fk2.ma G20
  replace Fk2 := Fk2.ma G26
  replace Fk2 := Fk2.ma G30
  replace Fk2 := Fk2.ma G37
  refine V.storeO Fk2 rfl rfl rfl rfl sz33 rfl rfl rfl rfl ?_
  rintro w41 G42 z44 Fs43
  clear Fk2
  have z45 := V.Fr.size G42
  have Fk2 := Fs43; clear Fs43
  simp only [V.spliceL, V.cellsL] at Fk2
  refine V.ru 1 ?_
  refine V.nt ?_
  refine V.ret ?_
  refine V.tR ?_
  refine V.done2 rfl (V.resV_cell T_ok Fk2 rfl rfl) (V.resV_tmp rfl) ?_
  rw [show rdS d = (((0, 0), 11), d) by unfold rdS; simp only; rw [if_pos (by first | assumption | omega)]]
  replace F10 := F10.gr G15
  replace F10 := F10.ma G20
  replace F10 := F10.ma G26
  replace F10 := F10.ma G30
  replace F10 := F10.ma G37
  replace F10 := F10.ma G42
  replace F35 := F35.ma G42
  replace HG := HG.grow (G4.trans G15)
  replace HG := HG.n1 G20
  replace HG := HG.n1 G26
  replace HG := HG.n1 G30
  replace HG := HG.n1 G37
  replace HG := HG.n1 G42
  exact ⟨(by first | rfl | simp only [List.length_set]), ⟨hnk, ⟨_, _, F35, (by first | exact F10 | exact F10.mono (fun k h => hnew k (by have := h.1; omega)) | exact F10.mono (fun k h => h.1))⟩⟩, HG⟩
 ·
  try replace h6 := V.dec h6
  try simp only [V.mk] at h6
  refine V.skip ?_
  refine V.tN ?_
  refine V.sr ?_
  refine V.ru 2 ?_
  refine V.mkStruct T_ok zero33 rfl rfl rfl rfl rfl ?_
  replace Fk2 := Fk2.gr G15
  replace Fk2 := Fk2.ma G20
  replace Fk2 := Fk2.ma G26
  replace Fk2 := Fk2.ma G30
  refine V.storeO Fk2 rfl rfl rfl rfl sz33 rfl rfl rfl rfl ?_
  rintro w46 G47 z49 Fs48
  clear Fk2
  have z50 := V.Fr.size G47
  have Fk2 := Fs48; clear Fs48
  simp only [V.spliceL, V.cellsL] at Fk2
  refine V.ru 1 ?_
  refine V.nt ?_
  refine V.ret ?_
  refine V.done2 rfl (V.resV_cell T_ok Fk2 rfl rfl) (V.resV_tmp rfl) ?_
  rw [show rdS d = (((_, _), 0), _) by unfold rdS; simp only; rw [if_neg (by omega)]]
  replace F28 := F28.ma G47
  replace HG := HG.grow (G4.trans G15)
  replace HG := HG.n1 G20
  replace HG := HG.n1 G26
  replace HG := HG.n1 G30
  replace HG := HG.n1 G47
  exact ⟨(by first | rfl | simp only [List.length_set]), (F28.mono (fun _ h => h.1) hnk), HG⟩


theorem rdS_stB {x y : Int} (h : stR x y) (r : List UInt8) : rdS (stB x y ++ r) = (((x, y), 0), r) := by
  obtain ⟨h1, h2, h3, h4⟩ := h
  have e1 := rdN_num (v := x.toNat) (most := 1099511627776) (by omega) (by omega) (numB y.toNat ++ r)
  have e2 := rdN_num (v := y.toNat) (most := 65535) (by omega) (by omega) r
  rw [Int.toNat_of_nonneg h1] at e1
  rw [Int.toNat_of_nonneg h3] at e2
  unfold rdS
  simp only [stB, List.append_assoc, e1, e2]
  simp
theorem rdS_ok {cs : List UInt8} (h : (rdS cs).1.2 = 0) : ∃ x y r, cs = stB x y ++ r ∧ stR x y ∧ rdS cs = (((x, y), 0), r) := by
  by_cases hc : (rdN cs 1099511627776).1.2 ≠ 0 ∨ (rdN (rdN cs 1099511627776).2 65535).1.2 ≠ 0
  · unfold rdS at h; simp only [hc] at h; simp at h
  · have h1 : (rdN cs 1099511627776).1.2 = 0 := by omega
    have h2 : (rdN (rdN cs 1099511627776).2 65535).1.2 = 0 := by omega
    obtain ⟨u, r1, e1, l1, m1, n1⟩ := rdN_ok h1
    rw [n1] at h2
    obtain ⟨v, r2, e2, l2, m2, n2⟩ := rdN_ok h2
    have hR : stR (u : Int) (v : Int) := ⟨by omega, by omega, by omega, by omega⟩
    have e : cs = stB (u : Int) (v : Int) ++ r2 := by
      dsimp only at e2
      rw [e1, e2]; simp [stB]
    exact ⟨u, v, r2, e, hR, by conv => lhs; rw [e]
                               exact rdS_stB hR r2⟩
end Go.Proofs.YtmmgmkklakkooaaGreat
