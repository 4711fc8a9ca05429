/- Proved here: walks: what functions of this seat's program return and what they leave of memory, each as a contract. Conditions: stated at each theorem. -/
import Derived.Test.YtmmgmkklakkooaaGreatMtk
namespace Go.Proofs.YtmmgmkklakkooaaGreat
set_option linter.unusedVariables false
set_option linter.unusedSimpArgs false
open Go
open V (Bytes Meets Env Sl Own Gr Fr Cells S)

theorem szT2 {d : List UInt8} {q : ByteArray} (h : S (rdT d 65536).1.1 = q) : q.size ≤ 65536 := by
  have := rdT_leM d
  subst h; rw [V.S_size]; omega
def enL : Nat → Bool → List UInt8 → List (Int × List UInt8) → Bool × List UInt8 × List (Int × List UInt8)
  | 0, b, d, acc => (b, d, acc)
  | n + 1, b, d, acc => if b = true then (b, d, acc) else kN b d fun t b d => kT b d fun s b d => enL n b d (acc ++ [(t, s.data.toList)])
/-- entries, read -/
def ents (b : Bool) (d : List UInt8) : Bool × List UInt8 × List (Int × List UInt8) := kN b d fun n b d => enL n.toNat b d []
theorem enL_end {n : Int} {b : Bool} {d : List UInt8} {acc : List (Int × List UInt8)} (h : ¬ (0 < n ∧ b = false)) : enL n.toNat b d acc = (b, d, acc) := by
  rcases hn : n.toNat with _ | k
  · rfl
  · cases b
    · exact absurd ⟨by omega, rfl⟩ h
    · rfl
theorem enL_succ {n : Int} {b : Bool} {d : List UInt8} {acc : List (Int × List UInt8)} (h : 0 < n) (hb : b = false) : enL n.toNat b d acc = kN b d fun t b d => kT b d fun s b d => enL (n - 1).toNat b d (acc ++ [(t, s.data.toList)]) := by
  subst hb
  rw [show n.toNat = (n - 1).toNat + 1 by omega]
  rfl
def kvL : Nat → Bool → List UInt8 → List (ByteArray × ByteArray) → Bool × List UInt8 × List (ByteArray × ByteArray)
  | 0, b, d, acc => (b, d, acc)
  | n + 1, b, d, acc => if b = true then (b, d, acc) else kT b d fun t b d => kT b d fun s b d => kvL n b d (acc ++ [(t, s)])
theorem kvL_end {n : Int} {b : Bool} {d : List UInt8} {acc : List (ByteArray × ByteArray)} (h : ¬ (0 < n ∧ b = false)) : kvL n.toNat b d acc = (b, d, acc) := by
  rcases hn : n.toNat with _ | k
  · rfl
  · cases b
    · exact absurd ⟨by omega, rfl⟩ h
    · rfl
theorem kvL_succ {n : Int} {b : Bool} {d : List UInt8} {acc : List (ByteArray × ByteArray)} (h : 0 < n) (hb : b = false) : kvL n.toNat b d acc = kT b d fun t b d => kT b d fun s b d => kvL (n - 1).toNat b d (acc ++ [(t, s)]) := by
  subst hb
  rw [show n.toNat = (n - 1).toNat + 1 by omega]
  rfl
def kR {α : Type} (b : Bool) (d : List UInt8) (k : RecV → Bool → List UInt8 → α) : α := k ((rdRec d).1.getD recZ) (b || decide (¬ (if (rdRec d).1.isSome = true then (0 : Int) else 11) = 0)) (rdRec d).2
theorem kR_eq {α : Type} {b b' : Bool} {d d' : List UInt8} {q : RecV} {k : RecV → Bool → List UInt8 → α} (h1 : (rdRec d).1.getD recZ = q) (h2 : (b || decide (¬ (if (rdRec d).1.isSome = true then (0 : Int) else 11) = 0)) = b') (h3 : (rdRec d).2 = d') : kR b d k = k q b' d' := by subst h1 h2 h3; rfl
def resEnd (er aw al : Int) (x : Bool × List UInt8 × List (ByteArray × ByteArray)) : ResV × Bool × List UInt8 :=
  kF x.1 x.2.1 fun fo b d => kN b d fun ti b d => kN b d fun te b d => kT b d fun an b d => kS b d fun sw sl b d => kR b d fun rc b d => (⟨er, aw, al, x.2.2, fo, ti, te, an, sw, sl, rc⟩, b, d)
/-- a result, read -/
def resL (b : Bool) (d : List UInt8) : ResV × Bool × List UInt8 := kN b d fun er b d => kS b d fun aw al b d => kN b d fun n b d => resEnd er aw al (kvL n.toNat b d [])
theorem kvOk.snoc {ps : List (ByteArray × ByteArray)} {x : ByteArray × ByteArray} (h : kvOk ps) (hx : x.1.size ≤ 9223372036854775807 ∧ x.2.size ≤ 9223372036854775807) : kvOk (ps ++ [x]) := by
  intro y hy
  rcases List.mem_append.1 hy with h1 | h1
  · exact h y h1
  · rw [List.mem_singleton.1 h1]; exact hx
theorem kvL_ok : ∀ (n : Nat) (b : Bool) (d : List UInt8) (acc : List (ByteArray × ByteArray)), kvOk acc → kvOk (kvL n b d acc).2.2
  | 0, _, _, _, h => h
  | n + 1, b, d, acc, h => by
    unfold kvL
    split
    · exact h
    · show kvOk (kvL n _ _ (acc ++ [(S (rdT d 65536).1.1, S (rdT (rdT d 65536).2 65536).1.1)])).2.2
      exact kvL_ok n _ _ _ (h.snoc ⟨szT (d := d) rfl, szT (d := (rdT d 65536).2) rfl⟩)
theorem rec_keys (d : List UInt8) : keysOk ((rdRec d).1.getD recZ).ws := by
  cases hv : (rdRec d).1 with
  | none => exact keysOk.nil
  | some v =>
    have := (rec_sound hv).2.2.2.2
    intro x hx
    have := this x hx
    omega
theorem rec_keys' {d : List UInt8} {y : Option RecV × List UInt8} (h : rdRec d = y) : keysOk (y.1.getD recZ).ws := h ▸ rec_keys d
theorem resEnd_sz {er aw al : Int} {x : Bool × List UInt8 × List (ByteArray × ByteArray)} (h : kvOk x.2.2) : SzR (resEnd er aw al x).1 := by
  simp only [resEnd, kF, kN, kT, kS, kR]
  refine ⟨h, ?_, ?_⟩
  · exact szT (d := _) rfl
  · generalize hx : rdRec _ = y
    exact rec_keys' hx
theorem resL_sz (b : Bool) (d : List UInt8) : SzR (resL b d).1 := by
  simp only [resL, kN, kS]
  exact resEnd_sz (kvL_ok _ _ _ _ (fun _ h => by cases h))
theorem sz_cmd {d : CmdV} (h : cmdB d = true) : SzOk d := by
  have hs := cmd_small h
  have := hs.an; have := hs.fr; have := hs.to; have := hs.va
  exact ⟨by omega, by omega, by omega, by omega, fun x hx => by have := (hs.wn x hx).1; omega⟩
theorem decC_cmd {d : List UInt8} {c : CmdV} (h : decC d = some c) : cmdB c = true := by
  unfold decC at h
  by_cases hc : (decAll d).2.1 = false ∧ (decAll d).2.2 = [] ∧ cmdB (decAll d).1 = true
  · rw [if_pos hc] at h; cases h; exact hc.2.2
  · rw [if_neg hc] at h; cases h
theorem sz_getD (d : List UInt8) : SzOk ((decC d).getD cmdZ) := by
  cases h : decC d with
  | none => exact ⟨by decide, by decide, by decide, by decide, fun _ h => by cases h⟩
  | some c => exact sz_cmd (decC_cmd h)

set_option maxHeartbeats 900000 in
set_option maxRecDepth 10000 in
theorem mtk_ents {w : World} {kt k : Nat} {D : Nat → Prop} {d : List UInt8} {bad : Bool} (Ft : Cells w kt [.pointer (some ⟨k, 0, none⟩), .bool bad] 105) (FX : Rd w k D d) (n1 : kt ≠ k) (n5 : ¬ D kt)   :
    Meets Tryz.prog 60 [.pointer (some ⟨kt, 0, none⟩)] w fun r w' => ∃ (ra98 : Option Addr) (rc98 : Nat), r = .slice ra98 ((ents bad d).2.2).length rc98 ∧ Rd w' k D ((ents bad d).2.1) ∧ Cells w' kt [.pointer (some ⟨k, 0, none⟩), .bool ((ents bad d).1)] 105 ∧ V.Row V.Cod.ent 74 w' V.None' w.heap.size w'.heap.size ra98 rc98 ((ents bad d).2.2) ∧ Fr [k, kt] w w' := by
 have hkl := FX.lt
 have hnk := FX.nk
 replace FX := FX.flb
 have hktl := Ft.lt
 have HG := V.Fr.refl [k, kt] w
 refine V.enter (n := 33) Tryz.func60 rfl rfl (by decide) rfl ?_
 refine V.sr ?_
 refine V.ru 1 ?_
 refine V.nt ?_
 refine V.sr ?_
 refine V.ru 1 ?_
 refine V.nt ?_
 refine V.sr ?_
 refine V.alloc zero3 rfl rfl rfl ?_
 rintro k1 w3 s5 s6 G4 Fk2
 have z7 := V.Fr.size G4
 try simp only [V.cellsL, V.spliceL] at Fk2
 refine V.nt ?_
 refine V.seq ?_
 refine V.sr ?_
 refine V.ru 1 ?_
 replace Ft := Ft.gr G4
 replace FX := FX.gr G4
 refine V.call (mtk_number (Ft := Ft) (FX := FX) (Fx := Fk2) (off := 0) (hle := rfl) (n1 := by omega) (n2 := by omega) (n3 := by omega) (n4 := (by intro h; first | exact n5 h.1 | (have := h.1; have := h.2; omega))) (n5 := (by intro h; first | exact n5 h.1 | (have := h.1; have := h.2; omega)))) rfl rfl rfl ?_
 rintro _ w11 ⟨rfl, F8, F9, F10, G12⟩
 have z13 := V.Fr.size G12
 simp only [V.spliceL, V.cellsL] at F10
 refine V.nt ?_
 refine V.block ?_
 generalize hd1 : (rdN d 1099511627776).2 = d1 at F8
 generalize hb1 : (bad || decide (¬ (rdN d 1099511627776).1.2 = 0)) = b1 at F9
 generalize hq1_0 : (rdN d 1099511627776).1.1 = q1_0 at F10
 have hR : ents bad d = enL q1_0.toNat b1 d1 [] := by
  unfold ents; rw [kN_eq hq1_0 hb1 hd1]
 have hrn := rngN hq1_0
 clear hq1_0 hb1 hd1
 replace HG := HG.grow G4
 replace HG := HG.nS G12
 refine V.loopM (fun m e v15 => Fr [k, kt] w v15 ∧ w11.heap.size ≤ v15.heap.size ∧ ∃ (wr : Int) (bd : Bool) (cur : List UInt8) (acc : List (Int × List UInt8)) (ra101 : Option Addr) (rc101 : Nat), m = wr.toNat ∧ 0 ≤ wr ∧ wr ≤ 1099511627776 ∧ enL wr.toNat bd cur acc = enL q1_0.toNat b1 d1 [] ∧ (acc.length : Int) + wr ≤ 1099511627776 ∧ V.Row V.Cod.ent 74 v15 V.None' w11.heap.size v15.heap.size ra101 rc101 acc ∧ Rd v15 k (fun j => D j ∧ j < w.heap.size) cur ∧ Cells v15 kt [.pointer (some ⟨k, 0, none⟩), .bool bd] 105 ∧ Cells v15 k1 [.int .i64 wr] 3 ∧ e 0 = .pointer (some ⟨kt, 0, none⟩) ∧ e 3 = .slice ra101 acc.length rc101 ∧ e 4 = .pointer (some ⟨k1, 0, none⟩)) ?_ ?_
 ·
  exact ⟨_, HG, (by omega), (q1_0), (b1), (d1), ([]), none, 0, rfl, (by omega), (by omega), (rfl), (by simp; omega), V.Row.nil, F8, F9, F10, rfl, rfl, rfl⟩
 clear HG F8 F9 F10
 rintro _ e v15 ⟨HG, z16, wr, bd, cur, acc, ra101, rc101, rfl, hw0, hw1, hinv, hal, rF101, F8, F9, F10, he0_0, he0_3, he0_4⟩
 refine V.knownC (t := 0) he0_0 ?_
 refine V.knownC (t := 3) he0_3 ?_
 refine V.knownC (t := 4) he0_4 ?_
 refine V.seq ?_
 refine V.sr ?_
 refine V.loadO T_ok F10 rfl rfl rfl rfl rfl ?_
 refine V.ru 2 ?_
 refine V.split (j := 2) (t := 11) rfl rfl (fun g4_2 => ?_) (fun g4_2 => ?_)
 ·
  try replace g4_2 := V.dec g4_2
  try simp only [V.mk] at g4_2
  refine V.ru 3 ?_
  refine V.yes rfl rfl rfl ?_
  refine V.loadO T_ok F9 rfl rfl rfl rfl rfl ?_
  refine V.ru 2 ?_
  refine V.nt ?_
  refine V.condT rfl (fun h4 => ?_) (fun h4 => ?_)
  ·
   try replace h4 := V.dec h4
   try simp only [V.mk] at h4
   refine V.skip ?_
   refine V.tN ?_
   refine V.seq ?_
   refine V.block ?_
   refine V.sr ?_
   refine V.alloc zero74 rfl rfl rfl ?_
   rintro k17 w19 s21 s22 G20 Fk18
   have z23 := V.Fr.size G20
   try simp only [V.cellsL, V.spliceL] at Fk18
   refine V.nt ?_
   refine V.sr ?_
   refine V.alloc zero9 rfl rfl rfl ?_
   rintro k24 w26 s28 s29 G27 Fk25
   have z30 := V.Fr.size G27
   try simp only [V.cellsL, V.spliceL] at Fk25
   refine V.nt ?_
   refine V.sr ?_
   refine V.ru 2 ?_
   replace F8 := F8.gr (G20.trans G27)
   replace F9 := F9.gr (G20.trans G27)
   replace Fk18 := Fk18.gr G27
   refine V.call (mtk_number (Ft := F9) (FX := F8) (Fx := Fk18) (off := 0) (hle := rfl) (n1 := by omega) (n2 := by omega) (n3 := by omega) (n4 := (by intro h; first | exact n5 h.1 | (have := h.1; have := h.2; omega))) (n5 := (by intro h; first | exact n5 h.1 | (have := h.1; have := h.2; omega)))) rfl rfl rfl ?_
   rintro _ w34 ⟨rfl, F31, F32, F33, G35⟩
   have z36 := V.Fr.size G35
   simp only [V.spliceL, V.cellsL] at F33
   refine V.nt ?_
   refine V.sr ?_
   refine V.ru 1 ?_
   replace Fk25 := Fk25.mS G35
   refine V.call (mtk_text (Ft := F32) (FX := F31) (Fx := Fk25) (off := 0) (hle := rfl) (n1 := by omega) (n2 := by omega) (n3 := by omega) (n4 := (by intro h; first | exact n5 h.1 | (have := h.1; have := h.2; omega))) (n5 := (by intro h; first | exact n5 h.1 | (have := h.1; have := h.2; omega)))) rfl rfl rfl ?_
   rintro _ w40 ⟨rfl, F37, F38, F39, G41⟩
   have z42 := V.Fr.size G41
   simp only [V.spliceL, V.cellsL] at F39
   refine V.nt ?_
   refine V.sr ?_
   refine V.loadO T_ok F39 rfl rfl rfl rfl rfl ?_
   have hsT : (S (rdT ((rdN cur 1099511627776).2) 65536).1.1).size ≤ maxLen := by have := szT2 (q := S (rdT ((rdN cur 1099511627776).2) 65536).1.1) rfl; simp only [maxLen]; omega
   refine V.ofStr Tryz.underlying9 Tryz.underlying31 Tryz.underlying5 rfl rfl rfl rfl (by omega) ?_
   rintro a43 c44 w46 G47 s48 F45
   have z49 := V.Fr.size G47
   refine V.ru 1 ?_
   replace F33 := F33.mS G41
   replace F33 := F33.gr G47
   refine V.storeO F33 rfl rfl rfl rfl sz31 rfl rfl rfl rfl ?_
   rintro w50 G51 z53 Fs52
   clear F33
   have z54 := V.Fr.size G51
   have F33 := Fs52; clear Fs52
   simp only [V.spliceL, V.cellsL] at F33
   refine V.nt ?_
   refine V.region ?_
   refine V.ru 1 ?_
   refine V.loadO T_ok F33 rfl rfl rfl rfl rfl ?_
   refine V.mkSlice T_ok zero74 rfl rfl sz74 rfl rfl rfl rfl rfl rfl ?_
   rintro k55 w58 s60 s61 G59 Fk56
   have z62 := V.Fr.size G59
   replace F45 := F45.ma G51
   replace F45 := F45.gr G59
   have F57 : Sl V.Cod.ent w58 (fun k => k = k55 ∨ (V.In w40.heap.size w46.heap.size) k) (some ⟨k55, 0, none⟩) ([((rdN cur 1099511627776).1.1, (S (rdT ((rdN cur 1099511627776).2) 65536).1.1).data.toList)] : List (Int × List UInt8)).length ([((rdN cur 1099511627776).1.1, (S (rdT ((rdN cur 1099511627776).2) 65536).1.1).data.toList)] : List (Int × List UInt8)) := V.Cells.sl Fk56 (V.reps_cons (x := ((rdN cur 1099511627776).1.1, (S (rdT ((rdN cur 1099511627776).2) 65536).1.1).data.toList)) ⟨_, _, rfl, rfl, ⟨_, _, rfl, F45.mono (fun k h => .inr (h))⟩⟩ rfl rfl) (.inl rfl) (by simp [maxLen])
   have hDu63 : ∀ k, (fun k => k = k55 ∨ (V.In w40.heap.size w46.heap.size) k) k → k < w58.heap.size := by intro k h; (try dsimp only at h); rcases h with h | h <;> first | omega | (have := h.2; omega) | (have := h.1; omega) | (have := hD k h; omega)
   replace rF101 := rF101.gr (G20.trans G27)
   replace rF101 := rF101.mS G35
   replace rF101 := rF101.mS G41
   replace rF101 := rF101.gr G47
   replace rF101 := rF101.ma G51
   replace rF101 := rF101.gr G59
   refine V.appendR (rF101) (F57.from Tryz.underlying30) elT30_30 rfl rfl rfl rfl rfl V.lenA (by unfold maxLen; first | omega | (simp only [List.length_take, List.length_drop, List.length_append, List.length_cons, List.length_nil, List.length_replicate, List.length_set, V.length_data, V.S_size]; omega)) (by omega) (by omega) (fun _ h => h.elim) (by first | omega | (intro k h; (try dsimp only at h); first | exact .inl h | exact .inr ⟨by have := h.1; omega, by have := h.2; omega⟩ | (rcases h with h | h <;> first | exact .inr ⟨by omega, by omega⟩ | exact .inr ⟨by have := h.1; omega, by have := h.2; omega⟩ | exact .inl h))) ?_
   rintro a64 c65 w67 G68 s69 F66
   clear rF101
   clear F57
   have z70 := Go.RowKit.Below.size G68
   refine V.ru 1 ?_
   refine V.nil ?_
   refine V.bN ?_
   refine V.tN ?_
   refine V.region ?_
   replace F10 := F10.gr (G20.trans G27)
   replace F10 := F10.mS G35
   replace F10 := F10.mS G41
   replace F10 := F10.gr G47
   replace F10 := F10.ma G51
   replace F10 := F10.gr G59
   replace F10 := V.Cells.bl F10 G68 (by first | assumption | omega)
   refine V.loadO T_ok F10 rfl rfl rfl rfl rfl ?_
   refine V.subN rfl rfl rfl rfl rfl V.lenA V.lenA ?_
   refine V.storeO F10 rfl rfl rfl rfl sz3 rfl rfl rfl rfl ?_
   rintro w71 G72 z74 Fs73
   clear F10
   have z75 := V.Fr.size G72
   have F10 := Fs73; clear Fs73
   simp only [V.spliceL, V.cellsL] at F10
   refine V.nt ?_
   replace F37 := F37.gr G47
   replace F37 := F37.ma G51
   replace F37 := F37.gr G59
   replace F37 := F37.bl G68 (by first | exact ⟨by omega, fun j h => by have := h.2; omega⟩ | (first | omega | exact fun h => h | exact ⟨by omega, fun h => h⟩ | (intro h; first | (have := hD _ h; omega)) | (refine ⟨by omega, ?_⟩; intro h; first | (have := hD _ h; omega))))
   replace F37 := F37.ma G72
   replace F38 := F38.gr G47
   replace F38 := F38.ma G51
   replace F38 := F38.gr G59
   replace F38 := V.Cells.bl F38 G68 (by first | assumption | omega)
   replace F38 := F38.ma G72
   replace F66 := F66.ma G72
   replace HG := HG.grow (G20.trans G27)
   replace HG := HG.nS G35
   replace HG := HG.nS G41
   replace HG := HG.grow G47
   replace HG := HG.n1 G51
   replace HG := HG.grow G59
   replace HG := HG.bl (Go.RowKit.Below.mono G68 (by first | assumption | omega))
   replace HG := HG.n1 G72
   exact ⟨_, (by omega), HG, (by omega), (wr - 1), ((bd || decide (¬ (rdN cur 1099511627776).1.2 = 0)) || decide (¬ (rdT ((rdN cur 1099511627776).2) 65536).1.2 = 0)), ((rdT ((rdN cur 1099511627776).2) 65536).2), (acc ++ ([((rdN cur 1099511627776).1.1, (S (rdT ((rdN cur 1099511627776).2) 65536).1.1).data.toList)] : List (Int × List UInt8))), a64, c65, rfl, (by omega), (by omega), ((enL_succ g4_2 h4).symm.trans hinv), (by rw [List.length_append]; simp; omega), F66.re, F37, F38, F10, rfl, rfl, rfl⟩
  ·
   try replace h4 := V.dec h4
   try simp only [V.mk] at h4
   refine V.exit ?_
   refine V.tX ?_
   refine V.tX ?_
   refine V.bE ?_
   refine V.tN ?_
   refine V.sr ?_
   refine V.ru 2 ?_
   refine V.nt ?_
   refine V.ret ?_
   refine V.done rfl ?_
   have hE : ents bad d = (bd, cur, acc) := by rw [hR, ← hinv]; exact enL_end (by intro hq; first | exact g4_2 hq.1 | (have := hq.1; omega) | exact h4 hq.2 | (rw [hq.2] at h4; cases h4))
   rw [hE]
   exact ⟨_, _, rfl, (F8.mono (fun _ h => h.1) hnk), F9, rF101.re, HG⟩
 ·
  try replace g4_2 := V.dec g4_2
  try simp only [V.mk] at g4_2
  refine V.ru 6 ?_
  refine V.nt ?_
  refine V.condN rfl rfl ?_
  refine V.exit ?_
  refine V.tX ?_
  refine V.tX ?_
  refine V.bE ?_
  refine V.tN ?_
  refine V.sr ?_
  refine V.ru 2 ?_
  refine V.nt ?_
  refine V.ret ?_
  refine V.done rfl ?_
  have hE : ents bad d = (bd, cur, acc) := by rw [hR, ← hinv]; exact enL_end (by intro hq; first | exact g4_2 hq.1 | (have := hq.1; omega) | exact h4 hq.2 | (rw [hq.2] at h4; cases h4))
  rw [hE]
  exact ⟨_, _, rfl, (F8.mono (fun _ h => h.1) hnk), F9, rF101.re, HG⟩

set_option maxHeartbeats 900000 in
set_option maxRecDepth 10000 in
theorem mtk_res {w : World} {kt k : Nat} {D : Nat → Prop} {d : List UInt8} {bad : Bool} (Ft : Cells w kt [.pointer (some ⟨k, 0, none⟩), .bool bad] 105) (FX : Rd w k D d) (n1 : kt ≠ k) (n5 : ¬ D kt)   :
    Meets Tryz.prog 66 [.pointer (some ⟨kt, 0, none⟩)] w fun r w' => ∃ (ra102 : Option Addr) (rc102 : Nat) (ra103 : Option Addr) (rc103 : Nat), r = .agg #[.int .i64 ((resL bad d).1.er), .int .i64 ((resL bad d).1.aw), .int .i64 ((resL bad d).1.al), .slice ra102 ((resL bad d).1.ps).length rc102, .bool ((resL bad d).1.fo), .int .i64 ((resL bad d).1.ti), .int .i64 ((resL bad d).1.te), .string ((resL bad d).1.an), .int .i64 ((resL bad d).1.sw), .int .i64 ((resL bad d).1.sl), .int .i64 ((resL bad d).1.rc.id), .int .i64 ((resL bad d).1.rc.ep), .int .i64 ((resL bad d).1.rc.st), .int .i64 ((resL bad d).1.rc.aw), .int .i64 ((resL bad d).1.rc.al), .int .i64 ((resL bad d).1.rc.bw), .int .i64 ((resL bad d).1.rc.bl), .slice ra103 ((resL bad d).1.rc.ws).length rc103] ∧ Rd w' k D ((resL bad d).2.2) ∧ Cells w' kt [.pointer (some ⟨k, 0, none⟩), .bool ((resL bad d).2.1)] 105 ∧ V.Row (V.Cod.pair V.Cod.str V.Cod.str) 76 w' V.None' w.heap.size w'.heap.size ra102 rc102 ((resL bad d).1.ps) ∧ Sl V.Cod.write w' (V.In w.heap.size w'.heap.size) ra103 rc103 ((resL bad d).1.rc.ws) ∧ Fr [k, kt] w w' := by
 have hkl := FX.lt
 have hnk := FX.nk
 replace FX := FX.flb
 have hktl := Ft.lt
 have HG := V.Fr.refl [k, kt] w
 refine V.enter (n := 68) Tryz.func66 rfl rfl (by decide) rfl ?_
 refine V.sr ?_
 refine V.box rfl rfl rfl rfl ?_
 rintro k1 w3 s5 s6 G4 Fk2
 have z7 := V.Fr.size G4
 try simp only [V.cellsL, V.spliceL] at Fk2
 refine V.alloc zero48 rfl rfl rfl ?_
 rintro k8 w10 s12 s13 G11 Fk9
 have z14 := V.Fr.size G11
 try simp only [V.cellsL, V.spliceL] at Fk9
 refine V.nt ?_
 refine V.sr ?_
 refine V.alloc zero48 rfl rfl rfl ?_
 rintro k15 w17 s19 s20 G18 Fk16
 have z21 := V.Fr.size G18
 try simp only [V.cellsL, V.spliceL] at Fk16
 refine V.nt ?_
 refine V.sr ?_
 refine V.alloc zero3 rfl rfl rfl ?_
 rintro k22 w24 s26 s27 G25 Fk23
 have z28 := V.Fr.size G25
 try simp only [V.cellsL, V.spliceL] at Fk23
 refine V.alloc zero3 rfl rfl rfl ?_
 rintro k29 w31 s33 s34 G32 Fk30
 have z35 := V.Fr.size G32
 try simp only [V.cellsL, V.spliceL] at Fk30
 refine V.nt ?_
 refine V.sr ?_
 replace Fk2 := Fk2.gr (G11.trans (G18.trans (G25.trans G32)))
 refine V.loadO T_ok Fk2 rfl rfl rfl rfl rfl ?_
 replace Ft := Ft.gr (G4.trans (G11.trans (G18.trans (G25.trans G32))))
 replace FX := FX.gr (G4.trans (G11.trans (G18.trans (G25.trans G32))))
 replace Fk23 := Fk23.gr G32
 refine V.call (mtk_number (Ft := Ft) (FX := FX) (Fx := Fk23) (off := 0) (hle := rfl) (n1 := by omega) (n2 := by omega) (n3 := by omega) (n4 := (by intro h; first | exact n5 h.1 | (have := h.1; have := h.2; omega))) (n5 := (by intro h; first | exact n5 h.1 | (have := h.1; have := h.2; omega)))) rfl rfl rfl ?_
 rintro _ w39 ⟨rfl, F36, F37, F38, G40⟩
 have z41 := V.Fr.size G40
 simp only [V.spliceL, V.cellsL] at F38
 refine V.nt ?_
 refine V.seq ?_
 generalize hd1 : (rdN d 1099511627776).2 = d1 at F36
 generalize hb1 : (bad || decide (¬ (rdN d 1099511627776).1.2 = 0)) = b1 at F37
 generalize hq1_0 : (rdN d 1099511627776).1.1 = q1_0 at F38
 refine V.region ?_
 replace Fk2 := Fk2.mS G40
 refine V.loadO T_ok Fk2 rfl rfl rfl rfl rfl ?_
 refine V.ru 1 ?_
 replace Fk16 := Fk16.gr (G25.trans G32)
 replace Fk16 := Fk16.mS G40
 refine V.call (mtk_stamp (Ft := F37) (FX := F36) (Fx := Fk16) (off := 1) (hle := rfl) (n1 := by omega) (n2 := by omega) (n3 := by omega) (n4 := (by intro h; first | exact n5 h.1 | (have := h.1; have := h.2; omega))) (n5 := (by intro h; first | exact n5 h.1 | (have := h.1; have := h.2; omega)))) rfl rfl rfl ?_
 rintro _ w45 ⟨rfl, F42, F43, F44, G46⟩
 have z47 := V.Fr.size G46
 simp only [V.spliceL, V.cellsL] at F44
 refine V.nt ?_
 refine V.seq ?_
 refine V.seq ?_
 have z48 : w39.heap.size ≤ w45.heap.size := by omega
 try clear z47
 generalize hd2 : (rdS d1).2 = d2 at F42
 generalize hb2 : (b1 || decide (¬ (rdS d1).1.2 = 0)) = b2 at F43
 generalize hq2_0 : (rdS d1).1.1.1 = q2_0 at F44
 generalize hq2_1 : (rdS d1).1.1.2 = q2_1 at F44
 refine V.region ?_
 replace Fk2 := Fk2.mS G46
 refine V.loadO T_ok Fk2 rfl rfl rfl rfl rfl ?_
 replace Fk30 := Fk30.mS G40
 replace Fk30 := Fk30.mS G46
 refine V.call (mtk_number (Ft := F43) (FX := F42) (Fx := Fk30) (off := 0) (hle := rfl) (n1 := by omega) (n2 := by omega) (n3 := by omega) (n4 := (by intro h; first | exact n5 h.1 | (have := h.1; have := h.2; omega))) (n5 := (by intro h; first | exact n5 h.1 | (have := h.1; have := h.2; omega)))) rfl rfl rfl ?_
 rintro _ w52 ⟨rfl, F49, F50, F51, G53⟩
 have z54 := V.Fr.size G53
 simp only [V.spliceL, V.cellsL] at F51
 refine V.nt ?_
 refine V.block ?_
 have z55 : w45.heap.size ≤ w52.heap.size := by omega
 try clear z54
 generalize hd3 : (rdN d2 1099511627776).2 = d3 at F49
 generalize hb3 : (b2 || decide (¬ (rdN d2 1099511627776).1.2 = 0)) = b3 at F50
 generalize hq3_0 : (rdN d2 1099511627776).1.1 = q3_0 at F51
 have hR : resL bad d = resEnd q1_0 q2_0 q2_1 (kvL q3_0.toNat b3 d3 []) := by
  unfold resL; rw [kN_eq hq1_0 hb1 hd1, kS_eq hq2_0 hq2_1 hb2 hd2, kN_eq hq3_0 hb3 hd3]
 have hrn := rngN hq3_0
 clear hq1_0 hb1 hd1 hq2_0 hq2_1 hb2 hd2 hq3_0 hb3 hd3
 replace Fk2 := Fk2.mS G53
 replace Fk9 := Fk9.gr (G18.trans (G25.trans G32))
 replace Fk9 := Fk9.mS G40
 replace Fk9 := Fk9.mS G46
 replace Fk9 := Fk9.mS G53
 replace F38 := F38.mS G46
 replace F38 := F38.mS G53
 replace F44 := F44.mS G53
 replace HG := HG.grow (G4.trans (G11.trans (G18.trans (G25.trans G32))))
 replace HG := HG.nS G40
 replace HG := HG.nS G46
 replace HG := HG.nS G53
 refine V.loopM (fun m e v57 => Fr [k, kt] w v57 ∧ w52.heap.size ≤ v57.heap.size ∧ Cells v57 k1 [.pointer (some ⟨kt, 0, none⟩)] 101 ∧ Cells v57 k8 [.int .i64 0, .int .i64 0, .int .i64 0, .slice none 0 0, .bool false, .int .i64 0, .int .i64 0, .string ByteArray.empty, .int .i64 0, .int .i64 0, .int .i64 0, .int .i64 0, .int .i64 0, .int .i64 0, .int .i64 0, .int .i64 0, .int .i64 0, .slice none 0 0] 48 ∧ Cells v57 k22 [.int .i64 q1_0] 3 ∧ ∃ (wr : Int) (bd : Bool) (cur : List UInt8) (acc : List (ByteArray × ByteArray)) (ra9 : Option Addr) (rc9 : Nat), m = wr.toNat ∧ 0 ≤ wr ∧ wr ≤ 1099511627776 ∧ kvL wr.toNat bd cur acc = kvL q3_0.toNat b3 d3 [] ∧ (acc.length : Int) + wr ≤ 1099511627776 ∧ Cells v57 k15 [.int .i64 0, .int .i64 q2_0, .int .i64 q2_1, .slice ra9 acc.length rc9, .bool false, .int .i64 0, .int .i64 0, .string ByteArray.empty, .int .i64 0, .int .i64 0, .int .i64 0, .int .i64 0, .int .i64 0, .int .i64 0, .int .i64 0, .int .i64 0, .int .i64 0, .slice none 0 0] 48 ∧ V.Row (V.Cod.pair V.Cod.str V.Cod.str) 76 v57 V.None' w52.heap.size v57.heap.size ra9 rc9 acc ∧ Rd v57 k (fun j => D j ∧ j < w.heap.size) cur ∧ Cells v57 kt [.pointer (some ⟨k, 0, none⟩), .bool bd] 105 ∧ Cells v57 k29 [.int .i64 wr] 3 ∧ e 1 = .pointer (some ⟨k1, 0, none⟩) ∧ e 2 = .pointer (some ⟨k8, 0, none⟩) ∧ e 3 = .pointer (some ⟨k15, 0, none⟩) ∧ e 4 = .pointer (some ⟨k22, 0, none⟩) ∧ e 5 = .pointer (some ⟨k29, 0, none⟩)) ?_ ?_
 ·
  exact ⟨_, HG, (by omega), Fk2, Fk9, F38, (q3_0), (b3), (d3), ([]), _, _, rfl, (by omega), (by omega), (rfl), (by simp; omega), F44, V.Row.nil, F49, F50, F51, rfl, rfl, rfl, rfl, rfl⟩
 try clear F44
 clear HG Fk2 Fk9 F38 F49 F50 F51
 rintro _ e v57 ⟨HG, z58, Fk2, Fk9, F38, wr, bd, cur, acc, ra9, rc9, rfl, hw0, hw1, hinv, hal, rFk9, rF9, F49, F50, F51, he0_1, he0_2, he0_3, he0_4, he0_5⟩
 refine V.knownC (t := 1) he0_1 ?_
 refine V.knownC (t := 2) he0_2 ?_
 refine V.knownC (t := 3) he0_3 ?_
 refine V.knownC (t := 4) he0_4 ?_
 refine V.knownC (t := 5) he0_5 ?_
 refine V.seq ?_
 refine V.sr ?_
 refine V.loadO T_ok F51 rfl rfl rfl rfl rfl ?_
 refine V.ru 2 ?_
 refine V.split (j := 2) (t := 16) rfl rfl (fun g6_2 => ?_) (fun g6_2 => ?_)
 ·
  try replace g6_2 := V.dec g6_2
  try simp only [V.mk] at g6_2
  refine V.yes rfl rfl rfl ?_
  refine V.loadO T_ok Fk2 rfl rfl rfl rfl rfl ?_
  refine V.ru 2 ?_
  refine V.yes rfl rfl rfl ?_
  refine V.loadO T_ok F50 rfl rfl rfl rfl rfl ?_
  refine V.ru 2 ?_
  refine V.nt ?_
  refine V.condT rfl (fun h6 => ?_) (fun h6 => ?_)
  ·
   try replace h6 := V.dec h6
   try simp only [V.mk] at h6
   refine V.skip ?_
   refine V.tN ?_
   refine V.seq ?_
   refine V.block ?_
   refine V.sr ?_
   refine V.alloc zero76 rfl rfl rfl ?_
   rintro k59 w61 s63 s64 G62 Fk60
   have z65 := V.Fr.size G62
   try simp only [V.cellsL, V.spliceL] at Fk60
   refine V.nt ?_
   refine V.sr ?_
   replace Fk2 := Fk2.gr G62
   refine V.loadO T_ok Fk2 rfl rfl rfl rfl rfl ?_
   refine V.ru 1 ?_
   replace F49 := F49.gr G62
   replace F50 := F50.gr G62
   refine V.call (mtk_text (Ft := F50) (FX := F49) (Fx := Fk60) (off := 0) (hle := rfl) (n1 := by omega) (n2 := by omega) (n3 := by omega) (n4 := (by intro h; first | exact n5 h.1 | (have := h.1; have := h.2; omega))) (n5 := (by intro h; first | exact n5 h.1 | (have := h.1; have := h.2; omega)))) rfl rfl rfl ?_
   rintro _ w69 ⟨rfl, F66, F67, F68, G70⟩
   have z71 := V.Fr.size G70
   simp only [V.spliceL, V.cellsL] at F68
   refine V.nt ?_
   refine V.sr ?_
   replace Fk2 := Fk2.mS G70
   refine V.loadO T_ok Fk2 rfl rfl rfl rfl rfl ?_
   refine V.ru 1 ?_
   refine V.call (mtk_text (Ft := F67) (FX := F66) (Fx := F68) (off := 1) (hle := rfl) (n1 := by omega) (n2 := by omega) (n3 := by omega) (n4 := (by intro h; first | exact n5 h.1 | (have := h.1; have := h.2; omega))) (n5 := (by intro h; first | exact n5 h.1 | (have := h.1; have := h.2; omega)))) rfl rfl rfl ?_
   rintro _ w75 ⟨rfl, F72, F73, F74, G76⟩
   have z77 := V.Fr.size G76
   simp only [V.spliceL, V.cellsL] at F74
   refine V.nt ?_
   refine V.region ?_
   refine V.ru 1 ?_
   replace rFk9 := rFk9.gr G62
   replace rFk9 := rFk9.mS G70
   replace rFk9 := rFk9.mS G76
   refine V.loadO T_ok rFk9 rfl rfl rfl rfl rfl ?_
   refine V.loadO T_ok F74 rfl rfl rfl rfl rfl ?_
   refine V.mkSlice T_ok zero76 rfl rfl sz76 rfl rfl rfl rfl rfl rfl ?_
   rintro k78 w81 s83 s84 G82 Fk79
   have z85 := V.Fr.size G82
   have F80 := V.rowOfC (xs := ([(S (rdT cur 65536).1.1, S (rdT ((rdT cur 65536).2) 65536).1.1)] : List (ByteArray × ByteArray))) Fk79 (C := (V.Cod.pair V.Cod.str V.Cod.str)) (V.reps_cons (x := (S (rdT cur 65536).1.1, S (rdT ((rdT cur 65536).2) 65536).1.1)) ⟨_, _, rfl, rfl, rfl⟩ rfl rfl) rfl
   clear Fk79
   replace rF9 := rF9.gr G62
   replace rF9 := rF9.mS G70
   replace rF9 := rF9.mS G76
   replace rF9 := rF9.gr G82
   refine V.appendR (rF9) (V.From.flat V.flat_kv (D' := V.None') (F80.sl.from Tryz.underlying43)) elT43_43 rfl rfl rfl rfl rfl V.lenA (by unfold maxLen; first | omega | (simp only [List.length_take, List.length_drop, List.length_append, List.length_cons, List.length_nil, List.length_replicate, List.length_set, V.length_data, V.S_size]; omega)) (by omega) (by omega) (fun _ h => h.elim) (fun _ h => h.elim) ?_
   rintro a86 c87 w89 G90 s91 F88
   clear rF9
   clear F80
   have z92 := Go.RowKit.Below.size G90
   refine V.ru 1 ?_
   replace rFk9 := rFk9.gr G82
   replace rFk9 := V.Cells.bl rFk9 G90 (by first | assumption | omega)
   refine V.storeO rFk9 rfl rfl rfl rfl sz43 rfl rfl rfl rfl ?_
   rintro w93 G94 z96 Fs95
   clear rFk9
   have z97 := V.Fr.size G94
   have rFk9 := Fs95; clear Fs95
   simp only [V.spliceL, V.cellsL] at rFk9
   refine V.nil ?_
   refine V.bN ?_
   refine V.tN ?_
   refine V.region ?_
   replace F51 := F51.gr G62
   replace F51 := F51.mS G70
   replace F51 := F51.mS G76
   replace F51 := F51.gr G82
   replace F51 := V.Cells.bl F51 G90 (by first | assumption | omega)
   replace F51 := F51.ma G94
   refine V.loadO T_ok F51 rfl rfl rfl rfl rfl ?_
   refine V.subN rfl rfl rfl rfl rfl V.lenA V.lenA ?_
   refine V.storeO F51 rfl rfl rfl rfl sz3 rfl rfl rfl rfl ?_
   rintro w98 G99 z101 Fs100
   clear F51
   have z102 := V.Fr.size G99
   have F51 := Fs100; clear Fs100
   simp only [V.spliceL, V.cellsL] at F51
   refine V.nt ?_
   replace Fk2 := Fk2.mS G76
   replace Fk2 := Fk2.gr G82
   replace Fk2 := V.Cells.bl Fk2 G90 (by first | assumption | omega)
   replace Fk2 := Fk2.ma G94
   replace Fk2 := Fk2.ma G99
   replace Fk9 := Fk9.gr G62
   replace Fk9 := Fk9.mS G70
   replace Fk9 := Fk9.mS G76
   replace Fk9 := Fk9.gr G82
   replace Fk9 := V.Cells.bl Fk9 G90 (by first | assumption | omega)
   replace Fk9 := Fk9.ma G94
   replace Fk9 := Fk9.ma G99
   replace F38 := F38.gr G62
   replace F38 := F38.mS G70
   replace F38 := F38.mS G76
   replace F38 := F38.gr G82
   replace F38 := V.Cells.bl F38 G90 (by first | assumption | omega)
   replace F38 := F38.ma G94
   replace F38 := F38.ma G99
   replace F72 := F72.gr G82
   replace F72 := F72.bl G90 (by first | exact ⟨by omega, fun j h => by have := h.2; omega⟩ | (first | omega | exact fun h => h | exact ⟨by omega, fun h => h⟩ | (intro h; first | (have := hD _ h; omega)) | (refine ⟨by omega, ?_⟩; intro h; first | (have := hD _ h; omega))))
   replace F72 := F72.ma G94
   replace F72 := F72.ma G99
   replace F73 := F73.gr G82
   replace F73 := V.Cells.bl F73 G90 (by first | assumption | omega)
   replace F73 := F73.ma G94
   replace F73 := F73.ma G99
   replace F88 := F88.ma G94
   replace F88 := F88.ma G99
   replace rFk9 := rFk9.ma G99
   replace HG := HG.grow G62
   replace HG := HG.nS G70
   replace HG := HG.nS G76
   replace HG := HG.grow G82
   replace HG := HG.bl (Go.RowKit.Below.mono G90 (by first | assumption | omega))
   replace HG := HG.n1 G94
   replace HG := HG.n1 G99
   exact ⟨_, (by omega), HG, (by omega), Fk2, Fk9, F38, (wr - 1), ((bd || decide (¬ (rdT cur 65536).1.2 = 0)) || decide (¬ (rdT ((rdT cur 65536).2) 65536).1.2 = 0)), ((rdT ((rdT cur 65536).2) 65536).2), (acc ++ ([(S (rdT cur 65536).1.1, S (rdT ((rdT cur 65536).2) 65536).1.1)] : List (ByteArray × ByteArray))), _, _, rfl, (by omega), (by omega), ((kvL_succ g6_2 h6).symm.trans hinv), (by rw [List.length_append]; simp; omega), rFk9, F88.re, F72, F73, F51, rfl, rfl, rfl, rfl, rfl⟩
  ·
   try replace h6 := V.dec h6
   try simp only [V.mk] at h6
   refine V.exit ?_
   refine V.tX ?_
   refine V.tX ?_
   refine V.bE ?_
   refine V.tN ?_
   refine V.seq ?_
   refine V.drawT 7 mixed (by kernel_rfl) ?_
   rintro w103 G104 s105
   have z106 := V.Fr.size G104
   replace Fk2 := Fk2.gr G104
   refine V.qloadO T_ok Fk2 rfl rfl rfl rfl rfl ?_
   refine V.qrun T_ok 1 rfl ?_
   refine V.qloadO T_ok Fk2 rfl rfl rfl rfl rfl ?_
   refine V.qrun T_ok 2 rfl ?_
   replace F50 := F50.gr G104
   refine V.qloadO T_ok F50 rfl rfl rfl rfl rfl ?_
   refine V.qrun T_ok 1 rfl ?_
   refine V.qnil ?_
   replace F49 := F49.gr G104
   replace rFk9 := rFk9.gr G104
   refine V.call (mtake_flag (Ft := F50) (FX := F49) (Fx := rFk9) (off := 4) (hle := rfl) (n1 := by omega) (n2 := by omega) (n3 := by omega) (n4 := (by intro h; first | exact n5 h.1 | (have := h.1; have := h.2; omega))) (n5 := (by intro h; first | exact n5 h.1 | (have := h.1; have := h.2; omega)))) rfl rfl rfl ?_
   rintro _ w110 ⟨rfl, F107, F108, F109, G111⟩
   have z112 := V.Fr.size G111
   simp only [V.spliceL, V.cellsL] at F109
   refine V.nt ?_
   refine V.seq ?_
   have z113 : v57.heap.size ≤ w110.heap.size := by omega
   have hhrF9_3 : v57.heap.size ≤ w110.heap.size := by omega
   try clear z65
   try clear z71
   try clear z77
   try clear z85
   try clear z92
   try clear z96
   try clear z97
   try clear z101
   try clear z102
   try clear z106
   try clear z112
   generalize hd4 : (rdF cur).2 = d4 at F107
   generalize hb4 : (bd || decide (¬ (rdF cur).1.2 = 0)) = b4 at F108
   generalize hq4_0 : (rdF cur).1.1 = q4_0 at F109
   refine V.region ?_
   replace Fk2 := Fk2.mS G111
   refine V.loadO T_ok Fk2 rfl rfl rfl rfl rfl ?_
   refine V.ru 2 ?_
   refine V.call (mtk_number (Ft := F108) (FX := F107) (Fx := F109) (off := 5) (hle := rfl) (n1 := by omega) (n2 := by omega) (n3 := by omega) (n4 := (by intro h; first | exact n5 h.1 | (have := h.1; have := h.2; omega))) (n5 := (by intro h; first | exact n5 h.1 | (have := h.1; have := h.2; omega)))) rfl rfl rfl ?_
   rintro _ w117 ⟨rfl, F114, F115, F116, G118⟩
   have z119 := V.Fr.size G118
   simp only [V.spliceL, V.cellsL] at F116
   refine V.nt ?_
   refine V.seq ?_
   have z120 : w110.heap.size ≤ w117.heap.size := by omega
   have hhrF9_4 : v57.heap.size ≤ w117.heap.size := by omega
   try clear z119
   generalize hd5 : (rdN d4 1099511627776).2 = d5 at F114
   generalize hb5 : (b4 || decide (¬ (rdN d4 1099511627776).1.2 = 0)) = b5 at F115
   generalize hq5_0 : (rdN d4 1099511627776).1.1 = q5_0 at F116
   refine V.region ?_
   replace Fk2 := Fk2.mS G118
   refine V.loadO T_ok Fk2 rfl rfl rfl rfl rfl ?_
   refine V.ru 2 ?_
   refine V.call (mtk_number (Ft := F115) (FX := F114) (Fx := F116) (off := 6) (hle := rfl) (n1 := by omega) (n2 := by omega) (n3 := by omega) (n4 := (by intro h; first | exact n5 h.1 | (have := h.1; have := h.2; omega))) (n5 := (by intro h; first | exact n5 h.1 | (have := h.1; have := h.2; omega)))) rfl rfl rfl ?_
   rintro _ w124 ⟨rfl, F121, F122, F123, G125⟩
   have z126 := V.Fr.size G125
   simp only [V.spliceL, V.cellsL] at F123
   refine V.nt ?_
   refine V.seq ?_
   have z127 : w117.heap.size ≤ w124.heap.size := by omega
   have hhrF9_5 : v57.heap.size ≤ w124.heap.size := by omega
   try clear z126
   generalize hd6 : (rdN d5 1099511627776).2 = d6 at F121
   generalize hb6 : (b5 || decide (¬ (rdN d5 1099511627776).1.2 = 0)) = b6 at F122
   generalize hq6_0 : (rdN d5 1099511627776).1.1 = q6_0 at F123
   refine V.region ?_
   replace Fk2 := Fk2.mS G125
   refine V.loadO T_ok Fk2 rfl rfl rfl rfl rfl ?_
   refine V.ru 2 ?_
   refine V.call (mtk_text (Ft := F122) (FX := F121) (Fx := F123) (off := 7) (hle := rfl) (n1 := by omega) (n2 := by omega) (n3 := by omega) (n4 := (by intro h; first | exact n5 h.1 | (have := h.1; have := h.2; omega))) (n5 := (by intro h; first | exact n5 h.1 | (have := h.1; have := h.2; omega)))) rfl rfl rfl ?_
   rintro _ w131 ⟨rfl, F128, F129, F130, G132⟩
   have z133 := V.Fr.size G132
   simp only [V.spliceL, V.cellsL] at F130
   refine V.nt ?_
   refine V.seq ?_
   have z134 : w124.heap.size ≤ w131.heap.size := by omega
   have hhrF9_6 : v57.heap.size ≤ w131.heap.size := by omega
   try clear z133
   generalize hd7 : (rdT d6 65536).2 = d7 at F128
   generalize hb7 : (b6 || decide (¬ (rdT d6 65536).1.2 = 0)) = b7 at F129
   generalize hq7_0 : S (rdT d6 65536).1.1 = q7_0 at F130
   have hz7 := szT hq7_0
   have hm7 := szT2 hq7_0
   refine V.region ?_
   replace Fk2 := Fk2.mS G132
   refine V.loadO T_ok Fk2 rfl rfl rfl rfl rfl ?_
   refine V.ru 2 ?_
   refine V.call (mtk_stamp (Ft := F129) (FX := F128) (Fx := F130) (off := 8) (hle := rfl) (n1 := by omega) (n2 := by omega) (n3 := by omega) (n4 := (by intro h; first | exact n5 h.1 | (have := h.1; have := h.2; omega))) (n5 := (by intro h; first | exact n5 h.1 | (have := h.1; have := h.2; omega)))) rfl rfl rfl ?_
   rintro _ w138 ⟨rfl, F135, F136, F137, G139⟩
   have z140 := V.Fr.size G139
   simp only [V.spliceL, V.cellsL] at F137
   refine V.nt ?_
   refine V.seq ?_
   have z141 : w131.heap.size ≤ w138.heap.size := by omega
   have hhrF9_7 : v57.heap.size ≤ w138.heap.size := by omega
   try clear z140
   generalize hd8 : (rdS d7).2 = d8 at F135
   generalize hb8 : (b7 || decide (¬ (rdS d7).1.2 = 0)) = b8 at F136
   generalize hq8_0 : (rdS d7).1.1.1 = q8_0 at F137
   generalize hq8_1 : (rdS d7).1.1.2 = q8_1 at F137
   refine V.region ?_
   replace Fk2 := Fk2.mS G139
   refine V.loadO T_ok Fk2 rfl rfl rfl rfl rfl ?_
   refine V.ru 2 ?_
   refine V.call (mtake_rec (Ft := F136) (FX := F135) (Fx := F137) (off := 10) (hle := rfl) (n1 := by omega) (n2 := by omega) (n3 := by omega) (n4 := (by intro h; first | exact n5 h.1 | (have := h.1; have := h.2; omega))) (n5 := (by intro h; first | exact n5 h.1 | (have := h.1; have := h.2; omega))) (FB := Fk2) (n6 := by omega)) rfl rfl rfl ?_
   rintro _ w148 ⟨a142, c143, rfl, F144, F145, F146, F147, G149⟩
   have z150 := V.Fr.size G149
   simp only [V.spliceL, V.cellsL] at F146
   refine V.nt ?_
   refine V.seq ?_
   have z151 : w138.heap.size ≤ w148.heap.size := by omega
   have hhrF9_8 : v57.heap.size ≤ w148.heap.size := by omega
   try clear z150
   generalize hd9 : (rdRec d8).2 = d9 at F144
   generalize hb9 : (b8 || decide (¬ (if (rdRec d8).1.isSome = true then (0 : Int) else 11) = 0)) = b9 at F145
   have hk9 : keysOk ((rdRec d8).1.getD recZ).ws := rec_keys _
   generalize hq9_0 : (rdRec d8).1.getD recZ = q9_0 at F146 F147 hk9
   refine V.region ?_
   replace F38 := F38.gr G104
   replace F38 := F38.mS G111
   replace F38 := F38.mS G118
   replace F38 := F38.mS G125
   replace F38 := F38.mS G132
   replace F38 := F38.mS G139
   replace F38 := F38.mS G149
   refine V.loadO T_ok F38 rfl rfl rfl rfl rfl ?_
   refine V.ru 1 ?_
   refine V.storeO F146 rfl rfl rfl rfl sz42 rfl rfl rfl rfl ?_
   rintro w152 G153 z155 Fs154
   clear F146
   have z156 := V.Fr.size G153
   have F146 := Fs154; clear Fs154
   simp only [V.spliceL, V.cellsL] at F146
   refine V.nt ?_
   refine V.sr ?_
   refine V.loadO T_ok F146 rfl rfl rfl rfl rfl ?_
   replace Fk9 := Fk9.gr G104
   replace Fk9 := Fk9.mS G111
   replace Fk9 := Fk9.mS G118
   replace Fk9 := Fk9.mS G125
   replace Fk9 := Fk9.mS G132
   replace Fk9 := Fk9.mS G139
   replace Fk9 := Fk9.mS G149
   replace Fk9 := Fk9.ma G153
   refine V.storeO Fk9 rfl rfl rfl rfl sz48 rfl rfl rfl rfl ?_
   rintro w157 G158 z160 Fs159
   clear Fk9
   have z161 := V.Fr.size G158
   have Fk9 := Fs159; clear Fs159
   simp only [V.spliceL, V.cellsL] at Fk9
   refine V.nt ?_
   refine V.ret ?_
   refine V.done1 rfl (V.resV_cell T_ok Fk9 rfl rfl) ?_
   have hE : resL bad d = ((⟨q1_0, q2_0, q2_1, acc, q4_0, q5_0, q6_0, q7_0, q8_0, q8_1, q9_0⟩ : ResV), b9, d9) := by
    rw [hR, ← hinv, kvL_end (by intro hq; first | exact g6_2 hq.1 | (have := hq.1; omega) | exact h6 hq.2 | (rw [hq.2] at h6; cases h6))]; unfold resEnd; dsimp only; rw [kF_eq hq4_0 hb4 hd4, kN_eq hq5_0 hb5 hd5, kN_eq hq6_0 hb6 hd6, kT_eq hq7_0 hb7 hd7, kS_eq hq8_0 hq8_1 hb8 hd8, kR_eq hq9_0 hb9 hd9]
   rw [hE]
   replace rF9 := rF9.gr G104
   replace rF9 := rF9.mS G111
   replace rF9 := rF9.mS G118
   replace rF9 := rF9.mS G125
   replace rF9 := rF9.mS G132
   replace rF9 := rF9.mS G139
   replace rF9 := rF9.mS G149
   replace rF9 := rF9.ma G153
   replace rF9 := rF9.ma G158
   replace F144 := F144.ma G153
   replace F144 := F144.ma G158
   replace F145 := F145.ma G153
   replace F145 := F145.ma G158
   replace F147 := F147.ma G153
   replace F147 := F147.ma G158
   replace HG := HG.grow G104
   replace HG := HG.nS G111
   replace HG := HG.nS G118
   replace HG := HG.nS G125
   replace HG := HG.nS G132
   replace HG := HG.nS G139
   replace HG := HG.nS G149
   replace HG := HG.n1 G153
   replace HG := HG.n1 G158
   exact ⟨_, _, _, _, rfl, (F144.mono (fun _ h => h.1) hnk), F145, rF9.re, F147.re, HG⟩
 ·
  try replace g6_2 := V.dec g6_2
  try simp only [V.mk] at g6_2
  refine V.ru 6 ?_
  refine V.nt ?_
  refine V.condN rfl rfl ?_
  refine V.exit ?_
  refine V.tX ?_
  refine V.tX ?_
  refine V.bE ?_
  refine V.tN ?_
  refine V.seq ?_
  refine V.drawT 7 mixed (by kernel_rfl) ?_
  rintro w162 G163 s164
  have z165 := V.Fr.size G163
  replace Fk2 := Fk2.gr G163
  refine V.qloadO T_ok Fk2 rfl rfl rfl rfl rfl ?_
  refine V.qrun T_ok 1 rfl ?_
  refine V.qloadO T_ok Fk2 rfl rfl rfl rfl rfl ?_
  refine V.qrun T_ok 2 rfl ?_
  replace F50 := F50.gr G163
  refine V.qloadO T_ok F50 rfl rfl rfl rfl rfl ?_
  refine V.qrun T_ok 1 rfl ?_
  refine V.qnil ?_
  replace F49 := F49.gr G163
  replace rFk9 := rFk9.gr G163
  refine V.call (mtake_flag (Ft := F50) (FX := F49) (Fx := rFk9) (off := 4) (hle := rfl) (n1 := by omega) (n2 := by omega) (n3 := by omega) (n4 := (by intro h; first | exact n5 h.1 | (have := h.1; have := h.2; omega))) (n5 := (by intro h; first | exact n5 h.1 | (have := h.1; have := h.2; omega)))) rfl rfl rfl ?_
  rintro _ w169 ⟨rfl, F166, F167, F168, G170⟩
  have z171 := V.Fr.size G170
  simp only [V.spliceL, V.cellsL] at F168
  refine V.nt ?_
  refine V.seq ?_
  have z172 : v57.heap.size ≤ w169.heap.size := by omega
  have hhrF9_9 : v57.heap.size ≤ w169.heap.size := by omega
  try clear z65
  try clear z71
  try clear z77
  try clear z85
  try clear z92
  try clear z96
  try clear z97
  try clear z101
  try clear z102
  try clear z106
  try clear z112
  try clear z113
  try clear z119
  try clear z120
  try clear z126
  try clear z127
  try clear z133
  try clear z134
  try clear z140
  try clear z141
  try clear z150
  try clear z151
  try clear z155
  try clear z156
  try clear z160
  try clear z161
  try clear z165
  try clear z171
  generalize hd10 : (rdF cur).2 = d10 at F166
  generalize hb10 : (bd || decide (¬ (rdF cur).1.2 = 0)) = b10 at F167
  generalize hq10_0 : (rdF cur).1.1 = q10_0 at F168
  refine V.region ?_
  replace Fk2 := Fk2.mS G170
  refine V.loadO T_ok Fk2 rfl rfl rfl rfl rfl ?_
  refine V.ru 2 ?_
  refine V.call (mtk_number (Ft := F167) (FX := F166) (Fx := F168) (off := 5) (hle := rfl) (n1 := by omega) (n2 := by omega) (n3 := by omega) (n4 := (by intro h; first | exact n5 h.1 | (have := h.1; have := h.2; omega))) (n5 := (by intro h; first | exact n5 h.1 | (have := h.1; have := h.2; omega)))) rfl rfl rfl ?_
  rintro _ w176 ⟨rfl, F173, F174, F175, G177⟩
  have z178 := V.Fr.size G177
  simp only [V.spliceL, V.cellsL] at F175
  refine V.nt ?_
  refine V.seq ?_
  have z179 : w169.heap.size ≤ w176.heap.size := by omega
  have hhrF9_10 : v57.heap.size ≤ w176.heap.size := by omega
  try clear z178
  generalize hd11 : (rdN d10 1099511627776).2 = d11 at F173
  generalize hb11 : (b10 || decide (¬ (rdN d10 1099511627776).1.2 = 0)) = b11 at F174
  generalize hq11_0 : (rdN d10 1099511627776).1.1 = q11_0 at F175
  refine V.region ?_
  replace Fk2 := Fk2.mS G177
  refine V.loadO T_ok Fk2 rfl rfl rfl rfl rfl ?_
  refine V.ru 2 ?_
  refine V.call (mtk_number (Ft := F174) (FX := F173) (Fx := F175) (off := 6) (hle := rfl) (n1 := by omega) (n2 := by omega) (n3 := by omega) (n4 := (by intro h; first | exact n5 h.1 | (have := h.1; have := h.2; omega))) (n5 := (by intro h; first | exact n5 h.1 | (have := h.1; have := h.2; omega)))) rfl rfl rfl ?_
  rintro _ w183 ⟨rfl, F180, F181, F182, G184⟩
  have z185 := V.Fr.size G184
  simp only [V.spliceL, V.cellsL] at F182
  refine V.nt ?_
  refine V.seq ?_
  have z186 : w176.heap.size ≤ w183.heap.size := by omega
  have hhrF9_11 : v57.heap.size ≤ w183.heap.size := by omega
  try clear z185
  generalize hd12 : (rdN d11 1099511627776).2 = d12 at F180
  generalize hb12 : (b11 || decide (¬ (rdN d11 1099511627776).1.2 = 0)) = b12 at F181
  generalize hq12_0 : (rdN d11 1099511627776).1.1 = q12_0 at F182
  refine V.region ?_
  replace Fk2 := Fk2.mS G184
  refine V.loadO T_ok Fk2 rfl rfl rfl rfl rfl ?_
  refine V.ru 2 ?_
  refine V.call (mtk_text (Ft := F181) (FX := F180) (Fx := F182) (off := 7) (hle := rfl) (n1 := by omega) (n2 := by omega) (n3 := by omega) (n4 := (by intro h; first | exact n5 h.1 | (have := h.1; have := h.2; omega))) (n5 := (by intro h; first | exact n5 h.1 | (have := h.1; have := h.2; omega)))) rfl rfl rfl ?_
  rintro _ w190 ⟨rfl, F187, F188, F189, G191⟩
  have z192 := V.Fr.size G191
  simp only [V.spliceL, V.cellsL] at F189
  refine V.nt ?_
  refine V.seq ?_
  have z193 : w183.heap.size ≤ w190.heap.size := by omega
  have hhrF9_12 : v57.heap.size ≤ w190.heap.size := by omega
  try clear z192
  generalize hd13 : (rdT d12 65536).2 = d13 at F187
  generalize hb13 : (b12 || decide (¬ (rdT d12 65536).1.2 = 0)) = b13 at F188
  generalize hq13_0 : S (rdT d12 65536).1.1 = q13_0 at F189
  have hz13 := szT hq13_0
  have hm13 := szT2 hq13_0
  refine V.region ?_
  replace Fk2 := Fk2.mS G191
  refine V.loadO T_ok Fk2 rfl rfl rfl rfl rfl ?_
  refine V.ru 2 ?_
  refine V.call (mtk_stamp (Ft := F188) (FX := F187) (Fx := F189) (off := 8) (hle := rfl) (n1 := by omega) (n2 := by omega) (n3 := by omega) (n4 := (by intro h; first | exact n5 h.1 | (have := h.1; have := h.2; omega))) (n5 := (by intro h; first | exact n5 h.1 | (have := h.1; have := h.2; omega)))) rfl rfl rfl ?_
  rintro _ w197 ⟨rfl, F194, F195, F196, G198⟩
  have z199 := V.Fr.size G198
  simp only [V.spliceL, V.cellsL] at F196
  refine V.nt ?_
  refine V.seq ?_
  have z200 : w190.heap.size ≤ w197.heap.size := by omega
  have hhrF9_13 : v57.heap.size ≤ w197.heap.size := by omega
  try clear z199
  generalize hd14 : (rdS d13).2 = d14 at F194
  generalize hb14 : (b13 || decide (¬ (rdS d13).1.2 = 0)) = b14 at F195
  generalize hq14_0 : (rdS d13).1.1.1 = q14_0 at F196
  generalize hq14_1 : (rdS d13).1.1.2 = q14_1 at F196
  refine V.region ?_
  replace Fk2 := Fk2.mS G198
  refine V.loadO T_ok Fk2 rfl rfl rfl rfl rfl ?_
  refine V.ru 2 ?_
  refine V.call (mtake_rec (Ft := F195) (FX := F194) (Fx := F196) (off := 10) (hle := rfl) (n1 := by omega) (n2 := by omega) (n3 := by omega) (n4 := (by intro h; first | exact n5 h.1 | (have := h.1; have := h.2; omega))) (n5 := (by intro h; first | exact n5 h.1 | (have := h.1; have := h.2; omega))) (FB := Fk2) (n6 := by omega)) rfl rfl rfl ?_
  rintro _ w207 ⟨a201, c202, rfl, F203, F204, F205, F206, G208⟩
  have z209 := V.Fr.size G208
  simp only [V.spliceL, V.cellsL] at F205
  refine V.nt ?_
  refine V.seq ?_
  have z210 : w197.heap.size ≤ w207.heap.size := by omega
  have hhrF9_14 : v57.heap.size ≤ w207.heap.size := by omega
  try clear z209
  generalize hd15 : (rdRec d14).2 = d15 at F203
  generalize hb15 : (b14 || decide (¬ (if (rdRec d14).1.isSome = true then (0 : Int) else 11) = 0)) = b15 at F204
  have hk15 : keysOk ((rdRec d14).1.getD recZ).ws := rec_keys _
  generalize hq15_0 : (rdRec d14).1.getD recZ = q15_0 at F205 F206 hk15
  refine V.region ?_
  replace F38 := F38.gr G163
  replace F38 := F38.mS G170
  replace F38 := F38.mS G177
  replace F38 := F38.mS G184
  replace F38 := F38.mS G191
  replace F38 := F38.mS G198
  replace F38 := F38.mS G208
  refine V.loadO T_ok F38 rfl rfl rfl rfl rfl ?_
  refine V.ru 1 ?_
  refine V.storeO F205 rfl rfl rfl rfl sz42 rfl rfl rfl rfl ?_
  rintro w211 G212 z214 Fs213
  clear F205
  have z215 := V.Fr.size G212
  have F205 := Fs213; clear Fs213
  simp only [V.spliceL, V.cellsL] at F205
  refine V.nt ?_
  refine V.sr ?_
  refine V.loadO T_ok F205 rfl rfl rfl rfl rfl ?_
  replace Fk9 := Fk9.gr G163
  replace Fk9 := Fk9.mS G170
  replace Fk9 := Fk9.mS G177
  replace Fk9 := Fk9.mS G184
  replace Fk9 := Fk9.mS G191
  replace Fk9 := Fk9.mS G198
  replace Fk9 := Fk9.mS G208
  replace Fk9 := Fk9.ma G212
  refine V.storeO Fk9 rfl rfl rfl rfl sz48 rfl rfl rfl rfl ?_
  rintro w216 G217 z219 Fs218
  clear Fk9
  have z220 := V.Fr.size G217
  have Fk9 := Fs218; clear Fs218
  simp only [V.spliceL, V.cellsL] at Fk9
  refine V.nt ?_
  refine V.ret ?_
  refine V.done1 rfl (V.resV_cell T_ok Fk9 rfl rfl) ?_
  have hE : resL bad d = ((⟨q1_0, q2_0, q2_1, acc, q10_0, q11_0, q12_0, q13_0, q14_0, q14_1, q15_0⟩ : ResV), b15, d15) := by
   rw [hR, ← hinv, kvL_end (by intro hq; first | exact g6_2 hq.1 | (have := hq.1; omega) | exact h6 hq.2 | (rw [hq.2] at h6; cases h6))]; unfold resEnd; dsimp only; rw [kF_eq hq10_0 hb10 hd10, kN_eq hq11_0 hb11 hd11, kN_eq hq12_0 hb12 hd12, kT_eq hq13_0 hb13 hd13, kS_eq hq14_0 hq14_1 hb14 hd14, kR_eq hq15_0 hb15 hd15]
  rw [hE]
  replace rF9 := rF9.gr G163
  replace rF9 := rF9.mS G170
  replace rF9 := rF9.mS G177
  replace rF9 := rF9.mS G184
  replace rF9 := rF9.mS G191
  replace rF9 := rF9.mS G198
  replace rF9 := rF9.mS G208
  replace rF9 := rF9.ma G212
  replace rF9 := rF9.ma G217
  replace F203 := F203.ma G212
  replace F203 := F203.ma G217
  replace F204 := F204.ma G212
  replace F204 := F204.ma G217
  replace F206 := F206.ma G212
  replace F206 := F206.ma G217
  replace HG := HG.grow G163
  replace HG := HG.nS G170
  replace HG := HG.nS G177
  replace HG := HG.nS G184
  replace HG := HG.nS G191
  replace HG := HG.nS G198
  replace HG := HG.nS G208
  replace HG := HG.n1 G212
  replace HG := HG.n1 G217
  exact ⟨_, _, _, _, rfl, (F203.mono (fun _ h => h.1) hnk), F204, rF9.re, F206.re, HG⟩

end Go.Proofs.YtmmgmkklakkooaaGreat
