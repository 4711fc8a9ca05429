/- Proved here: walks: what functions of this seat's program return and what they leave of memory, each as a contract. Conditions: stated at each theorem. -/
import Derived.Test.YtooiimhcfgjbgaaMtk
namespace Go.Proofs.Ytooiimhcfgjbgaa
set_option linter.unusedVariables false
set_option linter.unusedSimpArgs false
open Go
open V (Bytes Meets Env Sl Own Gr Fr Cells S)

theorem szT2 {d : List UInt8} {q : ByteArray} (h : S (rdT d 65536).1.1 = q) : q.size ≤ 65536 := by
  have := rdT_leM d
  subst h; rw [V.S_size]; omega
def enL : Nat → Bool → List UInt8 → List (Int × List UInt8) → Bool × List UInt8 × List (Int × List UInt8)
  | 0, b, d, acc => (b, d, acc)
  | n + 1, b, d, acc => if b = true then (b, d, acc) else kN b d fun t b d => kT b d fun s b d => enL n b d (acc ++ [(t, s.data.toList)])
/-- entries, read -/
def ents (b : Bool) (d : List UInt8) : Bool × List UInt8 × List (Int × List UInt8) := kN b d fun n b d => enL n.toNat b d []
theorem enL_end {n : Int} {b : Bool} {d : List UInt8} {acc : List (Int × List UInt8)} (h : ¬ (0 < n ∧ b = false)) : enL n.toNat b d acc = (b, d, acc) := by
  rcases hn : n.toNat with _ | k
  · rfl
  · cases b
    · exact absurd ⟨by omega, rfl⟩ h
    · rfl
theorem enL_succ {n : Int} {b : Bool} {d : List UInt8} {acc : List (Int × List UInt8)} (h : 0 < n) (hb : b = false) : enL n.toNat b d acc = kN b d fun t b d => kT b d fun s b d => enL (n - 1).toNat b d (acc ++ [(t, s.data.toList)]) := by
  subst hb
  rw [show n.toNat = (n - 1).toNat + 1 by omega]
  rfl
def kvL : Nat → Bool → List UInt8 → List (ByteArray × ByteArray) → Bool × List UInt8 × List (ByteArray × ByteArray)
  | 0, b, d, acc => (b, d, acc)
  | n + 1, b, d, acc => if b = true then (b, d, acc) else kT b d fun t b d => kT b d fun s b d => kvL n b d (acc ++ [(t, s)])
theorem kvL_end {n : Int} {b : Bool} {d : List UInt8} {acc : List (ByteArray × ByteArray)} (h : ¬ (0 < n ∧ b = false)) : kvL n.toNat b d acc = (b, d, acc) := by
  rcases hn : n.toNat with _ | k
  · rfl
  · cases b
    · exact absurd ⟨by omega, rfl⟩ h
    · rfl
theorem kvL_succ {n : Int} {b : Bool} {d : List UInt8} {acc : List (ByteArray × ByteArray)} (h : 0 < n) (hb : b = false) : kvL n.toNat b d acc = kT b d fun t b d => kT b d fun s b d => kvL (n - 1).toNat b d (acc ++ [(t, s)]) := by
  subst hb
  rw [show n.toNat = (n - 1).toNat + 1 by omega]
  rfl
def kR {α : Type} (b : Bool) (d : List UInt8) (k : RecV → Bool → List UInt8 → α) : α := k ((rdRec d).1.getD recZ) (b || decide (¬ (if (rdRec d).1.isSome = true then (0 : Int) else 11) = 0)) (rdRec d).2
theorem kR_eq {α : Type} {b b' : Bool} {d d' : List UInt8} {q : RecV} {k : RecV → Bool → List UInt8 → α} (h1 : (rdRec d).1.getD recZ = q) (h2 : (b || decide (¬ (if (rdRec d).1.isSome = true then (0 : Int) else 11) = 0)) = b') (h3 : (rdRec d).2 = d') : kR b d k = k q b' d' := by subst h1 h2 h3; rfl
def resEnd (er aw al : Int) (x : Bool × List UInt8 × List (ByteArray × ByteArray)) : ResV × Bool × List UInt8 :=
  kF x.1 x.2.1 fun fo b d => kN b d fun ti b d => kN b d fun te b d => kT b d fun an b d => kS b d fun sw sl b d => kR b d fun rc b d => (⟨er, aw, al, x.2.2, fo, ti, te, an, sw, sl, rc⟩, b, d)
/-- a result, read -/
def resL (b : Bool) (d : List UInt8) : ResV × Bool × List UInt8 := kN b d fun er b d => kS b d fun aw al b d => kN b d fun n b d => resEnd er aw al (kvL n.toNat b d [])
theorem kvOk.snoc {ps : List (ByteArray × ByteArray)} {x : ByteArray × ByteArray} (h : kvOk ps) (hx : x.1.size ≤ 9223372036854775807 ∧ x.2.size ≤ 9223372036854775807) : kvOk (ps ++ [x]) := by
  intro y hy
  rcases List.mem_append.1 hy with h1 | h1
  · exact h y h1
  · rw [List.mem_singleton.1 h1]; exact hx
theorem kvL_ok : ∀ (n : Nat) (b : Bool) (d : List UInt8) (acc : List (ByteArray × ByteArray)), kvOk acc → kvOk (kvL n b d acc).2.2
  | 0, _, _, _, h => h
  | n + 1, b, d, acc, h => by
    unfold kvL
    split
    · exact h
    · show kvOk (kvL n _ _ (acc ++ [(S (rdT d 65536).1.1, S (rdT (rdT d 65536).2 65536).1.1)])).2.2
      exact kvL_ok n _ _ _ (h.snoc ⟨szT (d := d) rfl, szT (d := (rdT d 65536).2) rfl⟩)
theorem rec_keys (d : List UInt8) : keysOk ((rdRec d).1.getD recZ).ws := by
  cases hv : (rdRec d).1 with
  | none => exact keysOk.nil
  | some v =>
    have := (rec_sound hv).2.2.2.2
    intro x hx
    have := this x hx
    omega
theorem rec_keys' {d : List UInt8} {y : Option RecV × List UInt8} (h : rdRec d = y) : keysOk (y.1.getD recZ).ws := h ▸ rec_keys d
theorem resEnd_sz {er aw al : Int} {x : Bool × List UInt8 × List (ByteArray × ByteArray)} (h : kvOk x.2.2) : SzR (resEnd er aw al x).1 := by
  simp only [resEnd, kF, kN, kT, kS, kR]
  refine ⟨h, ?_, ?_⟩
  · exact szT (d := _) rfl
  · generalize hx : rdRec _ = y
    exact rec_keys' hx
theorem resL_sz (b : Bool) (d : List UInt8) : SzR (resL b d).1 := by
  simp only [resL, kN, kS]
  exact resEnd_sz (kvL_ok _ _ _ _ (fun _ h => by cases h))
theorem sz_cmd {d : CmdV} (h : cmdB d = true) : SzOk d := by
  have hs := cmd_small h
  have := hs.an; have := hs.fr; have := hs.to; have := hs.va
  exact ⟨by omega, by omega, by omega, by omega, fun x hx => by have := (hs.wn x hx).1; omega⟩
theorem decC_cmd {d : List UInt8} {c : CmdV} (h : decC d = some c) : cmdB c = true := by
  unfold decC at h
  by_cases hc : (decAll d).2.1 = false ∧ (decAll d).2.2 = [] ∧ cmdB (decAll d).1 = true
  · rw [if_pos hc] at h; cases h; exact hc.2.2
  · rw [if_neg hc] at h; cases h
theorem sz_getD (d : List UInt8) : SzOk ((decC d).getD cmdZ) := by
  cases h : decC d with
  | none => exact ⟨by decide, by decide, by decide, by decide, fun _ h => by cases h⟩
  | some c => exact sz_cmd (decC_cmd h)

set_option maxHeartbeats 900000 in
set_option maxRecDepth 10000 in
theorem mtk_ents {w : World} {kt k : Nat} {D : Nat → Prop} {d : List UInt8} {bad : Bool} (Ft : Cells w kt [.pointer (some ⟨k, 0, none⟩), .bool bad] 66) (FX : Rd w k D d) (n1 : kt ≠ k) (n5 : ¬ D kt)   :
    Meets Try.prog 18 [.pointer (some ⟨kt, 0, none⟩)] w fun r w' => ∃ (ra80 : Option Addr) (rc80 : Nat), r = .slice ra80 ((ents bad d).2.2).length rc80 ∧ Rd w' k D ((ents bad d).2.1) ∧ Cells w' kt [.pointer (some ⟨k, 0, none⟩), .bool ((ents bad d).1)] 66 ∧ V.Row V.Cod.ent 56 w' V.None' w.heap.size w'.heap.size ra80 rc80 ((ents bad d).2.2) ∧ Fr [k, kt] w w' := by
 have hkl := FX.lt
 have hnk := FX.nk
 replace FX := FX.flb
 have hktl := Ft.lt
 have HG := V.Fr.refl [k, kt] w
 refine V.enter (n := 33) Try.func18 rfl rfl (by decide) rfl ?_
 refine V.sr ?_
 refine V.ru 1 ?_
 refine V.nt ?_
 refine V.sr ?_
 refine V.ru 1 ?_
 refine V.nt ?_
 refine V.sr ?_
 refine V.alloc zero3 rfl rfl rfl ?_
 rintro k1 w3 s5 s6 G4 Fk2
 have z7 := V.Fr.size G4
 try replace Ft := Ft.gr G4
 try replace FX := FX.gr G4
 replace HG := HG.grow G4
 try simp only [V.cellsL, V.spliceL] at Fk2
 refine V.nt ?_
 refine V.seq ?_
 refine V.sr ?_
 refine V.ru 1 ?_
 refine V.call (mtk_number (Ft := Ft) (FX := FX) (Fx := Fk2) (off := 0) (hle := rfl) (n1 := by omega) (n2 := by omega) (n3 := by omega) (n4 := (by intro h; first | exact n5 h.1 | (have := h.1; have := h.2; omega))) (n5 := (by intro h; first | exact n5 h.1 | (have := h.1; have := h.2; omega)))) rfl rfl rfl ?_
 rintro _ w11 ⟨rfl, F8, F9, F10, G12⟩
 obtain ⟨w13, G14, G15⟩ := V.Fr.cut G12
 have z16 := V.Fr.size G14
 try replace Ft := Ft.ma G14
 try replace FX := FX.ma G14
 try replace Fk2 := Fk2.ma G14
 replace HG := HG.n1 G14
 obtain ⟨w17, G18, G19⟩ := V.Fr.two G15
 have z20 := V.Fr.size G18
 try replace Ft := Ft.ma G18
 try replace FX := FX.ma G18
 try replace Fk2 := Fk2.ma G18
 replace HG := HG.n1 G18
 have z21 := V.Fr.size G19
 try replace Ft := Ft.ma G19
 try replace FX := FX.ma G19
 try replace Fk2 := Fk2.ma G19
 replace HG := HG.n1 G19
 simp only [V.spliceL, V.cellsL] at F10
 refine V.nt ?_
 refine V.block ?_
 generalize hd1 : (rdN d 1099511627776).2 = d1 at F8
 generalize hb1 : (bad || decide (¬ (rdN d 1099511627776).1.2 = 0)) = b1 at F9
 generalize hq1_0 : (rdN d 1099511627776).1.1 = q1_0 at F10
 have hR : ents bad d = enL q1_0.toNat b1 d1 [] := by
  unfold ents; rw [kN_eq hq1_0 hb1 hd1]
 have hrn := rngN hq1_0
 clear hq1_0 hb1 hd1
 refine V.loopM (fun m e v23 => Fr [k, kt] w v23 ∧ w11.heap.size ≤ v23.heap.size ∧ ∃ (wr : Int) (bd : Bool) (cur : List UInt8) (acc : List (Int × List UInt8)) (ra83 : Option Addr) (rc83 : Nat), m = wr.toNat ∧ 0 ≤ wr ∧ wr ≤ 1099511627776 ∧ enL wr.toNat bd cur acc = enL q1_0.toNat b1 d1 [] ∧ (acc.length : Int) + wr ≤ 1099511627776 ∧ V.Row V.Cod.ent 56 v23 V.None' w11.heap.size v23.heap.size ra83 rc83 acc ∧ Rd v23 k (fun j => D j ∧ j < w.heap.size) cur ∧ Cells v23 kt [.pointer (some ⟨k, 0, none⟩), .bool bd] 66 ∧ Cells v23 k1 [.int .i64 wr] 3 ∧ e 0 = .pointer (some ⟨kt, 0, none⟩) ∧ e 3 = .slice ra83 acc.length rc83 ∧ e 4 = .pointer (some ⟨k1, 0, none⟩)) ?_ ?_
 ·
  exact ⟨_, HG, (by omega), (q1_0), (b1), (d1), ([]), none, 0, rfl, (by omega), (by omega), (rfl), (by simp; omega), V.Row.nil, F8, F9, F10, rfl, rfl, rfl⟩
 clear HG F8 F9 F10
 rintro _ e v23 ⟨HG, z24, wr, bd, cur, acc, ra83, rc83, rfl, hw0, hw1, hinv, hal, rF83, F8, F9, F10, he0_0, he0_3, he0_4⟩
 refine V.knownC (t := 0) he0_0 ?_
 refine V.knownC (t := 3) he0_3 ?_
 refine V.knownC (t := 4) he0_4 ?_
 refine V.seq ?_
 refine V.sr ?_
 refine V.loadO T_ok F10 rfl rfl rfl rfl rfl ?_
 refine V.ru 2 ?_
 refine V.split (j := 2) (t := 11) rfl rfl (fun g4_2 => ?_) (fun g4_2 => ?_)
 ·
  try replace g4_2 := V.dec g4_2
  try simp only [V.mk] at g4_2
  refine V.ru 3 ?_
  refine V.yes rfl rfl rfl ?_
  refine V.loadO T_ok F9 rfl rfl rfl rfl rfl ?_
  refine V.ru 2 ?_
  refine V.nt ?_
  refine V.condT rfl (fun h4 => ?_) (fun h4 => ?_)
  ·
   try replace h4 := V.dec h4
   try simp only [V.mk] at h4
   refine V.skip ?_
   refine V.tN ?_
   refine V.seq ?_
   refine V.block ?_
   refine V.sr ?_
   refine V.alloc zero56 rfl rfl rfl ?_
   rintro k25 w27 s29 s30 G28 Fk26
   have z31 := V.Fr.size G28
   try replace F8 := F8.gr G28
   try replace F9 := F9.gr G28
   try replace F10 := F10.gr G28
   try replace rF83 := rF83.gr G28
   replace HG := HG.grow G28
   try simp only [V.cellsL, V.spliceL] at Fk26
   refine V.nt ?_
   refine V.sr ?_
   refine V.alloc zero9 rfl rfl rfl ?_
   rintro k32 w34 s36 s37 G35 Fk33
   have z38 := V.Fr.size G35
   try replace F8 := F8.gr G35
   try replace F9 := F9.gr G35
   try replace F10 := F10.gr G35
   try replace rF83 := rF83.gr G35
   try replace Fk26 := Fk26.gr G35
   replace HG := HG.grow G35
   try simp only [V.cellsL, V.spliceL] at Fk33
   refine V.nt ?_
   refine V.sr ?_
   refine V.ru 2 ?_
   refine V.call (mtk_number (Ft := F9) (FX := F8) (Fx := Fk26) (off := 0) (hle := rfl) (n1 := by omega) (n2 := by omega) (n3 := by omega) (n4 := (by intro h; first | exact n5 h.1 | (have := h.1; have := h.2; omega))) (n5 := (by intro h; first | exact n5 h.1 | (have := h.1; have := h.2; omega)))) rfl rfl rfl ?_
   rintro _ w42 ⟨rfl, F39, F40, F41, G43⟩
   obtain ⟨w44, G45, G46⟩ := V.Fr.cut G43
   have z47 := V.Fr.size G45
   try replace F8 := F8.ma G45
   try replace F9 := F9.ma G45
   try replace F10 := F10.ma G45
   try replace rF83 := rF83.ma G45
   try replace Fk26 := Fk26.ma G45
   try replace Fk33 := Fk33.ma G45
   replace HG := HG.n1 G45
   obtain ⟨w48, G49, G50⟩ := V.Fr.two G46
   have z51 := V.Fr.size G49
   try replace F8 := F8.ma G49
   try replace F9 := F9.ma G49
   try replace F10 := F10.ma G49
   try replace rF83 := rF83.ma G49
   try replace Fk26 := Fk26.ma G49
   try replace Fk33 := Fk33.ma G49
   replace HG := HG.n1 G49
   have z52 := V.Fr.size G50
   try replace F8 := F8.ma G50
   try replace F9 := F9.ma G50
   try replace F10 := F10.ma G50
   try replace rF83 := rF83.ma G50
   try replace Fk26 := Fk26.ma G50
   try replace Fk33 := Fk33.ma G50
   replace HG := HG.n1 G50
   simp only [V.spliceL, V.cellsL] at F41
   refine V.nt ?_
   refine V.sr ?_
   refine V.ru 1 ?_
   refine V.call (mtk_text (Ft := F40) (FX := F39) (Fx := Fk33) (off := 0) (hle := rfl) (n1 := by omega) (n2 := by omega) (n3 := by omega) (n4 := (by intro h; first | exact n5 h.1 | (have := h.1; have := h.2; omega))) (n5 := (by intro h; first | exact n5 h.1 | (have := h.1; have := h.2; omega)))) rfl rfl rfl ?_
   rintro _ w56 ⟨rfl, F53, F54, F55, G57⟩
   obtain ⟨w58, G59, G60⟩ := V.Fr.cut G57
   have z61 := V.Fr.size G59
   try replace F10 := F10.ma G59
   try replace rF83 := rF83.ma G59
   try replace Fk33 := Fk33.ma G59
   try replace F39 := F39.ma G59
   try replace F40 := F40.ma G59
   try replace F41 := F41.ma G59
   replace HG := HG.n1 G59
   obtain ⟨w62, G63, G64⟩ := V.Fr.two G60
   have z65 := V.Fr.size G63
   try replace F10 := F10.ma G63
   try replace rF83 := rF83.ma G63
   try replace Fk33 := Fk33.ma G63
   try replace F39 := F39.ma G63
   try replace F40 := F40.ma G63
   try replace F41 := F41.ma G63
   replace HG := HG.n1 G63
   have z66 := V.Fr.size G64
   try replace F10 := F10.ma G64
   try replace rF83 := rF83.ma G64
   try replace Fk33 := Fk33.ma G64
   try replace F39 := F39.ma G64
   try replace F40 := F40.ma G64
   try replace F41 := F41.ma G64
   replace HG := HG.n1 G64
   simp only [V.spliceL, V.cellsL] at F55
   refine V.nt ?_
   refine V.sr ?_
   refine V.loadO T_ok F55 rfl rfl rfl rfl rfl ?_
   have hsT : (S (rdT ((rdN cur 1099511627776).2) 65536).1.1).size ≤ maxLen := by have := szT2 (q := S (rdT ((rdN cur 1099511627776).2) 65536).1.1) rfl; simp only [maxLen]; omega
   refine V.ofStr Try.underlying9 Try.underlying24 Try.underlying5 rfl rfl rfl rfl (by omega) ?_
   rintro a67 c68 w70 G71 s72 F69
   have z73 := V.Fr.size G71
   try replace F10 := F10.gr G71
   try replace rF83 := rF83.gr G71
   try replace F41 := F41.gr G71
   try replace F53 := F53.gr G71
   try replace F54 := F54.gr G71
   try replace F55 := F55.gr G71
   replace HG := HG.grow G71
   refine V.ru 1 ?_
   refine V.storeO F41 rfl rfl rfl rfl sz24 rfl rfl rfl rfl ?_
   rintro w74 G75 z77 Fs76
   clear F41
   have z78 := V.Fr.size G75
   try replace F10 := F10.ma G75
   try replace rF83 := rF83.ma G75
   try replace F53 := F53.ma G75
   try replace F54 := F54.ma G75
   try replace F55 := F55.ma G75
   try replace F69 := F69.ma G75
   replace HG := HG.n1 G75
   have F41 := Fs76; clear Fs76
   simp only [V.spliceL, V.cellsL] at F41
   refine V.nt ?_
   refine V.region ?_
   refine V.ru 1 ?_
   refine V.loadO T_ok F41 rfl rfl rfl rfl rfl ?_
   refine V.mkSlice T_ok zero56 rfl rfl sz56 rfl rfl rfl rfl rfl rfl ?_
   rintro k79 w82 s84 s85 G83 Fk80
   have z86 := V.Fr.size G83
   try replace F10 := F10.gr G83
   try replace rF83 := rF83.gr G83
   try replace F53 := F53.gr G83
   try replace F54 := F54.gr G83
   try replace F55 := F55.gr G83
   try replace F69 := F69.gr G83
   try replace F41 := F41.gr G83
   replace HG := HG.grow G83
   have F81 : Sl V.Cod.ent w82 (fun k => k = k79 ∨ (V.In w56.heap.size w70.heap.size) k) (some ⟨k79, 0, none⟩) ([((rdN cur 1099511627776).1.1, (S (rdT ((rdN cur 1099511627776).2) 65536).1.1).data.toList)] : List (Int × List UInt8)).length ([((rdN cur 1099511627776).1.1, (S (rdT ((rdN cur 1099511627776).2) 65536).1.1).data.toList)] : List (Int × List UInt8)) := V.Cells.sl Fk80 (V.reps_cons (x := ((rdN cur 1099511627776).1.1, (S (rdT ((rdN cur 1099511627776).2) 65536).1.1).data.toList)) ⟨_, _, rfl, rfl, ⟨_, _, rfl, F69.mono (fun k h => .inr (h))⟩⟩ rfl rfl) (.inl rfl) (by simp [maxLen])
   have hDu87 : ∀ k, (fun k => k = k79 ∨ (V.In w56.heap.size w70.heap.size) k) k → k < w82.heap.size := by intro k h; (try dsimp only at h); rcases h with h | h <;> first | omega | (have := h.2; omega) | (have := h.1; omega) | (have := hD k h; omega)
   refine V.appendR (rF83) (F81.from Try.underlying23) elT23_23 rfl rfl rfl rfl rfl V.lenA (by unfold maxLen; first | omega | (simp only [List.length_take, List.length_drop, List.length_append, List.length_cons, List.length_nil, List.length_replicate, List.length_set, V.length_data, V.S_size]; omega)) (by omega) (by omega) (fun _ h => h.elim) (by first | omega | (intro k h; (try dsimp only at h); first | exact .inl h | exact .inr ⟨by have := h.1; omega, by have := h.2; omega⟩ | (rcases h with h | h <;> first | exact .inr ⟨by omega, by omega⟩ | exact .inr ⟨by have := h.1; omega, by have := h.2; omega⟩ | exact .inl h))) ?_
   rintro a88 c89 w91 G92 s93 F90
   clear rF83
   clear F81
   have z94 := Go.RowKit.Below.size G92
   first | replace F10 := V.Cells.bl F10 G92 (by omega) | clear F10 | skip
   first | replace F53 := F53.bl G92 (by first | exact ⟨by omega, fun j h => by have := h.2; omega⟩ | (first | omega | exact fun h => h | exact ⟨by omega, fun h => h⟩ | (intro h; first | (have := hD _ h; omega)) | (refine ⟨by omega, ?_⟩; intro h; first | (have := hD _ h; omega)))) | clear F53 | skip
   first | replace F54 := V.Cells.bl F54 G92 (by omega) | clear F54 | skip
   first | replace F55 := V.Cells.bl F55 G92 (by omega) | clear F55 | skip
   first | replace F69 := V.Sl.bl F69 G92 (by first | exact (fun _ h => by have := h.2; omega) | (intro k h; have := hD k h; omega)) | clear F69 | skip
   first | replace F41 := V.Cells.bl F41 G92 (by omega) | clear F41 | skip
   first | replace Fk80 := V.Cells.bl Fk80 G92 (by omega) | clear Fk80 | skip
   replace HG := HG.bl (Go.RowKit.Below.mono G92 (by omega))
   refine V.ru 1 ?_
   refine V.nil ?_
   refine V.bN ?_
   refine V.tN ?_
   refine V.region ?_
   refine V.loadO T_ok F10 rfl rfl rfl rfl rfl ?_
   refine V.subN rfl rfl rfl rfl rfl V.lenA V.lenA ?_
   refine V.storeO F10 rfl rfl rfl rfl sz3 rfl rfl rfl rfl ?_
   rintro w95 G96 z98 Fs97
   clear F10
   have z99 := V.Fr.size G96
   try replace F53 := F53.ma G96
   try replace F54 := F54.ma G96
   try replace F55 := F55.ma G96
   try replace F69 := F69.ma G96
   try replace F41 := F41.ma G96
   try replace Fk80 := Fk80.ma G96
   try replace F90 := F90.ma G96
   replace HG := HG.n1 G96
   have F10 := Fs97; clear Fs97
   simp only [V.spliceL, V.cellsL] at F10
   refine V.nt ?_
   exact ⟨_, (by omega), HG, (by omega), (wr - 1), ((bd || decide (¬ (rdN cur 1099511627776).1.2 = 0)) || decide (¬ (rdT ((rdN cur 1099511627776).2) 65536).1.2 = 0)), ((rdT ((rdN cur 1099511627776).2) 65536).2), (acc ++ ([((rdN cur 1099511627776).1.1, (S (rdT ((rdN cur 1099511627776).2) 65536).1.1).data.toList)] : List (Int × List UInt8))), a88, c89, rfl, (by omega), (by omega), ((enL_succ g4_2 h4).symm.trans hinv), (by rw [List.length_append]; simp; omega), F90.re, F53, F54, F10, rfl, rfl, rfl⟩
  ·
   try replace h4 := V.dec h4
   try simp only [V.mk] at h4
   refine V.exit ?_
   refine V.tX ?_
   refine V.tX ?_
   refine V.bE ?_
   refine V.tN ?_
   refine V.sr ?_
   refine V.ru 2 ?_
   refine V.nt ?_
   refine V.ret ?_
   refine V.done rfl ?_
   have hE : ents bad d = (bd, cur, acc) := by rw [hR, ← hinv]; exact enL_end (by intro hq; first | exact g4_2 hq.1 | (have := hq.1; omega) | exact h4 hq.2 | (rw [hq.2] at h4; cases h4))
   rw [hE]
   exact ⟨_, _, rfl, (F8.mono (fun _ h => h.1) hnk), F9, rF83.re, HG⟩
 ·
  try replace g4_2 := V.dec g4_2
  try simp only [V.mk] at g4_2
  refine V.ru 6 ?_
  refine V.nt ?_
  refine V.condN rfl rfl ?_
  refine V.exit ?_
  refine V.tX ?_
  refine V.tX ?_
  refine V.bE ?_
  refine V.tN ?_
  refine V.sr ?_
  refine V.ru 2 ?_
  refine V.nt ?_
  refine V.ret ?_
  refine V.done rfl ?_
  have hE : ents bad d = (bd, cur, acc) := by rw [hR, ← hinv]; exact enL_end (by intro hq; first | exact g4_2 hq.1 | (have := hq.1; omega) | exact h4 hq.2 | (rw [hq.2] at h4; cases h4))
  rw [hE]
  exact ⟨_, _, rfl, (F8.mono (fun _ h => h.1) hnk), F9, rF83.re, HG⟩

set_option maxHeartbeats 900000 in
set_option maxRecDepth 10000 in
theorem mtk_res {w : World} {kt k : Nat} {D : Nat → Prop} {d : List UInt8} {bad : Bool} (Ft : Cells w kt [.pointer (some ⟨k, 0, none⟩), .bool bad] 66) (FX : Rd w k D d) (n1 : kt ≠ k) (n5 : ¬ D kt)   :
    Meets Try.prog 24 [.pointer (some ⟨kt, 0, none⟩)] w fun r w' => ∃ (ra84 : Option Addr) (rc84 : Nat) (ra85 : Option Addr) (rc85 : Nat), r = .agg #[.int .i64 ((resL bad d).1.er), .int .i64 ((resL bad d).1.aw), .int .i64 ((resL bad d).1.al), .slice ra84 ((resL bad d).1.ps).length rc84, .bool ((resL bad d).1.fo), .int .i64 ((resL bad d).1.ti), .int .i64 ((resL bad d).1.te), .string ((resL bad d).1.an), .int .i64 ((resL bad d).1.sw), .int .i64 ((resL bad d).1.sl), .int .i64 ((resL bad d).1.rc.id), .int .i64 ((resL bad d).1.rc.ep), .int .i64 ((resL bad d).1.rc.st), .int .i64 ((resL bad d).1.rc.aw), .int .i64 ((resL bad d).1.rc.al), .int .i64 ((resL bad d).1.rc.bw), .int .i64 ((resL bad d).1.rc.bl), .slice ra85 ((resL bad d).1.rc.ws).length rc85] ∧ Rd w' k D ((resL bad d).2.2) ∧ Cells w' kt [.pointer (some ⟨k, 0, none⟩), .bool ((resL bad d).2.1)] 66 ∧ V.Row (V.Cod.pair V.Cod.str V.Cod.str) 58 w' V.None' w.heap.size w'.heap.size ra84 rc84 ((resL bad d).1.ps) ∧ Sl V.Cod.write w' (V.In w.heap.size w'.heap.size) ra85 rc85 ((resL bad d).1.rc.ws) ∧ Fr [k, kt] w w' := by
 have hkl := FX.lt
 have hnk := FX.nk
 replace FX := FX.flb
 have hktl := Ft.lt
 have HG := V.Fr.refl [k, kt] w
 refine V.enter (n := 68) Try.func24 rfl rfl (by decide) rfl ?_
 refine V.sr ?_
 refine V.box rfl rfl rfl rfl ?_
 rintro k1 w3 s5 s6 G4 Fk2
 have z7 := V.Fr.size G4
 try replace Ft := Ft.gr G4
 try replace FX := FX.gr G4
 replace HG := HG.grow G4
 try simp only [V.cellsL, V.spliceL] at Fk2
 refine V.alloc zero41 rfl rfl rfl ?_
 rintro k8 w10 s12 s13 G11 Fk9
 have z14 := V.Fr.size G11
 try replace Ft := Ft.gr G11
 try replace FX := FX.gr G11
 try replace Fk2 := Fk2.gr G11
 replace HG := HG.grow G11
 try simp only [V.cellsL, V.spliceL] at Fk9
 refine V.nt ?_
 refine V.sr ?_
 refine V.alloc zero41 rfl rfl rfl ?_
 rintro k15 w17 s19 s20 G18 Fk16
 have z21 := V.Fr.size G18
 try replace Ft := Ft.gr G18
 try replace FX := FX.gr G18
 try replace Fk2 := Fk2.gr G18
 try replace Fk9 := Fk9.gr G18
 replace HG := HG.grow G18
 try simp only [V.cellsL, V.spliceL] at Fk16
 refine V.nt ?_
 refine V.sr ?_
 refine V.alloc zero3 rfl rfl rfl ?_
 rintro k22 w24 s26 s27 G25 Fk23
 have z28 := V.Fr.size G25
 try replace Ft := Ft.gr G25
 try replace FX := FX.gr G25
 try replace Fk2 := Fk2.gr G25
 try replace Fk9 := Fk9.gr G25
 try replace Fk16 := Fk16.gr G25
 replace HG := HG.grow G25
 try simp only [V.cellsL, V.spliceL] at Fk23
 refine V.alloc zero3 rfl rfl rfl ?_
 rintro k29 w31 s33 s34 G32 Fk30
 have z35 := V.Fr.size G32
 try replace Ft := Ft.gr G32
 try replace FX := FX.gr G32
 try replace Fk2 := Fk2.gr G32
 try replace Fk9 := Fk9.gr G32
 try replace Fk16 := Fk16.gr G32
 try replace Fk23 := Fk23.gr G32
 replace HG := HG.grow G32
 try simp only [V.cellsL, V.spliceL] at Fk30
 refine V.nt ?_
 refine V.sr ?_
 refine V.loadO T_ok Fk2 rfl rfl rfl rfl rfl ?_
 refine V.call (mtk_number (Ft := Ft) (FX := FX) (Fx := Fk23) (off := 0) (hle := rfl) (n1 := by omega) (n2 := by omega) (n3 := by omega) (n4 := (by intro h; first | exact n5 h.1 | (have := h.1; have := h.2; omega))) (n5 := (by intro h; first | exact n5 h.1 | (have := h.1; have := h.2; omega)))) rfl rfl rfl ?_
 rintro _ w39 ⟨rfl, F36, F37, F38, G40⟩
 obtain ⟨w41, G42, G43⟩ := V.Fr.cut G40
 have z44 := V.Fr.size G42
 try replace Ft := Ft.ma G42
 try replace FX := FX.ma G42
 try replace Fk2 := Fk2.ma G42
 try replace Fk9 := Fk9.ma G42
 try replace Fk16 := Fk16.ma G42
 try replace Fk23 := Fk23.ma G42
 try replace Fk30 := Fk30.ma G42
 replace HG := HG.n1 G42
 obtain ⟨w45, G46, G47⟩ := V.Fr.two G43
 have z48 := V.Fr.size G46
 try replace Ft := Ft.ma G46
 try replace FX := FX.ma G46
 try replace Fk2 := Fk2.ma G46
 try replace Fk9 := Fk9.ma G46
 try replace Fk16 := Fk16.ma G46
 try replace Fk23 := Fk23.ma G46
 try replace Fk30 := Fk30.ma G46
 replace HG := HG.n1 G46
 have z49 := V.Fr.size G47
 try replace Ft := Ft.ma G47
 try replace FX := FX.ma G47
 try replace Fk2 := Fk2.ma G47
 try replace Fk9 := Fk9.ma G47
 try replace Fk16 := Fk16.ma G47
 try replace Fk23 := Fk23.ma G47
 try replace Fk30 := Fk30.ma G47
 replace HG := HG.n1 G47
 simp only [V.spliceL, V.cellsL] at F38
 refine V.nt ?_
 refine V.seq ?_
 generalize hd1 : (rdN d 1099511627776).2 = d1 at F36
 generalize hb1 : (bad || decide (¬ (rdN d 1099511627776).1.2 = 0)) = b1 at F37
 generalize hq1_0 : (rdN d 1099511627776).1.1 = q1_0 at F38
 refine V.region ?_
 refine V.loadO T_ok Fk2 rfl rfl rfl rfl rfl ?_
 refine V.ru 1 ?_
 refine V.call (mtk_stamp (Ft := F37) (FX := F36) (Fx := Fk16) (off := 1) (hle := rfl) (n1 := by omega) (n2 := by omega) (n3 := by omega) (n4 := (by intro h; first | exact n5 h.1 | (have := h.1; have := h.2; omega))) (n5 := (by intro h; first | exact n5 h.1 | (have := h.1; have := h.2; omega)))) rfl rfl rfl ?_
 rintro _ w53 ⟨rfl, F50, F51, F52, G54⟩
 obtain ⟨w55, G56, G57⟩ := V.Fr.cut G54
 have z58 := V.Fr.size G56
 try replace Fk2 := Fk2.ma G56
 try replace Fk9 := Fk9.ma G56
 try replace Fk16 := Fk16.ma G56
 try replace Fk30 := Fk30.ma G56
 try replace F36 := F36.ma G56
 try replace F37 := F37.ma G56
 try replace F38 := F38.ma G56
 replace HG := HG.n1 G56
 obtain ⟨w59, G60, G61⟩ := V.Fr.two G57
 have z62 := V.Fr.size G60
 try replace Fk2 := Fk2.ma G60
 try replace Fk9 := Fk9.ma G60
 try replace Fk16 := Fk16.ma G60
 try replace Fk30 := Fk30.ma G60
 try replace F36 := F36.ma G60
 try replace F37 := F37.ma G60
 try replace F38 := F38.ma G60
 replace HG := HG.n1 G60
 have z63 := V.Fr.size G61
 try replace Fk2 := Fk2.ma G61
 try replace Fk9 := Fk9.ma G61
 try replace Fk16 := Fk16.ma G61
 try replace Fk30 := Fk30.ma G61
 try replace F36 := F36.ma G61
 try replace F37 := F37.ma G61
 try replace F38 := F38.ma G61
 replace HG := HG.n1 G61
 simp only [V.spliceL, V.cellsL] at F52
 refine V.nt ?_
 refine V.seq ?_
 refine V.seq ?_
 have z64 : w39.heap.size ≤ w53.heap.size := by omega
 try clear z58
 try clear z62
 try clear z63
 generalize hd2 : (rdS d1).2 = d2 at F50
 generalize hb2 : (b1 || decide (¬ (rdS d1).1.2 = 0)) = b2 at F51
 generalize hq2_0 : (rdS d1).1.1.1 = q2_0 at F52
 generalize hq2_1 : (rdS d1).1.1.2 = q2_1 at F52
 refine V.region ?_
 refine V.loadO T_ok Fk2 rfl rfl rfl rfl rfl ?_
 refine V.call (mtk_number (Ft := F51) (FX := F50) (Fx := Fk30) (off := 0) (hle := rfl) (n1 := by omega) (n2 := by omega) (n3 := by omega) (n4 := (by intro h; first | exact n5 h.1 | (have := h.1; have := h.2; omega))) (n5 := (by intro h; first | exact n5 h.1 | (have := h.1; have := h.2; omega)))) rfl rfl rfl ?_
 rintro _ w68 ⟨rfl, F65, F66, F67, G69⟩
 obtain ⟨w70, G71, G72⟩ := V.Fr.cut G69
 have z73 := V.Fr.size G71
 try replace Fk2 := Fk2.ma G71
 try replace Fk9 := Fk9.ma G71
 try replace Fk30 := Fk30.ma G71
 try replace F38 := F38.ma G71
 try replace F50 := F50.ma G71
 try replace F51 := F51.ma G71
 try replace F52 := F52.ma G71
 replace HG := HG.n1 G71
 obtain ⟨w74, G75, G76⟩ := V.Fr.two G72
 have z77 := V.Fr.size G75
 try replace Fk2 := Fk2.ma G75
 try replace Fk9 := Fk9.ma G75
 try replace Fk30 := Fk30.ma G75
 try replace F38 := F38.ma G75
 try replace F50 := F50.ma G75
 try replace F51 := F51.ma G75
 try replace F52 := F52.ma G75
 replace HG := HG.n1 G75
 have z78 := V.Fr.size G76
 try replace Fk2 := Fk2.ma G76
 try replace Fk9 := Fk9.ma G76
 try replace Fk30 := Fk30.ma G76
 try replace F38 := F38.ma G76
 try replace F50 := F50.ma G76
 try replace F51 := F51.ma G76
 try replace F52 := F52.ma G76
 replace HG := HG.n1 G76
 simp only [V.spliceL, V.cellsL] at F67
 refine V.nt ?_
 refine V.block ?_
 have z79 : w53.heap.size ≤ w68.heap.size := by omega
 try clear z73
 try clear z77
 try clear z78
 generalize hd3 : (rdN d2 1099511627776).2 = d3 at F65
 generalize hb3 : (b2 || decide (¬ (rdN d2 1099511627776).1.2 = 0)) = b3 at F66
 generalize hq3_0 : (rdN d2 1099511627776).1.1 = q3_0 at F67
 have hR : resL bad d = resEnd q1_0 q2_0 q2_1 (kvL q3_0.toNat b3 d3 []) := by
  unfold resL; rw [kN_eq hq1_0 hb1 hd1, kS_eq hq2_0 hq2_1 hb2 hd2, kN_eq hq3_0 hb3 hd3]
 have hrn := rngN hq3_0
 clear hq1_0 hb1 hd1 hq2_0 hq2_1 hb2 hd2 hq3_0 hb3 hd3
 refine V.loopM (fun m e v81 => Fr [k, kt] w v81 ∧ w68.heap.size ≤ v81.heap.size ∧ Cells v81 k1 [.pointer (some ⟨kt, 0, none⟩)] 62 ∧ Cells v81 k8 [.int .i64 0, .int .i64 0, .int .i64 0, .slice none 0 0, .bool false, .int .i64 0, .int .i64 0, .string ByteArray.empty, .int .i64 0, .int .i64 0, .int .i64 0, .int .i64 0, .int .i64 0, .int .i64 0, .int .i64 0, .int .i64 0, .int .i64 0, .slice none 0 0] 41 ∧ Cells v81 k22 [.int .i64 q1_0] 3 ∧ ∃ (wr : Int) (bd : Bool) (cur : List UInt8) (acc : List (ByteArray × ByteArray)) (ra9 : Option Addr) (rc9 : Nat), m = wr.toNat ∧ 0 ≤ wr ∧ wr ≤ 1099511627776 ∧ kvL wr.toNat bd cur acc = kvL q3_0.toNat b3 d3 [] ∧ (acc.length : Int) + wr ≤ 1099511627776 ∧ Cells v81 k15 [.int .i64 0, .int .i64 q2_0, .int .i64 q2_1, .slice ra9 acc.length rc9, .bool false, .int .i64 0, .int .i64 0, .string ByteArray.empty, .int .i64 0, .int .i64 0, .int .i64 0, .int .i64 0, .int .i64 0, .int .i64 0, .int .i64 0, .int .i64 0, .int .i64 0, .slice none 0 0] 41 ∧ V.Row (V.Cod.pair V.Cod.str V.Cod.str) 58 v81 V.None' w68.heap.size v81.heap.size ra9 rc9 acc ∧ Rd v81 k (fun j => D j ∧ j < w.heap.size) cur ∧ Cells v81 kt [.pointer (some ⟨k, 0, none⟩), .bool bd] 66 ∧ Cells v81 k29 [.int .i64 wr] 3 ∧ e 1 = .pointer (some ⟨k1, 0, none⟩) ∧ e 2 = .pointer (some ⟨k8, 0, none⟩) ∧ e 3 = .pointer (some ⟨k15, 0, none⟩) ∧ e 4 = .pointer (some ⟨k22, 0, none⟩) ∧ e 5 = .pointer (some ⟨k29, 0, none⟩)) ?_ ?_
 ·
  exact ⟨_, HG, (by omega), Fk2, Fk9, F38, (q3_0), (b3), (d3), ([]), _, _, rfl, (by omega), (by omega), (rfl), (by simp; omega), F52, V.Row.nil, F65, F66, F67, rfl, rfl, rfl, rfl, rfl⟩
 try clear F52
 clear HG Fk2 Fk9 F38 F65 F66 F67
 rintro _ e v81 ⟨HG, z82, Fk2, Fk9, F38, wr, bd, cur, acc, ra9, rc9, rfl, hw0, hw1, hinv, hal, rFk9, rF9, F65, F66, F67, he0_1, he0_2, he0_3, he0_4, he0_5⟩
 refine V.knownC (t := 1) he0_1 ?_
 refine V.knownC (t := 2) he0_2 ?_
 refine V.knownC (t := 3) he0_3 ?_
 refine V.knownC (t := 4) he0_4 ?_
 refine V.knownC (t := 5) he0_5 ?_
 refine V.seq ?_
 refine V.sr ?_
 refine V.loadO T_ok F67 rfl rfl rfl rfl rfl ?_
 refine V.ru 2 ?_
 refine V.split (j := 2) (t := 16) rfl rfl (fun g6_2 => ?_) (fun g6_2 => ?_)
 ·
  try replace g6_2 := V.dec g6_2
  try simp only [V.mk] at g6_2
  refine V.yes rfl rfl rfl ?_
  refine V.loadO T_ok Fk2 rfl rfl rfl rfl rfl ?_
  refine V.ru 2 ?_
  refine V.yes rfl rfl rfl ?_
  refine V.loadO T_ok F66 rfl rfl rfl rfl rfl ?_
  refine V.ru 2 ?_
  refine V.nt ?_
  refine V.condT rfl (fun h6 => ?_) (fun h6 => ?_)
  ·
   try replace h6 := V.dec h6
   try simp only [V.mk] at h6
   refine V.skip ?_
   refine V.tN ?_
   refine V.seq ?_
   refine V.block ?_
   refine V.sr ?_
   refine V.alloc zero58 rfl rfl rfl ?_
   rintro k83 w85 s87 s88 G86 Fk84
   have z89 := V.Fr.size G86
   try replace Fk2 := Fk2.gr G86
   try replace Fk9 := Fk9.gr G86
   try replace F38 := F38.gr G86
   try replace F65 := F65.gr G86
   try replace F66 := F66.gr G86
   try replace F67 := F67.gr G86
   try replace rFk9 := rFk9.gr G86
   try replace rF9 := rF9.gr G86
   replace HG := HG.grow G86
   try simp only [V.cellsL, V.spliceL] at Fk84
   refine V.nt ?_
   refine V.sr ?_
   refine V.loadO T_ok Fk2 rfl rfl rfl rfl rfl ?_
   refine V.ru 1 ?_
   refine V.call (mtk_text (Ft := F66) (FX := F65) (Fx := Fk84) (off := 0) (hle := rfl) (n1 := by omega) (n2 := by omega) (n3 := by omega) (n4 := (by intro h; first | exact n5 h.1 | (have := h.1; have := h.2; omega))) (n5 := (by intro h; first | exact n5 h.1 | (have := h.1; have := h.2; omega)))) rfl rfl rfl ?_
   rintro _ w93 ⟨rfl, F90, F91, F92, G94⟩
   obtain ⟨w95, G96, G97⟩ := V.Fr.cut G94
   have z98 := V.Fr.size G96
   try replace Fk2 := Fk2.ma G96
   try replace Fk9 := Fk9.ma G96
   try replace F38 := F38.ma G96
   try replace F65 := F65.ma G96
   try replace F66 := F66.ma G96
   try replace F67 := F67.ma G96
   try replace rFk9 := rFk9.ma G96
   try replace rF9 := rF9.ma G96
   try replace Fk84 := Fk84.ma G96
   replace HG := HG.n1 G96
   obtain ⟨w99, G100, G101⟩ := V.Fr.two G97
   have z102 := V.Fr.size G100
   try replace Fk2 := Fk2.ma G100
   try replace Fk9 := Fk9.ma G100
   try replace F38 := F38.ma G100
   try replace F65 := F65.ma G100
   try replace F66 := F66.ma G100
   try replace F67 := F67.ma G100
   try replace rFk9 := rFk9.ma G100
   try replace rF9 := rF9.ma G100
   try replace Fk84 := Fk84.ma G100
   replace HG := HG.n1 G100
   have z103 := V.Fr.size G101
   try replace Fk2 := Fk2.ma G101
   try replace Fk9 := Fk9.ma G101
   try replace F38 := F38.ma G101
   try replace F65 := F65.ma G101
   try replace F66 := F66.ma G101
   try replace F67 := F67.ma G101
   try replace rFk9 := rFk9.ma G101
   try replace rF9 := rF9.ma G101
   try replace Fk84 := Fk84.ma G101
   replace HG := HG.n1 G101
   simp only [V.spliceL, V.cellsL] at F92
   refine V.nt ?_
   refine V.sr ?_
   refine V.loadO T_ok Fk2 rfl rfl rfl rfl rfl ?_
   refine V.ru 1 ?_
   refine V.call (mtk_text (Ft := F91) (FX := F90) (Fx := F92) (off := 1) (hle := rfl) (n1 := by omega) (n2 := by omega) (n3 := by omega) (n4 := (by intro h; first | exact n5 h.1 | (have := h.1; have := h.2; omega))) (n5 := (by intro h; first | exact n5 h.1 | (have := h.1; have := h.2; omega)))) rfl rfl rfl ?_
   rintro _ w107 ⟨rfl, F104, F105, F106, G108⟩
   obtain ⟨w109, G110, G111⟩ := V.Fr.cut G108
   have z112 := V.Fr.size G110
   try replace Fk2 := Fk2.ma G110
   try replace Fk9 := Fk9.ma G110
   try replace F38 := F38.ma G110
   try replace F67 := F67.ma G110
   try replace rFk9 := rFk9.ma G110
   try replace rF9 := rF9.ma G110
   try replace F90 := F90.ma G110
   try replace F91 := F91.ma G110
   try replace F92 := F92.ma G110
   replace HG := HG.n1 G110
   obtain ⟨w113, G114, G115⟩ := V.Fr.two G111
   have z116 := V.Fr.size G114
   try replace Fk2 := Fk2.ma G114
   try replace Fk9 := Fk9.ma G114
   try replace F38 := F38.ma G114
   try replace F67 := F67.ma G114
   try replace rFk9 := rFk9.ma G114
   try replace rF9 := rF9.ma G114
   try replace F90 := F90.ma G114
   try replace F91 := F91.ma G114
   try replace F92 := F92.ma G114
   replace HG := HG.n1 G114
   have z117 := V.Fr.size G115
   try replace Fk2 := Fk2.ma G115
   try replace Fk9 := Fk9.ma G115
   try replace F38 := F38.ma G115
   try replace F67 := F67.ma G115
   try replace rFk9 := rFk9.ma G115
   try replace rF9 := rF9.ma G115
   try replace F90 := F90.ma G115
   try replace F91 := F91.ma G115
   try replace F92 := F92.ma G115
   replace HG := HG.n1 G115
   simp only [V.spliceL, V.cellsL] at F106
   refine V.nt ?_
   refine V.region ?_
   refine V.ru 1 ?_
   refine V.loadO T_ok rFk9 rfl rfl rfl rfl rfl ?_
   refine V.loadO T_ok F106 rfl rfl rfl rfl rfl ?_
   refine V.mkSlice T_ok zero58 rfl rfl sz58 rfl rfl rfl rfl rfl rfl ?_
   rintro k118 w121 s123 s124 G122 Fk119
   have z125 := V.Fr.size G122
   try replace Fk2 := Fk2.gr G122
   try replace Fk9 := Fk9.gr G122
   try replace F38 := F38.gr G122
   try replace F67 := F67.gr G122
   try replace rFk9 := rFk9.gr G122
   try replace rF9 := rF9.gr G122
   try replace F104 := F104.gr G122
   try replace F105 := F105.gr G122
   try replace F106 := F106.gr G122
   replace HG := HG.grow G122
   have F120 := V.rowOfC (xs := ([(S (rdT cur 65536).1.1, S (rdT ((rdT cur 65536).2) 65536).1.1)] : List (ByteArray × ByteArray))) Fk119 (C := (V.Cod.pair V.Cod.str V.Cod.str)) (V.reps_cons (x := (S (rdT cur 65536).1.1, S (rdT ((rdT cur 65536).2) 65536).1.1)) ⟨_, _, rfl, rfl, rfl⟩ rfl rfl) rfl
   clear Fk119
   refine V.appendR (rF9) (V.From.flat V.flat_kv (D' := V.None') (F120.sl.from Try.underlying36)) elT36_36 rfl rfl rfl rfl rfl V.lenA (by unfold maxLen; first | omega | (simp only [List.length_take, List.length_drop, List.length_append, List.length_cons, List.length_nil, List.length_replicate, List.length_set, V.length_data, V.S_size]; omega)) (by omega) (by omega) (fun _ h => h.elim) (fun _ h => h.elim) ?_
   rintro a126 c127 w129 G130 s131 F128
   clear rF9
   clear F120
   have z132 := Go.RowKit.Below.size G130
   first | replace Fk2 := V.Cells.bl Fk2 G130 (by omega) | clear Fk2 | skip
   first | replace Fk9 := V.Cells.bl Fk9 G130 (by omega) | clear Fk9 | skip
   first | replace F38 := V.Cells.bl F38 G130 (by omega) | clear F38 | skip
   first | replace F67 := V.Cells.bl F67 G130 (by omega) | clear F67 | skip
   first | replace rFk9 := V.Cells.bl rFk9 G130 (by omega) | clear rFk9 | skip
   first | replace F104 := F104.bl G130 (by first | exact ⟨by omega, fun j h => by have := h.2; omega⟩ | (first | omega | exact fun h => h | exact ⟨by omega, fun h => h⟩ | (intro h; first | (have := hD _ h; omega)) | (refine ⟨by omega, ?_⟩; intro h; first | (have := hD _ h; omega)))) | clear F104 | skip
   first | replace F105 := V.Cells.bl F105 G130 (by omega) | clear F105 | skip
   first | replace F106 := V.Cells.bl F106 G130 (by omega) | clear F106 | skip
   replace HG := HG.bl (Go.RowKit.Below.mono G130 (by omega))
   refine V.ru 1 ?_
   refine V.storeO rFk9 rfl rfl rfl rfl sz36 rfl rfl rfl rfl ?_
   rintro w133 G134 z136 Fs135
   clear rFk9
   have z137 := V.Fr.size G134
   try replace Fk2 := Fk2.ma G134
   try replace Fk9 := Fk9.ma G134
   try replace F38 := F38.ma G134
   try replace F67 := F67.ma G134
   try replace F104 := F104.ma G134
   try replace F105 := F105.ma G134
   try replace F106 := F106.ma G134
   try replace F128 := F128.ma G134
   replace HG := HG.n1 G134
   have rFk9 := Fs135; clear Fs135
   simp only [V.spliceL, V.cellsL] at rFk9
   refine V.nil ?_
   refine V.bN ?_
   refine V.tN ?_
   refine V.region ?_
   refine V.loadO T_ok F67 rfl rfl rfl rfl rfl ?_
   refine V.subN rfl rfl rfl rfl rfl V.lenA V.lenA ?_
   refine V.storeO F67 rfl rfl rfl rfl sz3 rfl rfl rfl rfl ?_
   rintro w138 G139 z141 Fs140
   clear F67
   have z142 := V.Fr.size G139
   try replace Fk2 := Fk2.ma G139
   try replace Fk9 := Fk9.ma G139
   try replace F38 := F38.ma G139
   try replace F104 := F104.ma G139
   try replace F105 := F105.ma G139
   try replace F106 := F106.ma G139
   try replace F128 := F128.ma G139
   try replace rFk9 := rFk9.ma G139
   replace HG := HG.n1 G139
   have F67 := Fs140; clear Fs140
   simp only [V.spliceL, V.cellsL] at F67
   refine V.nt ?_
   exact ⟨_, (by omega), HG, (by omega), Fk2, Fk9, F38, (wr - 1), ((bd || decide (¬ (rdT cur 65536).1.2 = 0)) || decide (¬ (rdT ((rdT cur 65536).2) 65536).1.2 = 0)), ((rdT ((rdT cur 65536).2) 65536).2), (acc ++ ([(S (rdT cur 65536).1.1, S (rdT ((rdT cur 65536).2) 65536).1.1)] : List (ByteArray × ByteArray))), _, _, rfl, (by omega), (by omega), ((kvL_succ g6_2 h6).symm.trans hinv), (by rw [List.length_append]; simp; omega), rFk9, F128.re, F104, F105, F67, rfl, rfl, rfl, rfl, rfl⟩
  ·
   try replace h6 := V.dec h6
   try simp only [V.mk] at h6
   refine V.exit ?_
   refine V.tX ?_
   refine V.tX ?_
   refine V.bE ?_
   refine V.tN ?_
   refine V.seq ?_
   refine V.drawT 7 mixed (by kernel_rfl) ?_
   rintro w143 G144 s145
   have z146 := V.Fr.size G144
   try replace Fk2 := Fk2.gr G144
   try replace Fk9 := Fk9.gr G144
   try replace F38 := F38.gr G144
   try replace F65 := F65.gr G144
   try replace F66 := F66.gr G144
   try replace F67 := F67.gr G144
   try replace rFk9 := rFk9.gr G144
   try replace rF9 := rF9.gr G144
   replace HG := HG.grow G144
   refine V.qloadO T_ok Fk2 rfl rfl rfl rfl rfl ?_
   refine V.qrun T_ok 1 rfl ?_
   refine V.qloadO T_ok Fk2 rfl rfl rfl rfl rfl ?_
   refine V.qrun T_ok 2 rfl ?_
   refine V.qloadO T_ok F66 rfl rfl rfl rfl rfl ?_
   refine V.qrun T_ok 1 rfl ?_
   refine V.qnil ?_
   refine V.call (mtake_flag (Ft := F66) (FX := F65) (Fx := rFk9) (off := 4) (hle := rfl) (n1 := by omega) (n2 := by omega) (n3 := by omega) (n4 := (by intro h; first | exact n5 h.1 | (have := h.1; have := h.2; omega))) (n5 := (by intro h; first | exact n5 h.1 | (have := h.1; have := h.2; omega)))) rfl rfl rfl ?_
   rintro _ w150 ⟨rfl, F147, F148, F149, G151⟩
   obtain ⟨w152, G153, G154⟩ := V.Fr.cut G151
   have z155 := V.Fr.size G153
   try replace Fk2 := Fk2.ma G153
   try replace Fk9 := Fk9.ma G153
   try replace F38 := F38.ma G153
   try replace F65 := F65.ma G153
   try replace F66 := F66.ma G153
   try replace F67 := F67.ma G153
   try replace rFk9 := rFk9.ma G153
   try replace rF9 := rF9.ma G153
   replace HG := HG.n1 G153
   obtain ⟨w156, G157, G158⟩ := V.Fr.two G154
   have z159 := V.Fr.size G157
   try replace Fk2 := Fk2.ma G157
   try replace Fk9 := Fk9.ma G157
   try replace F38 := F38.ma G157
   try replace F65 := F65.ma G157
   try replace F66 := F66.ma G157
   try replace F67 := F67.ma G157
   try replace rFk9 := rFk9.ma G157
   try replace rF9 := rF9.ma G157
   replace HG := HG.n1 G157
   have z160 := V.Fr.size G158
   try replace Fk2 := Fk2.ma G158
   try replace Fk9 := Fk9.ma G158
   try replace F38 := F38.ma G158
   try replace F65 := F65.ma G158
   try replace F66 := F66.ma G158
   try replace F67 := F67.ma G158
   try replace rFk9 := rFk9.ma G158
   try replace rF9 := rF9.ma G158
   replace HG := HG.n1 G158
   simp only [V.spliceL, V.cellsL] at F149
   refine V.nt ?_
   refine V.seq ?_
   have z161 : v81.heap.size ≤ w150.heap.size := by omega
   have hhrF9_3 : v81.heap.size ≤ w150.heap.size := by omega
   try clear z89
   try clear z98
   try clear z102
   try clear z103
   try clear z112
   try clear z116
   try clear z117
   try clear z125
   try clear z132
   try clear z136
   try clear z137
   try clear z141
   try clear z142
   try clear z146
   try clear z155
   try clear z159
   try clear z160
   generalize hd4 : (rdF cur).2 = d4 at F147
   generalize hb4 : (bd || decide (¬ (rdF cur).1.2 = 0)) = b4 at F148
   generalize hq4_0 : (rdF cur).1.1 = q4_0 at F149
   refine V.region ?_
   refine V.loadO T_ok Fk2 rfl rfl rfl rfl rfl ?_
   refine V.ru 2 ?_
   refine V.call (mtk_number (Ft := F148) (FX := F147) (Fx := F149) (off := 5) (hle := rfl) (n1 := by omega) (n2 := by omega) (n3 := by omega) (n4 := (by intro h; first | exact n5 h.1 | (have := h.1; have := h.2; omega))) (n5 := (by intro h; first | exact n5 h.1 | (have := h.1; have := h.2; omega)))) rfl rfl rfl ?_
   rintro _ w165 ⟨rfl, F162, F163, F164, G166⟩
   obtain ⟨w167, G168, G169⟩ := V.Fr.cut G166
   have z170 := V.Fr.size G168
   try replace Fk2 := Fk2.ma G168
   try replace Fk9 := Fk9.ma G168
   try replace F38 := F38.ma G168
   try replace F67 := F67.ma G168
   try replace rF9 := rF9.ma G168
   try replace F147 := F147.ma G168
   try replace F148 := F148.ma G168
   try replace F149 := F149.ma G168
   replace HG := HG.n1 G168
   obtain ⟨w171, G172, G173⟩ := V.Fr.two G169
   have z174 := V.Fr.size G172
   try replace Fk2 := Fk2.ma G172
   try replace Fk9 := Fk9.ma G172
   try replace F38 := F38.ma G172
   try replace F67 := F67.ma G172
   try replace rF9 := rF9.ma G172
   try replace F147 := F147.ma G172
   try replace F148 := F148.ma G172
   try replace F149 := F149.ma G172
   replace HG := HG.n1 G172
   have z175 := V.Fr.size G173
   try replace Fk2 := Fk2.ma G173
   try replace Fk9 := Fk9.ma G173
   try replace F38 := F38.ma G173
   try replace F67 := F67.ma G173
   try replace rF9 := rF9.ma G173
   try replace F147 := F147.ma G173
   try replace F148 := F148.ma G173
   try replace F149 := F149.ma G173
   replace HG := HG.n1 G173
   simp only [V.spliceL, V.cellsL] at F164
   refine V.nt ?_
   refine V.seq ?_
   have z176 : w150.heap.size ≤ w165.heap.size := by omega
   have hhrF9_4 : v81.heap.size ≤ w165.heap.size := by omega
   try clear z170
   try clear z174
   try clear z175
   generalize hd5 : (rdN d4 1099511627776).2 = d5 at F162
   generalize hb5 : (b4 || decide (¬ (rdN d4 1099511627776).1.2 = 0)) = b5 at F163
   generalize hq5_0 : (rdN d4 1099511627776).1.1 = q5_0 at F164
   refine V.region ?_
   refine V.loadO T_ok Fk2 rfl rfl rfl rfl rfl ?_
   refine V.ru 2 ?_
   refine V.call (mtk_number (Ft := F163) (FX := F162) (Fx := F164) (off := 6) (hle := rfl) (n1 := by omega) (n2 := by omega) (n3 := by omega) (n4 := (by intro h; first | exact n5 h.1 | (have := h.1; have := h.2; omega))) (n5 := (by intro h; first | exact n5 h.1 | (have := h.1; have := h.2; omega)))) rfl rfl rfl ?_
   rintro _ w180 ⟨rfl, F177, F178, F179, G181⟩
   obtain ⟨w182, G183, G184⟩ := V.Fr.cut G181
   have z185 := V.Fr.size G183
   try replace Fk2 := Fk2.ma G183
   try replace Fk9 := Fk9.ma G183
   try replace F38 := F38.ma G183
   try replace F67 := F67.ma G183
   try replace rF9 := rF9.ma G183
   try replace F162 := F162.ma G183
   try replace F163 := F163.ma G183
   try replace F164 := F164.ma G183
   replace HG := HG.n1 G183
   obtain ⟨w186, G187, G188⟩ := V.Fr.two G184
   have z189 := V.Fr.size G187
   try replace Fk2 := Fk2.ma G187
   try replace Fk9 := Fk9.ma G187
   try replace F38 := F38.ma G187
   try replace F67 := F67.ma G187
   try replace rF9 := rF9.ma G187
   try replace F162 := F162.ma G187
   try replace F163 := F163.ma G187
   try replace F164 := F164.ma G187
   replace HG := HG.n1 G187
   have z190 := V.Fr.size G188
   try replace Fk2 := Fk2.ma G188
   try replace Fk9 := Fk9.ma G188
   try replace F38 := F38.ma G188
   try replace F67 := F67.ma G188
   try replace rF9 := rF9.ma G188
   try replace F162 := F162.ma G188
   try replace F163 := F163.ma G188
   try replace F164 := F164.ma G188
   replace HG := HG.n1 G188
   simp only [V.spliceL, V.cellsL] at F179
   refine V.nt ?_
   refine V.seq ?_
   have z191 : w165.heap.size ≤ w180.heap.size := by omega
   have hhrF9_5 : v81.heap.size ≤ w180.heap.size := by omega
   try clear z185
   try clear z189
   try clear z190
   generalize hd6 : (rdN d5 1099511627776).2 = d6 at F177
   generalize hb6 : (b5 || decide (¬ (rdN d5 1099511627776).1.2 = 0)) = b6 at F178
   generalize hq6_0 : (rdN d5 1099511627776).1.1 = q6_0 at F179
   refine V.region ?_
   refine V.loadO T_ok Fk2 rfl rfl rfl rfl rfl ?_
   refine V.ru 2 ?_
   refine V.call (mtk_text (Ft := F178) (FX := F177) (Fx := F179) (off := 7) (hle := rfl) (n1 := by omega) (n2 := by omega) (n3 := by omega) (n4 := (by intro h; first | exact n5 h.1 | (have := h.1; have := h.2; omega))) (n5 := (by intro h; first | exact n5 h.1 | (have := h.1; have := h.2; omega)))) rfl rfl rfl ?_
   rintro _ w195 ⟨rfl, F192, F193, F194, G196⟩
   obtain ⟨w197, G198, G199⟩ := V.Fr.cut G196
   have z200 := V.Fr.size G198
   try replace Fk2 := Fk2.ma G198
   try replace Fk9 := Fk9.ma G198
   try replace F38 := F38.ma G198
   try replace F67 := F67.ma G198
   try replace rF9 := rF9.ma G198
   try replace F177 := F177.ma G198
   try replace F178 := F178.ma G198
   try replace F179 := F179.ma G198
   replace HG := HG.n1 G198
   obtain ⟨w201, G202, G203⟩ := V.Fr.two G199
   have z204 := V.Fr.size G202
   try replace Fk2 := Fk2.ma G202
   try replace Fk9 := Fk9.ma G202
   try replace F38 := F38.ma G202
   try replace F67 := F67.ma G202
   try replace rF9 := rF9.ma G202
   try replace F177 := F177.ma G202
   try replace F178 := F178.ma G202
   try replace F179 := F179.ma G202
   replace HG := HG.n1 G202
   have z205 := V.Fr.size G203
   try replace Fk2 := Fk2.ma G203
   try replace Fk9 := Fk9.ma G203
   try replace F38 := F38.ma G203
   try replace F67 := F67.ma G203
   try replace rF9 := rF9.ma G203
   try replace F177 := F177.ma G203
   try replace F178 := F178.ma G203
   try replace F179 := F179.ma G203
   replace HG := HG.n1 G203
   simp only [V.spliceL, V.cellsL] at F194
   refine V.nt ?_
   refine V.seq ?_
   have z206 : w180.heap.size ≤ w195.heap.size := by omega
   have hhrF9_6 : v81.heap.size ≤ w195.heap.size := by omega
   try clear z200
   try clear z204
   try clear z205
   generalize hd7 : (rdT d6 65536).2 = d7 at F192
   generalize hb7 : (b6 || decide (¬ (rdT d6 65536).1.2 = 0)) = b7 at F193
   generalize hq7_0 : S (rdT d6 65536).1.1 = q7_0 at F194
   have hz7 := szT hq7_0
   have hm7 := szT2 hq7_0
   refine V.region ?_
   refine V.loadO T_ok Fk2 rfl rfl rfl rfl rfl ?_
   refine V.ru 2 ?_
   refine V.call (mtk_stamp (Ft := F193) (FX := F192) (Fx := F194) (off := 8) (hle := rfl) (n1 := by omega) (n2 := by omega) (n3 := by omega) (n4 := (by intro h; first | exact n5 h.1 | (have := h.1; have := h.2; omega))) (n5 := (by intro h; first | exact n5 h.1 | (have := h.1; have := h.2; omega)))) rfl rfl rfl ?_
   rintro _ w210 ⟨rfl, F207, F208, F209, G211⟩
   obtain ⟨w212, G213, G214⟩ := V.Fr.cut G211
   have z215 := V.Fr.size G213
   try replace Fk2 := Fk2.ma G213
   try replace Fk9 := Fk9.ma G213
   try replace F38 := F38.ma G213
   try replace F67 := F67.ma G213
   try replace rF9 := rF9.ma G213
   try replace F192 := F192.ma G213
   try replace F193 := F193.ma G213
   try replace F194 := F194.ma G213
   replace HG := HG.n1 G213
   obtain ⟨w216, G217, G218⟩ := V.Fr.two G214
   have z219 := V.Fr.size G217
   try replace Fk2 := Fk2.ma G217
   try replace Fk9 := Fk9.ma G217
   try replace F38 := F38.ma G217
   try replace F67 := F67.ma G217
   try replace rF9 := rF9.ma G217
   try replace F192 := F192.ma G217
   try replace F193 := F193.ma G217
   try replace F194 := F194.ma G217
   replace HG := HG.n1 G217
   have z220 := V.Fr.size G218
   try replace Fk2 := Fk2.ma G218
   try replace Fk9 := Fk9.ma G218
   try replace F38 := F38.ma G218
   try replace F67 := F67.ma G218
   try replace rF9 := rF9.ma G218
   try replace F192 := F192.ma G218
   try replace F193 := F193.ma G218
   try replace F194 := F194.ma G218
   replace HG := HG.n1 G218
   simp only [V.spliceL, V.cellsL] at F209
   refine V.nt ?_
   refine V.seq ?_
   have z221 : w195.heap.size ≤ w210.heap.size := by omega
   have hhrF9_7 : v81.heap.size ≤ w210.heap.size := by omega
   try clear z215
   try clear z219
   try clear z220
   generalize hd8 : (rdS d7).2 = d8 at F207
   generalize hb8 : (b7 || decide (¬ (rdS d7).1.2 = 0)) = b8 at F208
   generalize hq8_0 : (rdS d7).1.1.1 = q8_0 at F209
   generalize hq8_1 : (rdS d7).1.1.2 = q8_1 at F209
   refine V.region ?_
   refine V.loadO T_ok Fk2 rfl rfl rfl rfl rfl ?_
   refine V.ru 2 ?_
   refine V.call (mtake_rec (Ft := F208) (FX := F207) (Fx := F209) (off := 10) (hle := rfl) (n1 := by omega) (n2 := by omega) (n3 := by omega) (n4 := (by intro h; first | exact n5 h.1 | (have := h.1; have := h.2; omega))) (n5 := (by intro h; first | exact n5 h.1 | (have := h.1; have := h.2; omega))) (FB := Fk2) (n6 := by omega)) rfl rfl rfl ?_
   rintro _ w228 ⟨a222, c223, rfl, F224, F225, F226, F227, G229⟩
   obtain ⟨w230, G231, G232⟩ := V.Fr.cut G229
   have z233 := V.Fr.size G231
   try replace Fk2 := Fk2.ma G231
   try replace Fk9 := Fk9.ma G231
   try replace F38 := F38.ma G231
   try replace F67 := F67.ma G231
   try replace rF9 := rF9.ma G231
   try replace F207 := F207.ma G231
   try replace F208 := F208.ma G231
   try replace F209 := F209.ma G231
   replace HG := HG.n1 G231
   obtain ⟨w234, G235, G236⟩ := V.Fr.two G232
   have z237 := V.Fr.size G235
   try replace Fk2 := Fk2.ma G235
   try replace Fk9 := Fk9.ma G235
   try replace F38 := F38.ma G235
   try replace F67 := F67.ma G235
   try replace rF9 := rF9.ma G235
   try replace F207 := F207.ma G235
   try replace F208 := F208.ma G235
   try replace F209 := F209.ma G235
   replace HG := HG.n1 G235
   have z238 := V.Fr.size G236
   try replace Fk2 := Fk2.ma G236
   try replace Fk9 := Fk9.ma G236
   try replace F38 := F38.ma G236
   try replace F67 := F67.ma G236
   try replace rF9 := rF9.ma G236
   try replace F207 := F207.ma G236
   try replace F208 := F208.ma G236
   try replace F209 := F209.ma G236
   replace HG := HG.n1 G236
   simp only [V.spliceL, V.cellsL] at F226
   refine V.nt ?_
   refine V.seq ?_
   have z239 : w210.heap.size ≤ w228.heap.size := by omega
   have hhrF9_8 : v81.heap.size ≤ w228.heap.size := by omega
   try clear z233
   try clear z237
   try clear z238
   generalize hd9 : (rdRec d8).2 = d9 at F224
   generalize hb9 : (b8 || decide (¬ (if (rdRec d8).1.isSome = true then (0 : Int) else 11) = 0)) = b9 at F225
   have hk9 : keysOk ((rdRec d8).1.getD recZ).ws := rec_keys _
   generalize hq9_0 : (rdRec d8).1.getD recZ = q9_0 at F226 F227 hk9
   refine V.region ?_
   refine V.loadO T_ok F38 rfl rfl rfl rfl rfl ?_
   refine V.ru 1 ?_
   refine V.storeO F226 rfl rfl rfl rfl sz35 rfl rfl rfl rfl ?_
   rintro w240 G241 z243 Fs242
   clear F226
   have z244 := V.Fr.size G241
   try replace Fk2 := Fk2.ma G241
   try replace Fk9 := Fk9.ma G241
   try replace F38 := F38.ma G241
   try replace F67 := F67.ma G241
   try replace rF9 := rF9.ma G241
   try replace F224 := F224.ma G241
   try replace F225 := F225.ma G241
   try replace F227 := F227.ma G241
   replace HG := HG.n1 G241
   have F226 := Fs242; clear Fs242
   simp only [V.spliceL, V.cellsL] at F226
   refine V.nt ?_
   refine V.sr ?_
   refine V.loadO T_ok F226 rfl rfl rfl rfl rfl ?_
   refine V.storeO Fk9 rfl rfl rfl rfl sz41 rfl rfl rfl rfl ?_
   rintro w245 G246 z248 Fs247
   clear Fk9
   have z249 := V.Fr.size G246
   try replace Fk2 := Fk2.ma G246
   try replace F38 := F38.ma G246
   try replace F67 := F67.ma G246
   try replace rF9 := rF9.ma G246
   try replace F224 := F224.ma G246
   try replace F225 := F225.ma G246
   try replace F227 := F227.ma G246
   try replace F226 := F226.ma G246
   replace HG := HG.n1 G246
   have Fk9 := Fs247; clear Fs247
   simp only [V.spliceL, V.cellsL] at Fk9
   refine V.nt ?_
   refine V.ret ?_
   refine V.done1 rfl (V.resV_cell T_ok Fk9 rfl rfl) ?_
   have hE : resL bad d = ((⟨q1_0, q2_0, q2_1, acc, q4_0, q5_0, q6_0, q7_0, q8_0, q8_1, q9_0⟩ : ResV), b9, d9) := by
    rw [hR, ← hinv, kvL_end (by intro hq; first | exact g6_2 hq.1 | (have := hq.1; omega) | exact h6 hq.2 | (rw [hq.2] at h6; cases h6))]; unfold resEnd; dsimp only; rw [kF_eq hq4_0 hb4 hd4, kN_eq hq5_0 hb5 hd5, kN_eq hq6_0 hb6 hd6, kT_eq hq7_0 hb7 hd7, kS_eq hq8_0 hq8_1 hb8 hd8, kR_eq hq9_0 hb9 hd9]
   rw [hE]
   exact ⟨_, _, _, _, rfl, (F224.mono (fun _ h => h.1) hnk), F225, rF9.re, F227.re, HG⟩
 ·
  try replace g6_2 := V.dec g6_2
  try simp only [V.mk] at g6_2
  refine V.ru 6 ?_
  refine V.nt ?_
  refine V.condN rfl rfl ?_
  refine V.exit ?_
  refine V.tX ?_
  refine V.tX ?_
  refine V.bE ?_
  refine V.tN ?_
  refine V.seq ?_
  refine V.drawT 7 mixed (by kernel_rfl) ?_
  rintro w250 G251 s252
  have z253 := V.Fr.size G251
  try replace Fk2 := Fk2.gr G251
  try replace Fk9 := Fk9.gr G251
  try replace F38 := F38.gr G251
  try replace F65 := F65.gr G251
  try replace F66 := F66.gr G251
  try replace F67 := F67.gr G251
  try replace rFk9 := rFk9.gr G251
  try replace rF9 := rF9.gr G251
  replace HG := HG.grow G251
  refine V.qloadO T_ok Fk2 rfl rfl rfl rfl rfl ?_
  refine V.qrun T_ok 1 rfl ?_
  refine V.qloadO T_ok Fk2 rfl rfl rfl rfl rfl ?_
  refine V.qrun T_ok 2 rfl ?_
  refine V.qloadO T_ok F66 rfl rfl rfl rfl rfl ?_
  refine V.qrun T_ok 1 rfl ?_
  refine V.qnil ?_
  refine V.call (mtake_flag (Ft := F66) (FX := F65) (Fx := rFk9) (off := 4) (hle := rfl) (n1 := by omega) (n2 := by omega) (n3 := by omega) (n4 := (by intro h; first | exact n5 h.1 | (have := h.1; have := h.2; omega))) (n5 := (by intro h; first | exact n5 h.1 | (have := h.1; have := h.2; omega)))) rfl rfl rfl ?_
  rintro _ w257 ⟨rfl, F254, F255, F256, G258⟩
  obtain ⟨w259, G260, G261⟩ := V.Fr.cut G258
  have z262 := V.Fr.size G260
  try replace Fk2 := Fk2.ma G260
  try replace Fk9 := Fk9.ma G260
  try replace F38 := F38.ma G260
  try replace F65 := F65.ma G260
  try replace F66 := F66.ma G260
  try replace F67 := F67.ma G260
  try replace rFk9 := rFk9.ma G260
  try replace rF9 := rF9.ma G260
  replace HG := HG.n1 G260
  obtain ⟨w263, G264, G265⟩ := V.Fr.two G261
  have z266 := V.Fr.size G264
  try replace Fk2 := Fk2.ma G264
  try replace Fk9 := Fk9.ma G264
  try replace F38 := F38.ma G264
  try replace F65 := F65.ma G264
  try replace F66 := F66.ma G264
  try replace F67 := F67.ma G264
  try replace rFk9 := rFk9.ma G264
  try replace rF9 := rF9.ma G264
  replace HG := HG.n1 G264
  have z267 := V.Fr.size G265
  try replace Fk2 := Fk2.ma G265
  try replace Fk9 := Fk9.ma G265
  try replace F38 := F38.ma G265
  try replace F65 := F65.ma G265
  try replace F66 := F66.ma G265
  try replace F67 := F67.ma G265
  try replace rFk9 := rFk9.ma G265
  try replace rF9 := rF9.ma G265
  replace HG := HG.n1 G265
  simp only [V.spliceL, V.cellsL] at F256
  refine V.nt ?_
  refine V.seq ?_
  have z268 : v81.heap.size ≤ w257.heap.size := by omega
  have hhrF9_9 : v81.heap.size ≤ w257.heap.size := by omega
  try clear z89
  try clear z98
  try clear z102
  try clear z103
  try clear z112
  try clear z116
  try clear z117
  try clear z125
  try clear z132
  try clear z136
  try clear z137
  try clear z141
  try clear z142
  try clear z146
  try clear z155
  try clear z159
  try clear z160
  try clear z161
  try clear z170
  try clear z174
  try clear z175
  try clear z176
  try clear z185
  try clear z189
  try clear z190
  try clear z191
  try clear z200
  try clear z204
  try clear z205
  try clear z206
  try clear z215
  try clear z219
  try clear z220
  try clear z221
  try clear z233
  try clear z237
  try clear z238
  try clear z239
  try clear z243
  try clear z244
  try clear z248
  try clear z249
  try clear z253
  try clear z262
  try clear z266
  try clear z267
  generalize hd10 : (rdF cur).2 = d10 at F254
  generalize hb10 : (bd || decide (¬ (rdF cur).1.2 = 0)) = b10 at F255
  generalize hq10_0 : (rdF cur).1.1 = q10_0 at F256
  refine V.region ?_
  refine V.loadO T_ok Fk2 rfl rfl rfl rfl rfl ?_
  refine V.ru 2 ?_
  refine V.call (mtk_number (Ft := F255) (FX := F254) (Fx := F256) (off := 5) (hle := rfl) (n1 := by omega) (n2 := by omega) (n3 := by omega) (n4 := (by intro h; first | exact n5 h.1 | (have := h.1; have := h.2; omega))) (n5 := (by intro h; first | exact n5 h.1 | (have := h.1; have := h.2; omega)))) rfl rfl rfl ?_
  rintro _ w272 ⟨rfl, F269, F270, F271, G273⟩
  obtain ⟨w274, G275, G276⟩ := V.Fr.cut G273
  have z277 := V.Fr.size G275
  try replace Fk2 := Fk2.ma G275
  try replace Fk9 := Fk9.ma G275
  try replace F38 := F38.ma G275
  try replace F67 := F67.ma G275
  try replace rF9 := rF9.ma G275
  try replace F254 := F254.ma G275
  try replace F255 := F255.ma G275
  try replace F256 := F256.ma G275
  replace HG := HG.n1 G275
  obtain ⟨w278, G279, G280⟩ := V.Fr.two G276
  have z281 := V.Fr.size G279
  try replace Fk2 := Fk2.ma G279
  try replace Fk9 := Fk9.ma G279
  try replace F38 := F38.ma G279
  try replace F67 := F67.ma G279
  try replace rF9 := rF9.ma G279
  try replace F254 := F254.ma G279
  try replace F255 := F255.ma G279
  try replace F256 := F256.ma G279
  replace HG := HG.n1 G279
  have z282 := V.Fr.size G280
  try replace Fk2 := Fk2.ma G280
  try replace Fk9 := Fk9.ma G280
  try replace F38 := F38.ma G280
  try replace F67 := F67.ma G280
  try replace rF9 := rF9.ma G280
  try replace F254 := F254.ma G280
  try replace F255 := F255.ma G280
  try replace F256 := F256.ma G280
  replace HG := HG.n1 G280
  simp only [V.spliceL, V.cellsL] at F271
  refine V.nt ?_
  refine V.seq ?_
  have z283 : w257.heap.size ≤ w272.heap.size := by omega
  have hhrF9_10 : v81.heap.size ≤ w272.heap.size := by omega
  try clear z277
  try clear z281
  try clear z282
  generalize hd11 : (rdN d10 1099511627776).2 = d11 at F269
  generalize hb11 : (b10 || decide (¬ (rdN d10 1099511627776).1.2 = 0)) = b11 at F270
  generalize hq11_0 : (rdN d10 1099511627776).1.1 = q11_0 at F271
  refine V.region ?_
  refine V.loadO T_ok Fk2 rfl rfl rfl rfl rfl ?_
  refine V.ru 2 ?_
  refine V.call (mtk_number (Ft := F270) (FX := F269) (Fx := F271) (off := 6) (hle := rfl) (n1 := by omega) (n2 := by omega) (n3 := by omega) (n4 := (by intro h; first | exact n5 h.1 | (have := h.1; have := h.2; omega))) (n5 := (by intro h; first | exact n5 h.1 | (have := h.1; have := h.2; omega)))) rfl rfl rfl ?_
  rintro _ w287 ⟨rfl, F284, F285, F286, G288⟩
  obtain ⟨w289, G290, G291⟩ := V.Fr.cut G288
  have z292 := V.Fr.size G290
  try replace Fk2 := Fk2.ma G290
  try replace Fk9 := Fk9.ma G290
  try replace F38 := F38.ma G290
  try replace F67 := F67.ma G290
  try replace rF9 := rF9.ma G290
  try replace F269 := F269.ma G290
  try replace F270 := F270.ma G290
  try replace F271 := F271.ma G290
  replace HG := HG.n1 G290
  obtain ⟨w293, G294, G295⟩ := V.Fr.two G291
  have z296 := V.Fr.size G294
  try replace Fk2 := Fk2.ma G294
  try replace Fk9 := Fk9.ma G294
  try replace F38 := F38.ma G294
  try replace F67 := F67.ma G294
  try replace rF9 := rF9.ma G294
  try replace F269 := F269.ma G294
  try replace F270 := F270.ma G294
  try replace F271 := F271.ma G294
  replace HG := HG.n1 G294
  have z297 := V.Fr.size G295
  try replace Fk2 := Fk2.ma G295
  try replace Fk9 := Fk9.ma G295
  try replace F38 := F38.ma G295
  try replace F67 := F67.ma G295
  try replace rF9 := rF9.ma G295
  try replace F269 := F269.ma G295
  try replace F270 := F270.ma G295
  try replace F271 := F271.ma G295
  replace HG := HG.n1 G295
  simp only [V.spliceL, V.cellsL] at F286
  refine V.nt ?_
  refine V.seq ?_
  have z298 : w272.heap.size ≤ w287.heap.size := by omega
  have hhrF9_11 : v81.heap.size ≤ w287.heap.size := by omega
  try clear z292
  try clear z296
  try clear z297
  generalize hd12 : (rdN d11 1099511627776).2 = d12 at F284
  generalize hb12 : (b11 || decide (¬ (rdN d11 1099511627776).1.2 = 0)) = b12 at F285
  generalize hq12_0 : (rdN d11 1099511627776).1.1 = q12_0 at F286
  refine V.region ?_
  refine V.loadO T_ok Fk2 rfl rfl rfl rfl rfl ?_
  refine V.ru 2 ?_
  refine V.call (mtk_text (Ft := F285) (FX := F284) (Fx := F286) (off := 7) (hle := rfl) (n1 := by omega) (n2 := by omega) (n3 := by omega) (n4 := (by intro h; first | exact n5 h.1 | (have := h.1; have := h.2; omega))) (n5 := (by intro h; first | exact n5 h.1 | (have := h.1; have := h.2; omega)))) rfl rfl rfl ?_
  rintro _ w302 ⟨rfl, F299, F300, F301, G303⟩
  obtain ⟨w304, G305, G306⟩ := V.Fr.cut G303
  have z307 := V.Fr.size G305
  try replace Fk2 := Fk2.ma G305
  try replace Fk9 := Fk9.ma G305
  try replace F38 := F38.ma G305
  try replace F67 := F67.ma G305
  try replace rF9 := rF9.ma G305
  try replace F284 := F284.ma G305
  try replace F285 := F285.ma G305
  try replace F286 := F286.ma G305
  replace HG := HG.n1 G305
  obtain ⟨w308, G309, G310⟩ := V.Fr.two G306
  have z311 := V.Fr.size G309
  try replace Fk2 := Fk2.ma G309
  try replace Fk9 := Fk9.ma G309
  try replace F38 := F38.ma G309
  try replace F67 := F67.ma G309
  try replace rF9 := rF9.ma G309
  try replace F284 := F284.ma G309
  try replace F285 := F285.ma G309
  try replace F286 := F286.ma G309
  replace HG := HG.n1 G309
  have z312 := V.Fr.size G310
  try replace Fk2 := Fk2.ma G310
  try replace Fk9 := Fk9.ma G310
  try replace F38 := F38.ma G310
  try replace F67 := F67.ma G310
  try replace rF9 := rF9.ma G310
  try replace F284 := F284.ma G310
  try replace F285 := F285.ma G310
  try replace F286 := F286.ma G310
  replace HG := HG.n1 G310
  simp only [V.spliceL, V.cellsL] at F301
  refine V.nt ?_
  refine V.seq ?_
  have z313 : w287.heap.size ≤ w302.heap.size := by omega
  have hhrF9_12 : v81.heap.size ≤ w302.heap.size := by omega
  try clear z307
  try clear z311
  try clear z312
  generalize hd13 : (rdT d12 65536).2 = d13 at F299
  generalize hb13 : (b12 || decide (¬ (rdT d12 65536).1.2 = 0)) = b13 at F300
  generalize hq13_0 : S (rdT d12 65536).1.1 = q13_0 at F301
  have hz13 := szT hq13_0
  have hm13 := szT2 hq13_0
  refine V.region ?_
  refine V.loadO T_ok Fk2 rfl rfl rfl rfl rfl ?_
  refine V.ru 2 ?_
  refine V.call (mtk_stamp (Ft := F300) (FX := F299) (Fx := F301) (off := 8) (hle := rfl) (n1 := by omega) (n2 := by omega) (n3 := by omega) (n4 := (by intro h; first | exact n5 h.1 | (have := h.1; have := h.2; omega))) (n5 := (by intro h; first | exact n5 h.1 | (have := h.1; have := h.2; omega)))) rfl rfl rfl ?_
  rintro _ w317 ⟨rfl, F314, F315, F316, G318⟩
  obtain ⟨w319, G320, G321⟩ := V.Fr.cut G318
  have z322 := V.Fr.size G320
  try replace Fk2 := Fk2.ma G320
  try replace Fk9 := Fk9.ma G320
  try replace F38 := F38.ma G320
  try replace F67 := F67.ma G320
  try replace rF9 := rF9.ma G320
  try replace F299 := F299.ma G320
  try replace F300 := F300.ma G320
  try replace F301 := F301.ma G320
  replace HG := HG.n1 G320
  obtain ⟨w323, G324, G325⟩ := V.Fr.two G321
  have z326 := V.Fr.size G324
  try replace Fk2 := Fk2.ma G324
  try replace Fk9 := Fk9.ma G324
  try replace F38 := F38.ma G324
  try replace F67 := F67.ma G324
  try replace rF9 := rF9.ma G324
  try replace F299 := F299.ma G324
  try replace F300 := F300.ma G324
  try replace F301 := F301.ma G324
  replace HG := HG.n1 G324
  have z327 := V.Fr.size G325
  try replace Fk2 := Fk2.ma G325
  try replace Fk9 := Fk9.ma G325
  try replace F38 := F38.ma G325
  try replace F67 := F67.ma G325
  try replace rF9 := rF9.ma G325
  try replace F299 := F299.ma G325
  try replace F300 := F300.ma G325
  try replace F301 := F301.ma G325
  replace HG := HG.n1 G325
  simp only [V.spliceL, V.cellsL] at F316
  refine V.nt ?_
  refine V.seq ?_
  have z328 : w302.heap.size ≤ w317.heap.size := by omega
  have hhrF9_13 : v81.heap.size ≤ w317.heap.size := by omega
  try clear z322
  try clear z326
  try clear z327
  generalize hd14 : (rdS d13).2 = d14 at F314
  generalize hb14 : (b13 || decide (¬ (rdS d13).1.2 = 0)) = b14 at F315
  generalize hq14_0 : (rdS d13).1.1.1 = q14_0 at F316
  generalize hq14_1 : (rdS d13).1.1.2 = q14_1 at F316
  refine V.region ?_
  refine V.loadO T_ok Fk2 rfl rfl rfl rfl rfl ?_
  refine V.ru 2 ?_
  refine V.call (mtake_rec (Ft := F315) (FX := F314) (Fx := F316) (off := 10) (hle := rfl) (n1 := by omega) (n2 := by omega) (n3 := by omega) (n4 := (by intro h; first | exact n5 h.1 | (have := h.1; have := h.2; omega))) (n5 := (by intro h; first | exact n5 h.1 | (have := h.1; have := h.2; omega))) (FB := Fk2) (n6 := by omega)) rfl rfl rfl ?_
  rintro _ w335 ⟨a329, c330, rfl, F331, F332, F333, F334, G336⟩
  obtain ⟨w337, G338, G339⟩ := V.Fr.cut G336
  have z340 := V.Fr.size G338
  try replace Fk2 := Fk2.ma G338
  try replace Fk9 := Fk9.ma G338
  try replace F38 := F38.ma G338
  try replace F67 := F67.ma G338
  try replace rF9 := rF9.ma G338
  try replace F314 := F314.ma G338
  try replace F315 := F315.ma G338
  try replace F316 := F316.ma G338
  replace HG := HG.n1 G338
  obtain ⟨w341, G342, G343⟩ := V.Fr.two G339
  have z344 := V.Fr.size G342
  try replace Fk2 := Fk2.ma G342
  try replace Fk9 := Fk9.ma G342
  try replace F38 := F38.ma G342
  try replace F67 := F67.ma G342
  try replace rF9 := rF9.ma G342
  try replace F314 := F314.ma G342
  try replace F315 := F315.ma G342
  try replace F316 := F316.ma G342
  replace HG := HG.n1 G342
  have z345 := V.Fr.size G343
  try replace Fk2 := Fk2.ma G343
  try replace Fk9 := Fk9.ma G343
  try replace F38 := F38.ma G343
  try replace F67 := F67.ma G343
  try replace rF9 := rF9.ma G343
  try replace F314 := F314.ma G343
  try replace F315 := F315.ma G343
  try replace F316 := F316.ma G343
  replace HG := HG.n1 G343
  simp only [V.spliceL, V.cellsL] at F333
  refine V.nt ?_
  refine V.seq ?_
  have z346 : w317.heap.size ≤ w335.heap.size := by omega
  have hhrF9_14 : v81.heap.size ≤ w335.heap.size := by omega
  try clear z340
  try clear z344
  try clear z345
  generalize hd15 : (rdRec d14).2 = d15 at F331
  generalize hb15 : (b14 || decide (¬ (if (rdRec d14).1.isSome = true then (0 : Int) else 11) = 0)) = b15 at F332
  have hk15 : keysOk ((rdRec d14).1.getD recZ).ws := rec_keys _
  generalize hq15_0 : (rdRec d14).1.getD recZ = q15_0 at F333 F334 hk15
  refine V.region ?_
  refine V.loadO T_ok F38 rfl rfl rfl rfl rfl ?_
  refine V.ru 1 ?_
  refine V.storeO F333 rfl rfl rfl rfl sz35 rfl rfl rfl rfl ?_
  rintro w347 G348 z350 Fs349
  clear F333
  have z351 := V.Fr.size G348
  try replace Fk2 := Fk2.ma G348
  try replace Fk9 := Fk9.ma G348
  try replace F38 := F38.ma G348
  try replace F67 := F67.ma G348
  try replace rF9 := rF9.ma G348
  try replace F331 := F331.ma G348
  try replace F332 := F332.ma G348
  try replace F334 := F334.ma G348
  replace HG := HG.n1 G348
  have F333 := Fs349; clear Fs349
  simp only [V.spliceL, V.cellsL] at F333
  refine V.nt ?_
  refine V.sr ?_
  refine V.loadO T_ok F333 rfl rfl rfl rfl rfl ?_
  refine V.storeO Fk9 rfl rfl rfl rfl sz41 rfl rfl rfl rfl ?_
  rintro w352 G353 z355 Fs354
  clear Fk9
  have z356 := V.Fr.size G353
  try replace Fk2 := Fk2.ma G353
  try replace F38 := F38.ma G353
  try replace F67 := F67.ma G353
  try replace rF9 := rF9.ma G353
  try replace F331 := F331.ma G353
  try replace F332 := F332.ma G353
  try replace F334 := F334.ma G353
  try replace F333 := F333.ma G353
  replace HG := HG.n1 G353
  have Fk9 := Fs354; clear Fs354
  simp only [V.spliceL, V.cellsL] at Fk9
  refine V.nt ?_
  refine V.ret ?_
  refine V.done1 rfl (V.resV_cell T_ok Fk9 rfl rfl) ?_
  have hE : resL bad d = ((⟨q1_0, q2_0, q2_1, acc, q10_0, q11_0, q12_0, q13_0, q14_0, q14_1, q15_0⟩ : ResV), b15, d15) := by
   rw [hR, ← hinv, kvL_end (by intro hq; first | exact g6_2 hq.1 | (have := hq.1; omega) | exact h6 hq.2 | (rw [hq.2] at h6; cases h6))]; unfold resEnd; dsimp only; rw [kF_eq hq10_0 hb10 hd10, kN_eq hq11_0 hb11 hd11, kN_eq hq12_0 hb12 hd12, kT_eq hq13_0 hb13 hd13, kS_eq hq14_0 hq14_1 hb14 hd14, kR_eq hq15_0 hb15 hd15]
  rw [hE]
  exact ⟨_, _, _, _, rfl, (F331.mono (fun _ h => h.1) hnk), F332, rF9.re, F334.re, HG⟩

end Go.Proofs.Ytooiimhcfgjbgaa
