/- Proved here: walks: what functions of this seat's program return and what they leave of memory, each as a contract. Conditions: stated at each theorem. -/
import Derived.Test.YtnbijpijbhkcpaaMjr2
namespace Go.Proofs.Ytnbijpijbhkcpaa
set_option linter.unusedVariables false
set_option linter.unusedSimpArgs false
open Go
open V (Bytes Meets Env Sl Own Gr Fr Cells S)
/-! ### Opened again, of any file -/
theorem takeV_grow {j j' : JV} {x : List UInt8} (he : takeV j x = some j') : j'.l.length ≤ j.l.length + 1 := by
  unfold takeV recV cutV basV at he
  split at he
  · split at he
    · split at he <;> cases he; simp
    · split at he
      · split at he <;> cases he; dsimp only; rw [List.length_take]; omega
      · split at he
        · split at he <;> cases he
          have := basL_len j (rdN (rdN x 3).2 1099511627776).1.1
          dsimp only; omega
        · cases he
  · cases he
theorem runV_len : ∀ (l : List (List UInt8)) (j : JV), 8 * (runV j l).1.l.length ≤ 8 * j.l.length + lsum l
  | [], j => by simp [runV, lsum]
  | x :: l, j => by
    cases ht : takeV j x with
    | none => simp only [runV, ht, lsum]; omega
    | some j' =>
      have h1 := takeV_grow ht
      have h2 := runV_len l j'
      simp only [runV, ht, lsum]; omega
theorem run_len {t1 t2 t3 : Int} {j2 : JV} {b : List UInt8} {nn : Nat} (hr : runV ⟨0, [], [], t1, t2, t3⟩ (scanB b).1 = (j2, nn)) : 8 * j2.l.length ≤ b.length := by
  have h1 := runV_len (scanB b).1 ⟨0, [], [], t1, t2, t3⟩
  rw [hr] at h1
  have h2 := scan_sum b
  simp only [List.length_nil] at h1
  omega

set_option maxHeartbeats 900000 in
set_option maxRecDepth 10000 in
theorem alike7_spec {w : World} {k kd : Nat} {E : Nat → Prop} {jv : JV} (FX : Jn w k kd E jv) {kr km : Nat} {DR : Nat → Prop} {dr : DiskV} (FR : RJst w kr km DR jv dr)   :
    Meets Try.prog 17 [.pointer (some ⟨k, 0, none⟩), .pointer (some ⟨kr, 0, none⟩)] w fun r w' => r = .bool true ∧ Gr w w' := by
 obtain ⟨aR, cR, aS, cS, Fr, FrL, Frd⟩ := FR.ex
 have hDR := FR.lt
 have hok := FR.ok
 obtain ⟨hb0, hb1, hll, hdl, hel⟩ := hok
 have HG := V.Fr.refl [] w
 refine V.enter (n := 72) Try.func17 rfl rfl (by decide) rfl ?_
 refine V.seq ?_
 refine V.region ?_
 refine V.run T_ok 1 rfl ?_
 refine V.nil ?_
 refine V.tN ?_
 refine V.seq ?_
 refine V.region ?_
 refine V.run T_ok 1 rfl ?_
 refine V.call (jbase_spec FX) rfl rfl rfl ?_
 rintro _ w4 ⟨a1, c2, rfl, F3, G5⟩
 have z6 := V.Fr.size G5
 try replace Fr := Fr.gr G5
 try replace FrL := FrL.gr G5
 try replace Frd := Frd.gr G5
 try replace FX := FX.gr G5
 replace HG := HG.grow G5
 clear G5
 refine V.run T_ok 5 rfl ?_
 refine V.nil ?_
 refine V.tN ?_
 refine V.seq ?_
 refine V.drawGT 6 (V.sel [(1, (fun v wz => ∃ (ra65 : Option Addr) (rc65 : Nat), v = .slice ra65 jv.l.length rc65 ∧ V.Row V.Cod.byte.sl 22 wz V.None' w4.heap.size wz.heap.size ra65 rc65 jv.l))]) mixed (by kernel_rfl) (V.mono_cons (by rintro v wz wz' g ⟨ra65, rc65, rfl, rF65⟩; exact ⟨ra65, rc65, rfl, (by first | exact (rF65.gr g).mono (V.In.sub (Nat.le_refl _) g.size) | exact rF65.gr g | exact (rF65.gr g).mono (fun _ h => h) (Nat.le_refl _) g.size | exact (rF65.gr g).mono (fun k h => ⟨h.1, Nat.lt_of_lt_of_le h.2 g.size⟩))⟩) V.mono_nil) ?_
 refine V.grun T_ok 1 rfl (V.sel_none rfl) ?_
 refine V.gcall (fun w' h => (jrec_spec (FX.gr h.1)).mono (by rintro v w'' ⟨ra65, rc65, rfl, rF65, G⟩; exact ⟨⟨ra65, rc65, rfl, (by first | exact rF65.mono (V.In.mono_l h.1.size) | exact rF65 | exact rF65.mono (fun _ h => h) h.1.size (Nat.le_refl _))⟩, G⟩)) rfl rfl rfl rfl ?_
 rintro _ w10 - - ⟨a7, c8, rfl, -⟩
 refine V.grun T_ok 3 rfl (V.sel_none rfl) ?_
 refine V.gloadO T_ok (fun w' h => Fr.gr h.1) rfl rfl rfl rfl rfl rfl ?_
 refine V.gnil ?_
 rintro w11 G12 hH13
 have z14 := V.Fr.size G12
 try replace Fr := Fr.gr G12
 try replace FrL := FrL.gr G12
 try replace Frd := Frd.gr G12
 try replace FX := FX.gr G12
 try replace F3 := F3.gr G12
 replace HG := HG.grow G12
 clear G12
 have F9 : V.Row V.Cod.byte.sl 22 w11 V.None' w4.heap.size w11.heap.size a7 c8 jv.l := by
   obtain ⟨_, _, he, F0⟩ := (V.Hist.here (hH13 1))
   cases he
   exact F0
 clear hH13
 refine V.call (rsameL_spec F9.sl FrL) rfl rfl rfl ?_
 rintro _ w11_ ⟨rfl, G16⟩
 have z17 := V.Fr.size G16
 try replace Fr := Fr.gr G16
 try replace FrL := FrL.gr G16
 try replace Frd := Frd.gr G16
 try replace FX := FX.gr G16
 try replace F3 := F3.gr G16
 try replace F9 := F9.gr G16
 replace HG := HG.grow G16
 clear G16
 refine V.run T_ok 1 rfl ?_
 refine V.nil ?_
 refine V.tN ?_
 refine V.seq ?_
 refine V.drawQ mixed (by kernel_rfl) ?_
 refine V.qrun T_ok 2 rfl ?_
 refine V.qsplitT (j := 1) (t := 21) rfl rfl (by first | rfl | simp) ?_
 refine V.qrun T_ok 4 rfl ?_
 refine V.qyes rfl rfl rfl ?_
 refine V.qloadO T_ok Fr rfl rfl rfl rfl rfl ?_
 refine V.qrun T_ok 3 rfl ?_
 refine V.qsplitT (j := 9) (t := 29) rfl rfl (by first | rfl | simp) ?_
 refine V.qrun T_ok 1 rfl ?_
 refine V.qyes rfl rfl rfl ?_
 refine V.qtoStr F3.sl Try.underlying22 Try.underlying5 Try.underlying9 rfl rfl rfl rfl ?_
 refine V.qrun T_ok 3 rfl ?_
 refine V.qyes rfl rfl rfl ?_
 refine V.qloadO T_ok Fr rfl rfl rfl rfl rfl ?_
 refine V.qyes rfl rfl rfl ?_
 refine V.qtoStr Frd Try.underlying22 Try.underlying5 Try.underlying9 rfl rfl rfl rfl ?_
 refine V.qrun T_ok 3 rfl ?_
 refine V.qsplitT (j := 19) (t := 39) rfl rfl (by first | rfl | simp) ?_
 refine V.qrun T_ok 1 rfl ?_
 refine V.qyes rfl rfl rfl ?_
 refine V.qcall V.clo (fun w1 g => (jlast_spec (FX.gr g))) rfl rfl rfl ?_
 refine V.qrun T_ok 3 rfl ?_
 refine V.qyes rfl rfl rfl ?_
 refine V.qloadO T_ok Fr rfl rfl rfl rfl rfl ?_
 refine V.qrun T_ok 3 rfl ?_
 refine V.qyes rfl rfl rfl ?_
 refine V.qloadO T_ok Fr rfl rfl rfl rfl rfl ?_
 refine V.qrun T_ok 1 rfl ?_
 refine V.qyes rfl rfl rfl ?_
 refine V.qaddN rfl rfl rfl rfl rfl (by first | omega | (simp only [List.length_take, List.length_drop, List.length_append, List.length_cons, List.length_nil, List.length_replicate, List.length_set, V.length_data, V.S_size]; omega)) (by first | omega | (simp only [List.length_take, List.length_drop, List.length_append, List.length_cons, List.length_nil, List.length_replicate, List.length_set, V.length_data, V.S_size]; omega)) ?_
 refine V.qrun T_ok 3 rfl ?_
 refine V.qsplitT (j := 34) (t := 54) rfl rfl (by first | rfl | simp) ?_
 refine V.qrun T_ok 1 rfl ?_
 refine V.qyes rfl rfl rfl ?_
 refine V.qcall V.clo (fun w1 g => (jhard_spec (FX.gr g))) rfl rfl rfl ?_
 refine V.qrun T_ok 3 rfl ?_
 refine V.qyes rfl rfl rfl ?_
 refine V.qloadO T_ok Fr rfl rfl rfl rfl rfl ?_
 refine V.qrun T_ok 3 rfl ?_
 refine V.qyes rfl rfl rfl ?_
 refine V.qloadO T_ok Fr rfl rfl rfl rfl rfl ?_
 refine V.qrun T_ok 3 rfl ?_
 refine V.qyes rfl rfl rfl ?_
 refine V.qloadO T_ok Fr rfl rfl rfl rfl rfl ?_
 refine V.qyes rfl rfl rfl ?_
 refine V.qmkStruct T_ok zero47 rfl rfl rfl rfl rfl ?_
 refine V.qyes rfl rfl rfl ?_
 refine V.qstep rfl rfl (fun _ _ => V.eqA_run rfl rfl rfl eqG47 (eqS47 _)) ?_
 refine V.qrun T_ok 2 rfl ?_
 refine V.qnil ?_
 rintro w18 G19
 have z20 := V.Fr.size G19
 try replace Fr := Fr.gr G19
 try replace FrL := FrL.gr G19
 try replace Frd := Frd.gr G19
 try replace FX := FX.gr G19
 try replace F3 := F3.gr G19
 try replace F9 := F9.gr G19
 replace HG := HG.grow G19
 clear G19
 refine V.tN ?_
 refine V.ret ?_
 refine V.done rfl ?_
 exact ⟨(congrArg Value.bool (by first | rfl | simp)), HG⟩

theorem alike7_j {w : World} {k kd : Nat} {EJ : Nat → Prop} {jv : JV} {dv : DiskV} (FJ : Jst w k kd EJ jv dv) {kr km : Nat} {DR : Nat → Prop} {dr : DiskV} (FR : RJst w kr km DR jv dr)   :
    Meets Try.prog 17 [.pointer (some ⟨k, 0, none⟩), .pointer (some ⟨kr, 0, none⟩)] w fun r w' => r = .bool true ∧ Gr w w' := by
  obtain ⟨E, D, FX, -⟩ := FJ.ex
  exact alike7_spec FX FR

end Go.Proofs.Ytnbijpijbhkcpaa
