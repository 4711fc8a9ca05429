/- Proved here: walks: what functions of this seat's program return and what they leave of memory, each as a contract. Conditions: stated at each theorem. -/
import Derived.Test.YtbbfjcobjbopmaaH3
namespace Go.Proofs.Ytbbfjcobjbopmaa
set_option linter.unusedVariables false
set_option linter.unusedSimpArgs false
open Go
open V (Bytes Meets Env Sl Own Gr Fr Cells S)

theorem numB_300 : numB 300 = [172, 2] := by rw [numB_ge (by decide), numB_lt (by decide)]; rfl
theorem textB_hi : textB (ByteArray.mk #[104, 105]).data.toList = [2, 104, 105] := by rw [textB, numB_lt (by decide)]; rfl
theorem live_bytes : ([] ++ numB (300 : Int).toNat) ++ textB (ByteArray.mk #[104, 105]).data.toList = [172, 2, 2, 104, 105] := by
  rw [show (300 : Int).toNat = 300 from rfl, numB_300, textB_hi]; rfl
theorem oneB {w : World} {k t : Nat} (F : Cells w k [.int .u8 0] t) : Bytes w (fun _ => True) (some ⟨k, 0, none⟩) 1 [0] := F.sl (xs := [(0 : UInt8)]) (V.reps_one rfl) trivial (by simp [maxLen])
theorem nilB (w : World) : Bytes w (fun _ => False) none 0 [] := Sl.nil _ _ _ none 0 (by simp [maxLen])

set_option maxHeartbeats 4000000 in
set_option maxRecDepth 10000 in
theorem alive_spec {w : World} :
    Meets Try.prog 19 [] w fun r w' => r = .bool true ∧ Gr w w' := by
  have HG := V.Fr.refl [] w
  refine V.enter (n := 57) Try.func19 rfl rfl (by decide) rfl ?_
  refine V.seq ?_
  refine V.region ?_
  refine V.run T_ok 1 rfl ?_
  refine V.nil ?_
  refine V.tN ?_
  refine V.seq ?_
  refine V.region ?_
  refine V.call (number_spec (bs := []) (nilB w) (fun _ h => h.elim) (by simp) (by decide)) rfl rfl rfl ?_
  rintro _ w1 ⟨a1, c1, rfl, N1, G2⟩
  have z3 := V.Fr.size G2
  replace HG := HG.grow G2
  clear G2
  have F1 := N1.sl
  refine V.call (text_spec F1 (fun j h => by omega) (by simp [numB_300]) (by decide)) rfl rfl rfl ?_
  rintro _ w4 ⟨a2, c2, rfl, N2, G5⟩
  have z6 := V.Fr.size G5
  replace F1 := F1.gr G5
  replace HG := HG.grow G5
  clear G5
  have F2 := N2.sl
  rw [live_bytes] at F2 ⊢
  refine V.run T_ok 1 rfl ?_
  refine V.nil ?_
  refine V.tN ?_
  refine V.seq ?_
  refine V.region ?_
  refine V.run T_ok 1 rfl ?_
  refine V.call (open_spec F2 (fun j h => by omega) (by decide)) rfl rfl rfl ?_
  rintro _ w7 ⟨kr, rfl, hkr, FR, G8⟩
  have z9 := V.Fr.size G8
  replace F1 := F1.gr G8
  replace F2 := F2.gr G8
  replace HG := HG.grow G8
  clear G8
  refine V.run T_ok 1 rfl ?_
  refine V.nil ?_
  refine V.tN ?_
  refine V.seq ?_
  refine V.region ?_
  refine V.run T_ok 1 rfl ?_
  refine V.call (rnumber_spec (most := 1000) FR (by omega)) rfl rfl rfl ?_
  rintro _ w10 ⟨rfl, FR, G11, _⟩
  have z12 := V.Fr.size G11
  replace F1 := F1.mv1 G11 (by first | omega | exact fun h => h | exact ⟨by omega, fun h => h⟩ | (intro h; first | (have := hD _ h; omega)) | (refine ⟨by omega, ?_⟩; intro h; first | (have := hD _ h; omega)))
  replace F2 := F2.mv1 G11 (by first | omega | exact fun h => h | exact ⟨by omega, fun h => h⟩ | (intro h; first | (have := hD _ h; omega)) | (refine ⟨by omega, ?_⟩; intro h; first | (have := hD _ h; omega)))
  replace HG := HG.new1 G11 (by first | (refine Or.inr ?_; omega) | (refine Or.inl ?_; simp; done))
  clear G11
  refine V.run T_ok 5 rfl ?_
  refine V.nil ?_
  refine V.tN ?_
  refine V.seq ?_
  refine V.region ?_
  refine V.run T_ok 1 rfl ?_
  refine V.call (rtext_spec (most := 2) FR (by omega)) rfl rfl rfl ?_
  rintro _ w13 ⟨rfl, FR, G14, _⟩
  have z15 := V.Fr.size G14
  replace F1 := F1.mv1 G14 (by first | omega | exact fun h => h | exact ⟨by omega, fun h => h⟩ | (intro h; first | (have := hD _ h; omega)) | (refine ⟨by omega, ?_⟩; intro h; first | (have := hD _ h; omega)))
  replace F2 := F2.mv1 G14 (by first | omega | exact fun h => h | exact ⟨by omega, fun h => h⟩ | (intro h; first | (have := hD _ h; omega)) | (refine ⟨by omega, ?_⟩; intro h; first | (have := hD _ h; omega)))
  replace HG := HG.new1 G14 (by first | (refine Or.inr ?_; omega) | (refine Or.inl ?_; simp; done))
  clear G14
  refine V.run T_ok 5 rfl ?_
  refine V.nil ?_
  refine V.tN ?_
  refine V.seq ?_
  refine V.region ?_
  refine V.run T_ok 4 rfl ?_
  refine V.splitT (j := 3) (t := 24) rfl rfl (by rfl) ?_
  refine V.run T_ok 1 rfl ?_
  refine V.yes rfl rfl rfl ?_
  refine V.elem T_ok F2 rfl rfl sz5 rfl rfl rfl rfl (by decide) (by decide) ?_
  rintro b o cs hx hb rfl hA
  refine V.yes rfl rfl rfl ?_
  refine V.loadA T_ok (o0 := o) (off := 0) hA rfl rfl rfl rfl rfl ?_
  refine V.run T_ok 3 rfl ?_
  refine V.splitT (j := 9) (t := 30) rfl rfl (by rfl) ?_
  refine V.run T_ok 1 rfl ?_
  refine V.yes rfl rfl rfl ?_
  refine V.elem T_ok F2 rfl rfl sz5 rfl rfl rfl rfl (by decide) (by decide) ?_
  rintro b o cs hx hb rfl hA
  refine V.yes rfl rfl rfl ?_
  refine V.loadA T_ok (o0 := o) (off := 0) hA rfl rfl rfl rfl rfl ?_
  refine V.run T_ok 3 rfl ?_
  refine V.splitT (j := 15) (t := 36) rfl rfl (by rfl) ?_
  refine V.run T_ok 4 rfl ?_
  refine V.splitT (j := 19) (t := 40) rfl rfl (by rfl) ?_
  refine V.run T_ok 4 rfl ?_
  refine V.splitT (j := 23) (t := 44) rfl rfl (by rfl) ?_
  refine V.run T_ok 4 rfl ?_
  refine V.splitT (j := 27) (t := 48) rfl rfl (by rfl) ?_
  refine V.run T_ok 4 rfl ?_
  refine V.splitT (j := 31) (t := 52) rfl rfl (by rfl) ?_
  refine V.run T_ok 1 rfl ?_
  refine V.yes rfl rfl rfl ?_
  refine V.call (rend_spec FR) rfl rfl rfl ?_
  rintro _ w13_ ⟨rfl, rfl⟩
  refine V.run T_ok 3 rfl ?_
  refine V.nil ?_
  refine V.tN ?_
  refine V.ret ?_
  refine V.done rfl ?_
  exact ⟨rfl, HG⟩

set_option maxHeartbeats 4000000 in
set_option maxRecDepth 10000 in
theorem packNil_walk {w : World} {n : Int} :
    Meets Try.prog 12 [.int .i64 n] w fun r w' => r = .bool true ∧ Gr w w' := by
  have HG := V.Fr.refl [] w
  refine V.enter (n := 73) Try.func12 rfl rfl (by decide) rfl ?_
  refine V.seq ?_
  refine V.region ?_
  refine V.run T_ok 1 rfl ?_
  refine V.nil ?_
  refine V.tN ?_
  refine V.seq ?_
  refine V.region ?_
  refine V.run T_ok 1 rfl ?_
  refine V.nil ?_
  refine V.tN ?_
  refine V.seq ?_
  refine V.region ?_
  refine V.run T_ok 2 rfl ?_
  refine V.call (rnumber_nil) rfl rfl rfl ?_
  rintro _ w_ ⟨rfl, rfl⟩
  refine V.run T_ok 5 rfl ?_
  refine V.nil ?_
  refine V.tN ?_
  refine V.seq ?_
  refine V.region ?_
  refine V.run T_ok 1 rfl ?_
  refine V.call (rflag_nil) rfl rfl rfl ?_
  rintro _ w_ ⟨rfl, rfl⟩
  refine V.run T_ok 5 rfl ?_
  refine V.nil ?_
  refine V.tN ?_
  refine V.seq ?_
  refine V.region ?_
  refine V.run T_ok 2 rfl ?_
  refine V.call (rtext_nil) rfl rfl rfl ?_
  rintro _ w_ ⟨rfl, rfl⟩
  refine V.run T_ok 5 rfl ?_
  refine V.nil ?_
  refine V.tN ?_
  refine V.seq ?_
  refine V.region ?_
  refine V.run T_ok 2 rfl ?_
  refine V.call (number_spec (bs := []) (nilB w) (fun _ h => h.elim) (by simp) (by omega)) rfl rfl rfl ?_
  rintro _ w4 ⟨a1, c1, rfl, N1, G5⟩
  have z6 := V.Fr.size G5
  replace HG := HG.grow G5
  clear G5
  have F1 := N1.sl
  rw [show [] ++ numB (min n 0).toNat = [0] by rw [show (min n 0).toNat = 0 by omega, numB_lt (by decide)]; rfl] at F1 ⊢
  refine V.toStr F1 Try.underlying23 Try.underlying5 Try.underlying9 rfl rfl rfl rfl ?_
  refine V.run T_ok 1 rfl ?_
  refine V.nil ?_
  refine V.tN ?_
  refine V.seq ?_
  refine V.region ?_
  refine V.call (alive_spec) rfl rfl rfl ?_
  rintro _ w7 ⟨rfl, G8⟩
  have z9 := V.Fr.size G8
  replace F1 := F1.gr G8
  replace HG := HG.grow G8
  clear G8
  refine V.run T_ok 1 rfl ?_
  refine V.splitT (j := 1) (t := 33) rfl rfl (by rfl) ?_
  refine V.run T_ok 4 rfl ?_
  refine V.splitT (j := 5) (t := 37) rfl rfl (by rfl) ?_
  refine V.run T_ok 4 rfl ?_
  refine V.splitT (j := 9) (t := 41) rfl rfl (by rfl) ?_
  refine V.run T_ok 4 rfl ?_
  refine V.splitT (j := 13) (t := 45) rfl rfl (by rfl) ?_
  refine V.run T_ok 4 rfl ?_
  refine V.splitT (j := 17) (t := 49) rfl rfl (by rfl) ?_
  refine V.run T_ok 4 rfl ?_
  refine V.splitT (j := 21) (t := 53) rfl rfl (by rfl) ?_
  refine V.run T_ok 4 rfl ?_
  refine V.splitT (j := 25) (t := 57) rfl rfl (by rfl) ?_
  refine V.run T_ok 1 rfl ?_
  refine V.yes rfl rfl rfl ?_
  refine V.call (rleft_nil) rfl rfl rfl ?_
  rintro _ w7_ ⟨rfl, rfl⟩
  refine V.run T_ok 3 rfl ?_
  refine V.splitT (j := 30) (t := 62) rfl rfl (by rfl) ?_
  refine V.run T_ok 1 rfl ?_
  refine V.yes rfl rfl rfl ?_
  refine V.call (rend_nil) rfl rfl rfl ?_
  rintro _ w7_ ⟨rfl, rfl⟩
  refine V.run T_ok 3 rfl ?_
  refine V.splitT (j := 35) (t := 67) rfl rfl (by rfl) ?_
  refine V.run T_ok 1 rfl ?_
  refine V.yes rfl rfl rfl ?_
  refine V.mkSlice T_ok zero5 rfl rfl sz5 rfl rfl rfl rfl rfl rfl ?_
  rintro k5 w12 s14 s15 G13 Fk5
  have z16 := V.Fr.size G13
  replace F1 := F1.gr G13
  replace HG := HG.grow G13
  clear G13
  refine V.yes rfl rfl rfl ?_
  refine V.toStr (oneB Fk5) Try.underlying23 Try.underlying5 Try.underlying9 rfl rfl rfl rfl ?_
  refine V.run T_ok 3 rfl ?_
  refine V.nil ?_
  refine V.tN ?_
  refine V.ret ?_
  refine V.done rfl ?_
  exact ⟨rfl, HG⟩

end Go.Proofs.Ytbbfjcobjbopmaa
