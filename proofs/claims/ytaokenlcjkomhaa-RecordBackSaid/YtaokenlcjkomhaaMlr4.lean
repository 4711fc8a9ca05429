/- Proved here: walks: what functions of this seat's program return and what they leave of memory, each as a contract. Conditions: stated at each theorem. -/
import Derived.Test.YtaokenlcjkomhaaMrech
namespace Go.Proofs.Ytaokenlcjkomhaa
set_option linter.unusedVariables false
set_option linter.unusedSimpArgs false
open Go
open V (Bytes Meets Env Sl Own Gr Fr Cells S)
theorem rfN_bad (d : RfV) (m : Int) (h : d.bad = true) : (rfN d m).bad = true := by simp [rfN, h]
theorem rfT_bad (d : RfV) (m : Int) (h : d.bad = true) : (rfT d m).bad = true := by simp [rfT, h]
theorem rfS_badT (d : RfV) (h : d.bad = true) : (rfS d).bad = true := by simp [rfS, h]
theorem rfN_err {d : RfV} {m : Int} (h : (rdN (d.bs.drop d.i) m).1.2 ≠ 0) : (rfN d m).bad = true := by simp [rfN, h]
theorem rfN_fine {d : RfV} {m : Int} (hb : d.bad = false) (h : (rdN (d.bs.drop d.i) m).1.2 = 0) : (rfN d m).bad = false := by simp [rfN, hb, h]
theorem rfT_err {d : RfV} {m : Int} (h : (rdT (d.bs.drop d.i) m).1.2 ≠ 0) : (rfT d m).bad = true := by simp [rfT, h]
theorem rfT_fine {d : RfV} {m : Int} (hb : d.bad = false) (h : (rdT (d.bs.drop d.i) m).1.2 = 0) : (rfT d m).bad = false := by simp [rfT, hb, h]
theorem rfS_err {d : RfV} (h : (rdS (d.bs.drop d.i)).1.2 ≠ 0) : (rfS d).bad = true := by simp [rfS, h]
theorem rfS_fine {d : RfV} (hb : d.bad = false) (h : (rdS (d.bs.drop d.i)).1.2 = 0) : (rfS d).bad = false := by simp [rfS, hb, h]
theorem rfT_next (d : RfV) (m : Int) : (rfT d m).bs.drop (rfT d m).i = (rdT (d.bs.drop d.i) m).2 := by
  rw [rdT_snd]; simp [rfT, List.drop_drop]
theorem rfS_next (d : RfV) : (rfS d).bs.drop (rfS d).i = (rdS (d.bs.drop d.i)).2 := by
  rw [rdS_snd]; simp [rfS, List.drop_drop]
theorem rfWr_bad (n : Nat) (d : RfV) (h : d.bad = true) : (rfWr n d).2.bad = true := by rw [rfWr_stop (.inr h)]; exact h
theorem rfWr_bs : ∀ (n : Nat) (d : RfV), (rfWr n d).2.bs = d.bs
  | 0, _ => rfl
  | n + 1, d => by
    unfold rfWr
    split
    · rfl
    · exact (rfWr_bs n _)
theorem rfWrs_def (d : RfV) : rfWrs d = rfWr (rdN (d.bs.drop d.i) 8).1.1.toNat (rfN d 8) := rfl
theorem rfN_bs (d : RfV) (m : Int) : (rfN d m).bs = d.bs := rfl
theorem rfS_bs (d : RfV) : (rfS d).bs = d.bs := rfl
theorem rf5_bs (d : RfV) : (rf5 d).bs = d.bs :=
  have h1 : (rf1 d).bs = d.bs := rfN_bs d _
  have h2 : (rf2 d).bs = (rf1 d).bs := rfN_bs (rf1 d) _
  have h3 : (rf3 d).bs = (rf2 d).bs := rfN_bs (rf2 d) _
  have h4 : (rf4 d).bs = (rf3 d).bs := rfS_bs (rf3 d)
  have h5 : (rf5 d).bs = (rf4 d).bs := rfS_bs (rf4 d)
  h5.trans (h4.trans (h3.trans (h2.trans h1)))
theorem rfG_bs (d : RfV) : (rfG d).bs = d.bs := by
  have h : (rfWrs (rf5 d)).2.bs = d.bs := (congrArg (fun x : List (ByteArray × Int) × RfV => x.2.bs) (rfWrs_def (rf5 d))).trans ((rfWr_bs _ _).trans ((rfN_bs (rf5 d) 8).trans (rf5_bs d)))
  by_cases hc : recB (rfV d) = true
  · have e : rfG d = (rfWrs (rf5 d)).2 := by rw [rfG, if_pos hc]
    rw [e]; exact h
  · have e : rfG d = ⟨(rfWrs (rf5 d)).2.bs, (rfWrs (rf5 d)).2.i, true⟩ := by rw [rfG, if_neg hc]
    rw [e]; dsimp only; exact h
theorem rfWrs_bad {d : RfV} (h : (rfN d 8).bad = true) : (rfWrs d).2.bad = true := by rw [rfWrs_def]; exact rfWr_bad _ _ h
theorem rfG_bad6 {d : RfV} (h : (rfWrs (rf5 d)).2.bad = true) : (rfG d).bad = true := by
  unfold rfG
  split
  · exact h
  · rfl
theorem rfG_bad5 {d : RfV} (h : (rf5 d).bad = true) : (rfG d).bad = true := rfG_bad6 (rfWrs_bad (rfN_bad _ _ h))
theorem rfG_bad4 {d : RfV} (h : (rf4 d).bad = true) : (rfG d).bad = true := rfG_bad5 (by rw [rf5]; exact rfS_badT _ h)
theorem rfG_bad3 {d : RfV} (h : (rf3 d).bad = true) : (rfG d).bad = true := rfG_bad4 (by rw [rf4]; exact rfS_badT _ h)
theorem rfG_bad2 {d : RfV} (h : (rf2 d).bad = true) : (rfG d).bad = true := rfG_bad3 (by rw [rf3]; exact rfN_bad _ _ h)
theorem rfG_bad1 {d : RfV} (h : (rf1 d).bad = true) : (rfG d).bad = true := rfG_bad2 (by rw [rf2]; exact rfN_bad _ _ h)
theorem wr_rel : ∀ (n : Nat) (d : RfV) (acc : List (ByteArray × Int)), d.bad = false →
    ((rdWr n (d.bs.drop d.i) acc).1 = none → (rfWr n d).2.bad = true) ∧
    (∀ ws, (rdWr n (d.bs.drop d.i) acc).1 = some ws → (rfWr n d).2.bad = false ∧ ws = acc ++ (rfWr n d).1 ∧ (rdWr n (d.bs.drop d.i) acc).2 = (rfWr n d).2.bs.drop (rfWr n d).2.i)
  | 0, d, acc, h => by
    simp only [rdWr, rfWr]
    refine ⟨fun h1 => (by cases h1), fun ws h1 => ?_⟩
    cases h1
    exact ⟨h, by simp, trivial⟩
  | n + 1, d, acc, h => by
    have hne : ¬ d.bad = true := by rw [h]; decide
    have e1 : (rfWr (n + 1) d).2 = (rfWr n (rfN (rfT d 8) 1099511627776)).2 := (rfWr_step h []).2
    have e2 := (rfWr_step (n := n) h acc).1
    by_cases c1 : (rdT (d.bs.drop d.i) 8).1.2 = 0
    · have nx1 := rfT_next d 8
      by_cases c2 : (rdN (rdT (d.bs.drop d.i) 8).2 1099511627776).1.2 = 0
      · have e3 : rdWr (n + 1) (d.bs.drop d.i) acc = rdWr n (rdN (rdT (d.bs.drop d.i) 8).2 1099511627776).2 (acc ++ [(S (rdT (d.bs.drop d.i) 8).1.1, (rdN (rdT (d.bs.drop d.i) 8).2 1099511627776).1.1)]) := by
          simp only [rdWr]; rw [if_pos ⟨c1, c2⟩]
        have nx2 := rfN_next (rfT d 8) 1099511627776
        rw [nx1] at nx2 e2
        have b2 : (rfN (rfT d 8) 1099511627776).bad = false := rfN_fine (rfT_fine h c1) (by rw [nx1]; exact c2)
        have ih := wr_rel n (rfN (rfT d 8) 1099511627776) (acc ++ [(S (rdT (d.bs.drop d.i) 8).1.1, (rdN (rdT (d.bs.drop d.i) 8).2 1099511627776).1.1)]) b2
        rw [nx2] at ih
        rw [e3, e1, e2]
        exact ih
      · have e3 : (rdWr (n + 1) (d.bs.drop d.i) acc).1 = none := by simp only [rdWr]; rw [if_neg (fun h => c2 h.2)]
        refine ⟨fun _ => ?_, fun ws h1 => by rw [e3] at h1; cases h1⟩
        rw [e1]
        exact rfWr_bad _ _ (rfN_err (by rw [nx1]; exact c2))
    · have e3 : (rdWr (n + 1) (d.bs.drop d.i) acc).1 = none := by simp only [rdWr]; rw [if_neg (fun h => c1 h.1)]
      refine ⟨fun _ => ?_, fun ws h1 => by rw [e3] at h1; cases h1⟩
      rw [e1]
      exact rfWr_bad _ _ (rfN_bad _ _ (rfT_err c1))
/-- the program's reader and the reference's -/
theorem rec_rel (d : RfV) (h0 : d.bad = false) : ((rdRec (d.bs.drop d.i)).1 = none → (rfG d).bad = true) ∧
    (∀ v, (rdRec (d.bs.drop d.i)).1 = some v → v = rfV d ∧ (rfG d).bad = false ∧ (rdRec (d.bs.drop d.i)).2 = (rfG d).bs.drop (rfG d).i) := by
  have none_ok : ∀ {x : Option RecV × List UInt8}, x.1 = none → (rfG d).bad = true → (x.1 = none → (rfG d).bad = true) ∧ (∀ v, x.1 = some v → v = rfV d ∧ (rfG d).bad = false ∧ x.2 = (rfG d).bs.drop (rfG d).i) :=
    fun hx hb => ⟨fun _ => hb, fun v hv => by rw [hx] at hv; cases hv⟩
  unfold rdRec
  by_cases c1 : (rdN (d.bs.drop d.i) 1099511627776).1.2 = 0
  case neg => exact none_ok (by rw [nxN, if_neg c1]) (rfG_bad1 (by rw [rf1]; exact rfN_err c1))
  rw [nxN, if_pos c1]
  have b1 : (rf1 d).bad = false := by rw [rf1]; exact rfN_fine h0 c1
  have x1 : (rf1 d).bs.drop (rf1 d).i = (rdN (d.bs.drop d.i) 1099511627776).2 := by rw [rf1]; exact rfN_next d _
  rw [← x1]
  by_cases c2 : (rdN ((rf1 d).bs.drop (rf1 d).i) 1099511627776).1.2 = 0
  case neg => exact none_ok (by rw [nxN, if_neg c2]) (rfG_bad2 (by rw [rf2]; exact rfN_err c2))
  rw [nxN, if_pos c2]
  have b2 : (rf2 d).bad = false := by rw [rf2]; exact rfN_fine b1 c2
  have x2 : (rf2 d).bs.drop (rf2 d).i = (rdN ((rf1 d).bs.drop (rf1 d).i) 1099511627776).2 := by rw [rf2]; exact rfN_next (rf1 d) _
  rw [← x2]
  by_cases c3 : (rdN ((rf2 d).bs.drop (rf2 d).i) 4).1.2 = 0
  case neg => exact none_ok (by rw [nxN, if_neg c3]) (rfG_bad3 (by rw [rf3]; exact rfN_err c3))
  rw [nxN, if_pos c3]
  have b3 : (rf3 d).bad = false := by rw [rf3]; exact rfN_fine b2 c3
  have x3 : (rf3 d).bs.drop (rf3 d).i = (rdN ((rf2 d).bs.drop (rf2 d).i) 4).2 := by rw [rf3]; exact rfN_next (rf2 d) _
  rw [← x3]
  by_cases c4 : (rdS ((rf3 d).bs.drop (rf3 d).i)).1.2 = 0
  case neg => exact none_ok (by rw [nxS, if_neg c4]) (rfG_bad4 (by rw [rf4]; exact rfS_err c4))
  rw [nxS, if_pos c4]
  have b4 : (rf4 d).bad = false := by rw [rf4]; exact rfS_fine b3 c4
  have x4 : (rf4 d).bs.drop (rf4 d).i = (rdS ((rf3 d).bs.drop (rf3 d).i)).2 := by rw [rf4]; exact rfS_next (rf3 d)
  rw [← x4]
  by_cases c5 : (rdS ((rf4 d).bs.drop (rf4 d).i)).1.2 = 0
  case neg => exact none_ok (by rw [nxS, if_neg c5]) (rfG_bad5 (by rw [rf5]; exact rfS_err c5))
  rw [nxS, if_pos c5]
  have b5 : (rf5 d).bad = false := by rw [rf5]; exact rfS_fine b4 c5
  have x5 : (rf5 d).bs.drop (rf5 d).i = (rdS ((rf4 d).bs.drop (rf4 d).i)).2 := by rw [rf5]; exact rfS_next (rf4 d)
  rw [← x5]
  by_cases c6 : (rdN ((rf5 d).bs.drop (rf5 d).i) 8).1.2 = 0
  case neg =>
    exact none_ok (by rw [nxN, if_neg c6]) (rfG_bad6 (rfWrs_bad (rfN_err c6)))
  rw [nxN, if_pos c6]
  have b6 : (rfN (rf5 d) 8).bad = false := rfN_fine b5 c6
  have x6 := rfN_next (rf5 d) 8
  rw [← x6]
  have hw := wr_rel (rdN ((rf5 d).bs.drop (rf5 d).i) 8).1.1.toNat (rfN (rf5 d) 8) [] b6
  have ew : rfWr (rdN ((rf5 d).bs.drop (rf5 d).i) 8).1.1.toNat (rfN (rf5 d) 8) = rfWrs (rf5 d) := (rfWrs_def _).symm
  rw [ew] at hw
  generalize hX : rdWr (rdN ((rf5 d).bs.drop (rf5 d).i) 8).1.1.toNat ((rfN (rf5 d) 8).bs.drop (rfN (rf5 d) 8).i) [] = X at hw ⊢
  obtain ⟨o, r⟩ := X
  cases o with
  | none =>
    exact none_ok rfl (rfG_bad6 (hw.1 rfl))
  | some ws =>
    obtain ⟨h2, h3, h4⟩ := hw.2 ws rfl
    simp only at h4
    rw [List.nil_append] at h3
    have ev : (⟨(rdN (d.bs.drop d.i) 1099511627776).1.1, (rdN ((rf1 d).bs.drop (rf1 d).i) 1099511627776).1.1, (rdN ((rf2 d).bs.drop (rf2 d).i) 4).1.1, (rdS ((rf3 d).bs.drop (rf3 d).i)).1.1.1, (rdS ((rf3 d).bs.drop (rf3 d).i)).1.1.2, (rdS ((rf4 d).bs.drop (rf4 d).i)).1.1.1, (rdS ((rf4 d).bs.drop (rf4 d).i)).1.1.2, ws⟩ : RecV) = rfV d := by rw [h3, rfV]
    unfold rdFin
    simp only [ev]
    by_cases c7 : recB (rfV d) = true
    · rw [if_pos c7]
      have eG : rfG d = (rfWrs (rf5 d)).2 := by rw [rfG, if_pos c7]
      rw [eG]
      refine ⟨fun h => (by cases h), fun v hv => ?_⟩
      cases hv
      exact ⟨rfl, h2, h4⟩
    · rw [if_neg c7]
      refine none_ok rfl ?_
      rw [rfG, if_neg c7]
theorem rdWr_sound : ∀ (n : Nat) (cs : List UInt8) (acc ws : List (ByteArray × Int)), (rdWr n cs acc).1 = some ws →
    ∃ us : List (ByteArray × Int), ws = acc ++ us ∧ us.length = n ∧ cs = wrsB us ++ (rdWr n cs acc).2 ∧ ∀ x ∈ us, x.1.size ≤ 8 ∧ 0 ≤ x.2 ∧ x.2 ≤ 1099511627776
  | 0, cs, acc, ws, h => by
    simp only [rdWr] at h ⊢
    cases h
    exact ⟨[], by simp, rfl, rfl, fun x hx => by cases hx⟩
  | n + 1, cs, acc, ws, h => by
    by_cases c : (rdT cs 8).1.2 = 0 ∧ (rdN (rdT cs 8).2 1099511627776).1.2 = 0
    · have e3 : rdWr (n + 1) cs acc = rdWr n (rdN (rdT cs 8).2 1099511627776).2 (acc ++ [(S (rdT cs 8).1.1, (rdN (rdT cs 8).2 1099511627776).1.1)]) := by
        simp only [rdWr]; rw [if_pos c]
      obtain ⟨c1, c2⟩ := c
      obtain ⟨s, r, f1, f2, f3, f4⟩ := rdT_ok c1
      rw [f4] at c2 e3
      simp only at c2 e3
      obtain ⟨v, r2, g1, g2, g3, g4⟩ := rdN_ok c2
      rw [g4] at e3
      simp only at e3
      rw [e3] at h ⊢
      obtain ⟨us, k1, k2, k3, k4⟩ := rdWr_sound n r2 _ ws h
      refine ⟨(S s, (v : Int)) :: us, by rw [k1]; simp, by simp [k2], ?_, ?_⟩
      · have : wrsB ((S s, (v : Int)) :: us) = textB s ++ numB v ++ wrsB us := rfl
        rw [this, f1, g1, List.append_assoc, List.append_assoc, ← k3]
      · intro x hx
        rcases List.mem_cons.1 hx with rfl | hx
        · exact ⟨by rw [V.S_size]; omega, by simp, g3⟩
        · exact k4 x hx
    · have e3 : (rdWr (n + 1) cs acc).1 = none := by simp only [rdWr]; rw [if_neg c]
      rw [e3] at h; cases h
theorem nxN_some {d : List UInt8} {m : Int} {k : Int → List UInt8 → Option RecV × List UInt8} {v : RecV} (h : (nxN d m k).1 = some v) :
    ∃ (u : Nat) (r : List UInt8), d = numB u ++ r ∧ (u : Int) ≤ m ∧ nxN d m k = k u r := by
  unfold nxN at h ⊢
  by_cases c : (rdN d m).1.2 = 0
  · rw [if_pos c] at h ⊢
    obtain ⟨u, r, h1, _, h3, h4⟩ := rdN_ok c
    exact ⟨u, r, h1, h3, by rw [h4]⟩
  · rw [if_neg c] at h; cases h
theorem nxS_some {d : List UInt8} {k : Int → Int → List UInt8 → Option RecV × List UInt8} {v : RecV} (h : (nxS d k).1 = some v) :
    ∃ (x y : Int) (r : List UInt8), d = stB x y ++ r ∧ stR x y ∧ nxS d k = k x y r := by
  unfold nxS at h ⊢
  by_cases c : (rdS d).1.2 = 0
  · rw [if_pos c] at h ⊢
    obtain ⟨x, y, r, h1, h2, h3⟩ := rdS_ok c
    exact ⟨x, y, r, h1, h2, by rw [h3]⟩
  · rw [if_neg c] at h; cases h
/-- what is read has just these bytes -/
theorem rec_sound {d : List UInt8} {v : RecV} (h : (rdRec d).1 = some v) : d = recBy v ++ (rdRec d).2 ∧ recB v = true ∧ inR64 v ∧ small v.ws := by
  unfold rdRec at h ⊢
  obtain ⟨id, r1, a1, b1, e⟩ := nxN_some h
  rw [e] at h ⊢; clear e
  obtain ⟨ep, r2, a2, b2, e⟩ := nxN_some h
  rw [e] at h ⊢; clear e
  obtain ⟨st, r3, a3, b3, e⟩ := nxN_some h
  rw [e] at h ⊢; clear e
  obtain ⟨aw, al, r4, a4, b4, e⟩ := nxS_some h
  rw [e] at h ⊢; clear e
  obtain ⟨bw, bl, r5, a5, b5, e⟩ := nxS_some h
  rw [e] at h ⊢; clear e
  obtain ⟨n, r6, a6, b6, e⟩ := nxN_some h
  rw [e] at h ⊢; clear e
  generalize hX : rdWr (n : Int).toNat r6 [] = X at h ⊢
  obtain ⟨o, r⟩ := X
  cases o with
  | none => cases h
  | some ws =>
    obtain ⟨us, k1, k2, k3, k4⟩ := rdWr_sound (n : Int).toNat r6 [] ws (by rw [hX])
    rw [hX] at k3
    rw [List.nil_append] at k1
    subst k1
    unfold rdFin at h ⊢
    simp only at h ⊢
    by_cases c : recB ⟨id, ep, st, aw, al, bw, bl, ws⟩ = true
    · rw [if_pos c] at h ⊢
      cases h
      obtain ⟨q1, q2, q3, q4⟩ := b4
      obtain ⟨p1, p2, p3, p4⟩ := b5
      refine ⟨?_, c, ⟨by simp only; omega, by simp only; omega, by simp only; omega, by simp only; omega, by simp only; omega, by simp only; omega, by simp only; omega⟩, ?_, ?_⟩
      · rw [Int.toNat_natCast] at k2
        have : recBy ⟨id, ep, st, aw, al, bw, bl, ws⟩ = numB id ++ (numB ep ++ (numB st ++ (stB aw al ++ (stB bw bl ++ (numB ws.length ++ wrsB ws))))) := rfl
        rw [this, a1, a2, a3, a4, a5, a6, k2, k3]
        simp
      · rw [Int.toNat_natCast] at k2; simp only; omega
      · intro x hx
        have := k4 x hx
        omega
    · rw [if_neg c] at h; cases h
theorem rdWr_back : ∀ (us : List (ByteArray × Int)) (acc : List (ByteArray × Int)) (r : List UInt8), (∀ x ∈ us, x.1.size ≤ 8 ∧ 0 ≤ x.2 ∧ x.2 ≤ 1099511627776) → rdWr us.length (wrsB us ++ r) acc = (some (acc ++ us), r)
  | [], acc, r, _ => by simp [rdWr, wrsB]
  | x :: us, acc, r, h => by
    obtain ⟨h1, h2, h3⟩ := h x (by simp)
    have hs : x.1.data.toList.length ≤ 8 := by rw [V.length_data]; exact h1
    have e : wrsB (x :: us) ++ r = textB x.1.data.toList ++ (numB x.2.toNat ++ (wrsB us ++ r)) := by
      have : wrsB (x :: us) = textB x.1.data.toList ++ numB x.2.toNat ++ wrsB us := rfl
      rw [this]; simp
    have t1 := rdT_text (s := x.1.data.toList) (r := numB x.2.toNat ++ (wrsB us ++ r)) (most := 8) (by omega) (by omega)
    have t2 := rdN_num (v := x.2.toNat) (most := 1099511627776) (by omega) (by omega) (wrsB us ++ r)
    rw [Int.toNat_of_nonneg h2] at t2
    rw [e, List.length_cons]
    simp only [rdWr, t1, t2]
    rw [if_pos ⟨trivial, trivial⟩, rdWr_back us _ r (fun y hy => h y (by simp [hy]))]
    have hS : S x.1.data.toList = x.1 := by
      cases hx : x.1 with
      | mk a => cases a; rfl
    rw [hS]; simp
theorem nxN_num {v : Int} {m : Int} {k : Int → List UInt8 → Option RecV × List UInt8} (h : 0 ≤ v) (h1 : v ≤ 9223372036854775807) (hm : v ≤ m) (r : List UInt8) : nxN (numB v.toNat ++ r) m k = k v r := by
  have t2 := rdN_num (v := v.toNat) (most := m) (by omega) (by omega) r
  rw [Int.toNat_of_nonneg h] at t2
  unfold nxN
  rw [t2]; rfl
theorem nxS_st {x y : Int} {k : Int → Int → List UInt8 → Option RecV × List UInt8} (h : stR x y) (r : List UInt8) : nxS (stB x y ++ r) k = k x y r := by
  unfold nxS
  rw [rdS_stB h]; rfl
theorem wrB_mem {ws : List (ByteArray × Int)} (h : wrB ws = true) : ws.length ≤ 8 ∧ ∀ x ∈ ws, x.1.size ≤ 8 ∧ 0 ≤ x.2 ∧ x.2 ≤ 1099511627776 := by
  simp only [wrB, Bool.and_eq_true, List.all_eq_true, decide_eq_true_eq] at h
  refine ⟨h.2.2, fun x hx => ?_⟩
  have := h.1.1 x hx
  simp only [isKey, Bool.and_eq_true, decide_eq_true_eq] at this
  omega
theorem recB_parts {d : RecV} (h : recB d = true) : (0 ≤ d.id ∧ d.id ≤ 1099511627776) ∧ (0 ≤ d.ep ∧ d.ep ≤ 1099511627776) ∧ (0 ≤ d.st ∧ d.st ≤ 4) ∧ stR d.aw d.al ∧ stR d.bw d.bl ∧ d.ws.length ≤ 8 ∧ ∀ x ∈ d.ws, x.1.size ≤ 8 ∧ 0 ≤ x.2 ∧ x.2 ≤ 1099511627776 := by
  simp only [recB, Bool.and_eq_true, decide_eq_true_eq] at h
  obtain ⟨⟨h1, h2, h3, h4⟩, h5⟩ := h
  refine ⟨h1, h2, ?_, h3, h4, ?_⟩
  · split at h5
    · omega
    · split at h5
      · omega
      · split at h5
        · omega
        · split at h5
          · omega
          · simp at h5
  · have nil : d.ws.length = 0 → d.ws.length ≤ 8 ∧ ∀ x ∈ d.ws, x.1.size ≤ 8 ∧ 0 ≤ x.2 ∧ x.2 ≤ 1099511627776 := fun h => ⟨by omega, fun x hx => by rw [List.length_eq_zero_iff.1 h] at hx; cases hx⟩
    split at h5
    · exact wrB_mem h5
    · split at h5
      · exact nil (by simpa using (of_decide_eq_true h5).2.2.2)
      · split at h5
        · exact nil (by simpa using (of_decide_eq_true h5).2)
        · split at h5
          · exact nil (by simpa using of_decide_eq_true h5)
          · simp at h5
/-- there and back -/
theorem rec_back {d : RecV} (h : recB d = true) (r : List UInt8) : rdRec (recBy d ++ r) = (some d, r) := by
  obtain ⟨h1, h2, h3, h4, h5, h6, h7⟩ := recB_parts h
  have e : recBy d ++ r = numB d.id.toNat ++ (numB d.ep.toNat ++ (numB d.st.toNat ++ (stB d.aw d.al ++ (stB d.bw d.bl ++ (numB (d.ws.length : Int).toNat ++ (wrsB d.ws ++ r)))))) := by
    rw [Int.toNat_natCast]; simp [recBy]
  rw [e]; unfold rdRec
  rw [nxN_num h1.1 (by omega) h1.2, nxN_num h2.1 (by omega) h2.2, nxN_num h3.1 (by omega) (by omega), nxS_st h4, nxS_st h5, nxN_num (by omega) (by omega) (by omega), Int.toNat_natCast, rdWr_back _ _ _ h7, List.nil_append]
  unfold rdFin
  simp only
  rw [if_pos (by cases d; exact h)]
theorem recBy_pos (d : RecV) : 1 ≤ (recBy d).length := by
  have := numB_pos d.id.toNat
  simp only [recBy, List.length_append]; omega
theorem rec_half {d : RecV} (h : recB d = true) : (rdRec ((recBy d).take ((recBy d).length / 2))).1 = none := by
  cases hv : (rdRec ((recBy d).take ((recBy d).length / 2))).1 with
  | none => rfl
  | some v =>
    exfalso
    obtain ⟨e, hr, _, _⟩ := rec_sound hv
    have e2 : recBy d = recBy v ++ ((rdRec ((recBy d).take ((recBy d).length / 2))).2 ++ (recBy d).drop ((recBy d).length / 2)) := by
      conv => lhs; rw [← List.take_append_drop ((recBy d).length / 2) (recBy d), e]
      rw [List.append_assoc]
    have b1 := rec_back h []
    rw [List.append_nil, e2, rec_back hr] at b1
    have b2 := congrArg Prod.snd b1
    simp only [List.append_eq_nil_iff] at b2
    have b3 := congrArg List.length b2.2
    have := recBy_pos d
    rw [List.length_drop, List.length_nil] at b3
    omega


theorem rec_bad (b : List UInt8) : (rfG ⟨b, 0, false⟩).bad = !(rdRec b).1.isSome := by
  have h := rec_rel (⟨b, 0, false⟩ : RfV) rfl
  dsimp only at h
  rw [List.drop_zero] at h
  cases hv : (rdRec b).1 with
  | none => rw [h.1 hv]; rfl
  | some v => rw [(h.2 v hv).2.1]; rfl
theorem rec_none {b : List UInt8} (h : (rfG ⟨b, 0, false⟩).bad = true) : (rdRec b).1 = none := by
  rw [rec_bad] at h
  cases hv : (rdRec b).1 with
  | none => rfl
  | some v => rw [hv] at h; cases h
theorem rec_some {b : List UInt8} (h : (rfG ⟨b, 0, false⟩).bad = false) (hle : (rfG ⟨b, 0, false⟩).i ≤ b.length) :
    (rdRec b).1.getD recZ = rfV ⟨b, 0, false⟩ ∧ (rdRec b).2.length = b.length - (rfG ⟨b, 0, false⟩).i ∧ recBy ((rdRec b).1.getD recZ) = b.take (rfG ⟨b, 0, false⟩).i ∧ inR64 ((rdRec b).1.getD recZ) ∧ small ((rdRec b).1.getD recZ).ws := by
  have hr := rec_rel (⟨b, 0, false⟩ : RfV) rfl
  dsimp only at hr
  rw [List.drop_zero] at hr
  cases hv : (rdRec b).1 with
  | none => rw [hr.1 hv] at h; cases h
  | some v =>
    obtain ⟨e1, _, e2⟩ := hr.2 v hv
    obtain ⟨e3, _, e4, e5⟩ := rec_sound hv
    rw [rfG_bs] at e2
    dsimp only at e2
    have hl : (rdRec b).2.length = b.length - (rfG ⟨b, 0, false⟩).i := by rw [e2, List.length_drop]
    refine ⟨e1, hl, ?_, e4, e5⟩
    show recBy v = _
    have h3 := congrArg List.length e3
    rw [List.length_append] at h3
    have hk : (recBy v).length = (rfG ⟨b, 0, false⟩).i := by omega
    rw [← hk]
    conv => rhs; rw [e3]
    simp

set_option maxHeartbeats 4000000 in
set_option maxRecDepth 10000 in
theorem recordReads_walk {w : World}  {D_b : Nat → Prop} {c_b : Nat} {a_b : Option Addr} {b : List UInt8} (F_b : Sl V.Cod.byte w D_b a_b c_b b) (hD_b : ∀ k, D_b k → k < w.heap.size)  :
    Meets Try.prog 9 [.slice a_b b.length c_b] w fun r w' => r = .bool true ∧ Gr w w' := by
 have HG := V.Fr.refl [] w
 refine V.enter (n := 90) Try.func9 rfl rfl (by decide) rfl ?_
 refine V.seq ?_
 refine V.region ?_
 refine V.run T_ok 1 rfl ?_
 refine V.nil ?_
 refine V.tN ?_
 refine V.seq ?_
 refine V.seq ?_
 refine V.region ?_
 refine V.run T_ok 3 rfl ?_
 refine V.nil ?_
 refine V.tN ?_
 refine V.condT rfl (fun h1 => ?_) (fun h1 => ?_)
 ·
  try replace h1 := V.dec h1
  try simp only [V.mk0, V.mk1, V.mk2, V.mk3] at h1
  refine V.seq ?_
  refine V.region ?_
  refine V.call (alive_spec) rfl rfl rfl ?_
  rintro _ w1 ⟨rfl, G2⟩
  have z3 := V.Fr.size G2
  try replace F_b := F_b.gr G2
  replace HG := HG.grow G2
  clear G2
  refine V.run T_ok 1 rfl ?_
  refine V.nil ?_
  refine V.tN ?_
  refine V.ret ?_
  refine V.tR ?_
  refine V.done rfl ?_
  exact ⟨(congrArg Value.bool (by first | rfl | (apply decide_eq_true; rw [V.S_inj, List.nil_append, hs3, Int.toNat_natCast]))), HG⟩
 ·
  try replace h1 := V.dec h1
  try simp only [V.mk0, V.mk1, V.mk2, V.mk3] at h1
  refine V.skip ?_
  refine V.tN ?_
  refine V.seq ?_
  refine V.region ?_
  refine V.run T_ok 1 rfl ?_
  refine V.call (p_open F_b (fun k hk => by have := hD_b k hk; omega) (by first | omega | (simp only [List.length_take, List.length_drop, List.length_append, List.length_cons, List.length_nil, List.length_replicate, List.length_set, V.length_data, V.S_size]; omega))) rfl rfl rfl ?_
  rintro _ w7 ⟨k4, rfl, ⟨h5l, h5u⟩, F6, G8⟩
  have z9 := V.Fr.size G8
  try replace F_b := F_b.gr G8
  replace HG := HG.grow G8
  clear G8
  refine V.run T_ok 1 rfl ?_
  refine V.nil ?_
  refine V.tN ?_
  refine V.seq ?_
  refine V.region ?_
  refine V.run T_ok 1 rfl ?_
  refine V.call (rp_open F_b (fun k hk => by have := hD_b k hk; omega)) rfl rfl rfl ?_
  rintro _ w13 ⟨k10, rfl, ⟨h11l, h11u⟩, F12, G14⟩
  have z15 := V.Fr.size G14
  try replace F_b := F_b.gr G14
  try replace F6 := F6.gr G14
  replace HG := HG.grow G14
  clear G14
  refine V.run T_ok 1 rfl ?_
  refine V.nil ?_
  refine V.tN ?_
  refine V.seq ?_
  refine V.region ?_
  refine V.run T_ok 1 rfl ?_
  refine V.call (get_spec F6) rfl rfl rfl ?_
  rintro _ w20 ⟨a16, c17, rfl, F18, F19, G21⟩
  have z22 := V.Fr.size G21
  first | replace F_b := F_b.mb G21 hD_b | clear F_b | skip
  first | replace F6 := F6.mv1 G21 (by first | exact ⟨by omega, by assumption⟩ | exact ⟨by omega, fun h => absurd h.1 (by assumption)⟩ | exact ⟨by omega, fun h => absurd h.1.1 (by assumption)⟩ | exact ⟨by omega, fun h => by first | (have h2 := h.1; have h3 := h.2; omega) | (have h2 := h; dsimp only at h2; omega)⟩ | first | omega | exact fun h => h | exact ⟨by omega, fun h => h⟩ | (intro h; first | (have := hD_b _ h; omega)) | (refine ⟨by omega, ?_⟩; intro h; first | (have := hD_b _ h; omega))) | clear F6 | skip
  first | replace F12 := F12.mv1 G21 (by first | exact ⟨by omega, by assumption⟩ | exact ⟨by omega, fun h => absurd h.1 (by assumption)⟩ | exact ⟨by omega, fun h => absurd h.1.1 (by assumption)⟩ | exact ⟨by omega, fun h => by first | (have h2 := h.1; have h3 := h.2; omega) | (have h2 := h; dsimp only at h2; omega)⟩ | first | omega | exact fun h => h | exact ⟨by omega, fun h => h⟩ | (intro h; first | (have := hD_b _ h; omega)) | (refine ⟨by omega, ?_⟩; intro h; first | (have := hD_b _ h; omega))) | clear F12 | skip
  replace HG := HG.n1 G21
  clear G21
  refine V.run T_ok 3 rfl ?_
  refine V.alloc zero27 rfl rfl rfl ?_
  rintro k23 w25 s27 s28 G26 Fk24
  have z29 := V.Fr.size G26
  try replace F_b := F_b.gr G26
  try replace F12 := F12.gr G26
  try replace F18 := F18.gr G26
  try replace F19 := F19.gr G26
  replace HG := HG.grow G26
  clear G26
  try simp only [V.cellsL, V.spliceL] at Fk24
  refine V.storeO Fk24 rfl rfl rfl rfl sz27 rfl rfl rfl rfl ?_
  rintro w30 G31 z33 Fs32
  clear Fk24
  have z34 := V.Fr.size G31
  first | replace F_b := F_b.mb G31 hD_b | clear F_b | skip
  first | replace F12 := F12.mv1 G31 (by first | exact ⟨by omega, by assumption⟩ | exact ⟨by omega, fun h => absurd h.1 (by assumption)⟩ | exact ⟨by omega, fun h => absurd h.1.1 (by assumption)⟩ | exact ⟨by omega, fun h => by first | (have h2 := h.1; have h3 := h.2; omega) | (have h2 := h; dsimp only at h2; omega)⟩ | first | omega | exact fun h => h | exact ⟨by omega, fun h => h⟩ | (intro h; first | (have := hD_b _ h; omega)) | (refine ⟨by omega, ?_⟩; intro h; first | (have := hD_b _ h; omega))) | clear F12 | skip
  first | replace F18 := F18.ma G31 | clear F18 | skip
  first | replace F19 := F19.mv1 G31 (by first | exact ⟨by omega, by assumption⟩ | exact ⟨by omega, fun h => absurd h.1 (by assumption)⟩ | exact ⟨by omega, fun h => absurd h.1.1 (by assumption)⟩ | exact ⟨by omega, fun h => by first | (have h2 := h.1; have h3 := h.2; omega) | (have h2 := h; dsimp only at h2; omega)⟩ | first | omega | exact fun h => h | exact ⟨by omega, fun h => h⟩ | (intro h; first | (have := hD_b _ h; omega)) | (refine ⟨by omega, ?_⟩; intro h; first | (have := hD_b _ h; omega))) | clear F19 | skip
  replace HG := HG.n1 G31
  clear G31
  have Fk24 := Fs32; clear Fs32
  simp only [V.spliceL, V.cellsL] at Fk24
  refine V.run T_ok 1 rfl ?_
  refine V.nil ?_
  refine V.tN ?_
  refine V.seq ?_
  refine V.region ?_
  refine V.run T_ok 1 rfl ?_
  refine V.call (rget_spec F12) rfl rfl rfl ?_
  rintro _ w39 ⟨a35, c36, rfl, F37, F38, G40⟩
  have z41 := V.Fr.size G40
  first | replace F_b := F_b.mb G40 hD_b | clear F_b | skip
  first | replace F12 := F12.mv1 G40 (by first | exact ⟨by omega, by assumption⟩ | exact ⟨by omega, fun h => absurd h.1 (by assumption)⟩ | exact ⟨by omega, fun h => absurd h.1.1 (by assumption)⟩ | exact ⟨by omega, fun h => by first | (have h2 := h.1; have h3 := h.2; omega) | (have h2 := h; dsimp only at h2; omega)⟩ | first | omega | exact fun h => h | exact ⟨by omega, fun h => h⟩ | (intro h; first | (have := hD_b _ h; omega)) | (refine ⟨by omega, ?_⟩; intro h; first | (have := hD_b _ h; omega))) | clear F12 | skip
  first | replace F18 := F18.ma G40 | clear F18 | skip
  first | replace F19 := F19.mv1 G40 (by first | exact ⟨by omega, by assumption⟩ | exact ⟨by omega, fun h => absurd h.1 (by assumption)⟩ | exact ⟨by omega, fun h => absurd h.1.1 (by assumption)⟩ | exact ⟨by omega, fun h => by first | (have h2 := h.1; have h3 := h.2; omega) | (have h2 := h; dsimp only at h2; omega)⟩ | first | omega | exact fun h => h | exact ⟨by omega, fun h => h⟩ | (intro h; first | (have := hD_b _ h; omega)) | (refine ⟨by omega, ?_⟩; intro h; first | (have := hD_b _ h; omega))) | clear F19 | skip
  first | replace Fk24 := Fk24.mv1 G40 (by omega) | clear Fk24 | skip
  replace HG := HG.n1 G40
  clear G40
  refine V.alloc zero27 rfl rfl rfl ?_
  rintro k42 w44 s46 s47 G45 Fk43
  have z48 := V.Fr.size G45
  try replace F_b := F_b.gr G45
  try replace F18 := F18.gr G45
  try replace F19 := F19.gr G45
  try replace Fk24 := Fk24.gr G45
  try replace F37 := F37.gr G45
  try replace F38 := F38.gr G45
  replace HG := HG.grow G45
  clear G45
  try simp only [V.cellsL, V.spliceL] at Fk43
  refine V.storeO Fk43 rfl rfl rfl rfl sz27 rfl rfl rfl rfl ?_
  rintro w49 G50 z52 Fs51
  clear Fk43
  have z53 := V.Fr.size G50
  first | replace F_b := F_b.mb G50 hD_b | clear F_b | skip
  first | replace F18 := F18.ma G50 | clear F18 | skip
  first | replace F19 := F19.mv1 G50 (by first | exact ⟨by omega, by assumption⟩ | exact ⟨by omega, fun h => absurd h.1 (by assumption)⟩ | exact ⟨by omega, fun h => absurd h.1.1 (by assumption)⟩ | exact ⟨by omega, fun h => by first | (have h2 := h.1; have h3 := h.2; omega) | (have h2 := h; dsimp only at h2; omega)⟩ | first | omega | exact fun h => h | exact ⟨by omega, fun h => h⟩ | (intro h; first | (have := hD_b _ h; omega)) | (refine ⟨by omega, ?_⟩; intro h; first | (have := hD_b _ h; omega))) | clear F19 | skip
  first | replace Fk24 := Fk24.mv1 G50 (by omega) | clear Fk24 | skip
  first | replace F37 := F37.ma G50 | clear F37 | skip
  first | replace F38 := F38.mv1 G50 (by first | exact ⟨by omega, by assumption⟩ | exact ⟨by omega, fun h => absurd h.1 (by assumption)⟩ | exact ⟨by omega, fun h => absurd h.1.1 (by assumption)⟩ | exact ⟨by omega, fun h => by first | (have h2 := h.1; have h3 := h.2; omega) | (have h2 := h; dsimp only at h2; omega)⟩ | first | omega | exact fun h => h | exact ⟨by omega, fun h => h⟩ | (intro h; first | (have := hD_b _ h; omega)) | (refine ⟨by omega, ?_⟩; intro h; first | (have := hD_b _ h; omega))) | clear F38 | skip
  replace HG := HG.n1 G50
  clear G50
  have Fk43 := Fs51; clear Fs51
  simp only [V.spliceL, V.cellsL] at Fk43
  refine V.nil ?_
  refine V.tN ?_
  refine V.seq ?_
  refine V.seq ?_
  have hbd := rec_bad b
  have hle := F38.le
  rw [rfG_bs] at hle
  dsimp only at hle
  obtain ⟨a54, c55, F57, F56⟩ := F38.ex
  refine V.region ?_
  refine V.run T_ok 5 rfl ?_
  refine V.loadO T_ok F57 rfl rfl rfl rfl rfl ?_
  refine V.run T_ok 2 rfl ?_
  refine V.splitF (j := 7) (t := 31) rfl rfl (by (rw [hbd]; cases (rdRec b).1.isSome <;> rfl)) ?_
  refine V.run T_ok 3 rfl ?_
  refine V.split (j := 10) (t := 34) rfl rfl (fun g7_10 => ?_) (fun g7_10 => ?_)
  ·
   try replace g7_10 := V.dec g7_10
   try simp only [V.mk0, V.mk1, V.mk2, V.mk3] at g7_10
   refine V.run T_ok 4 rfl ?_
   refine V.nil ?_
   refine V.tN ?_
   refine V.condN rfl (by (cases h : (rdRec b).1.isSome <;> simp_all)) ?_
   refine V.skip ?_
   refine V.tN ?_
   refine V.seq ?_
   refine V.seq ?_
   obtain ⟨a58, c59, F61, F60⟩ := F38.ex
   refine V.region ?_
   refine V.run T_ok 3 rfl ?_
   refine V.loadO T_ok F61 rfl rfl rfl rfl rfl ?_
   refine V.nil ?_
   refine V.tN ?_
   refine V.condT rfl (fun h9 => ?_) (fun h9 => ?_)
   ·
    try replace h9 := V.dec h9
    try simp only [V.mk0, V.mk1, V.mk2, V.mk3] at h9
    have hn := rec_none h9
    refine V.seq ?_
    refine V.region ?_
    refine V.call (alive_spec) rfl rfl rfl ?_
    rintro _ w62 ⟨rfl, G63⟩
    have z64 := V.Fr.size G63
    try replace F_b := F_b.gr G63
    try replace F18 := F18.gr G63
    try replace F19 := F19.gr G63
    try replace Fk24 := Fk24.gr G63
    try replace F37 := F37.gr G63
    try replace F38 := F38.gr G63
    try replace Fk43 := Fk43.gr G63
    try replace F56 := F56.gr G63
    try replace F57 := F57.gr G63
    try replace F60 := F60.gr G63
    try replace F61 := F61.gr G63
    replace HG := HG.grow G63
    clear G63
    refine V.run T_ok 1 rfl ?_
    refine V.yes rfl rfl rfl ?_
    refine V.loadO T_ok Fk24 rfl rfl rfl rfl rfl ?_
    refine V.yes rfl rfl rfl ?_
    refine V.mkStruct T_ok zero27 rfl rfl rfl rfl rfl ?_
    refine V.yes rfl rfl rfl ?_
    refine V.call (rsame_spec (d := ((rdRec b).1.getD recZ)) (x := (⟨0, 0, 0, 0, 0, 0, 0, []⟩ : RecV)) F18 (fun k hk => by have := hk.2; omega) (Sl.nil _ _ V.None' _ _ (Nat.zero_le _)) (fun _ h => h.elim)) rfl rfl rfl ?_
    rintro _ w62_ ⟨rfl, G66⟩
    have z67 := V.Fr.size G66
    try replace F_b := F_b.gr G66
    try replace F18 := F18.gr G66
    try replace F19 := F19.gr G66
    try replace Fk24 := Fk24.gr G66
    try replace F37 := F37.gr G66
    try replace F38 := F38.gr G66
    try replace Fk43 := Fk43.gr G66
    try replace F56 := F56.gr G66
    try replace F57 := F57.gr G66
    try replace F60 := F60.gr G66
    try replace F61 := F61.gr G66
    replace HG := HG.grow G66
    clear G66
    refine V.run T_ok 2 rfl ?_
    refine V.nil ?_
    refine V.tN ?_
    refine V.ret ?_
    refine V.tR ?_
    refine V.done rfl ?_
    exact ⟨congrArg Value.bool (by rw [hn]; exact sameR_self recZ), HG⟩
   ·
    try replace h9 := V.dec h9
    try simp only [V.mk0, V.mk1, V.mk2, V.mk3] at h9
    obtain ⟨hs1, hs2, hs3, hs4, hs5⟩ := rec_some h9 hle
    refine V.skip ?_
    refine V.tN ?_
    refine V.seq ?_
    refine V.region ?_
    refine V.loadO T_ok Fk24 rfl rfl rfl rfl rfl ?_
    refine V.call (rput_spec (d := ((rdRec b).1.getD recZ)) (Sl.nil _ _ V.None' _ _ (Nat.zero_le _)) (fun _ h => h.elim) F18 (fun k hk => by have := hk.2; omega) (by first | omega | (simp only [List.length_append]; omega) | exact Nat.zero_le _) (by assumption) (by assumption)) rfl rfl rfl ?_
    rintro _ w71 ⟨a68, c69, rfl, F70, G72⟩
    have z73 := V.Fr.size G72
    try replace F_b := F_b.gr G72
    try replace F18 := F18.gr G72
    try replace F19 := F19.gr G72
    try replace Fk24 := Fk24.gr G72
    try replace F37 := F37.gr G72
    try replace F38 := F38.gr G72
    try replace Fk43 := Fk43.gr G72
    try replace F56 := F56.gr G72
    try replace F57 := F57.gr G72
    try replace F60 := F60.gr G72
    try replace F61 := F61.gr G72
    replace HG := HG.grow G72
    clear G72
    refine V.run T_ok 1 rfl ?_
    refine V.nil ?_
    refine V.tN ?_
    refine V.seq ?_
    obtain ⟨a74, c75, F77, F76⟩ := F38.ex
    refine V.drawQ mixed (by kernel_rfl) ?_
    refine V.qcall V.clo (fun w1 g => (alive_spec)) rfl rfl rfl ?_
    refine V.qrun T_ok 1 rfl ?_
    refine V.qyes rfl rfl rfl ?_
    refine V.qloadO T_ok Fk24 rfl rfl rfl rfl rfl ?_
    refine V.qyes rfl rfl rfl ?_
    refine V.qloadO T_ok Fk43 rfl rfl rfl rfl rfl ?_
    refine V.qyes rfl rfl rfl ?_
    refine V.qcall V.clo (fun w1 g => (rsame_spec (d := ((rdRec b).1.getD recZ)) (x := (rfV (⟨b, 0, false⟩ : RfV))) (F18.gr g) (fun k hk => by have := Fr.size g; have := hk.2; omega) (F37.gr g) (fun k hk => by have := Fr.size g; have := hk.2; omega))) rfl rfl rfl ?_
    refine V.qrun T_ok 2 rfl ?_
    refine V.qsplitT (j := 6) (t := 57) rfl rfl (by (rw [hs1]; exact sameR_self _)) ?_
    refine V.qrun T_ok 1 rfl ?_
    refine V.qyes rfl rfl rfl ?_
    refine V.qcall V.clo (fun w1 g => V.Meets.gr' (rd_left (F19.gr g))) rfl rfl rfl ?_
    refine V.qrun T_ok 5 rfl ?_
    refine V.qyes rfl rfl rfl ?_
    refine V.qloadO T_ok F77 rfl rfl rfl rfl rfl ?_
    refine V.qyes rfl rfl rfl ?_
    refine V.qsubN rfl rfl rfl rfl rfl (by first | omega | (simp only [List.length_take, List.length_drop, List.length_append, List.length_cons, List.length_nil, List.length_replicate, List.length_set, V.length_data, V.S_size]; omega)) (by first | omega | (simp only [List.length_take, List.length_drop, List.length_append, List.length_cons, List.length_nil, List.length_replicate, List.length_set, V.length_data, V.S_size]; omega)) ?_
    refine V.qrun T_ok 3 rfl ?_
    refine V.qsplitT (j := 18) (t := 69) rfl rfl (by (apply decide_eq_true; omega)) ?_
    refine V.qrun T_ok 5 rfl ?_
    refine V.qyes rfl rfl rfl ?_
    refine V.qloadO T_ok F77 rfl rfl rfl rfl rfl ?_
    refine V.qrun T_ok 3 rfl ?_
    refine V.qsplitT (j := 27) (t := 78) rfl rfl (by (apply decide_eq_true; simp only [List.nil_append]; rw [hs3, List.length_take]; omega)) ?_
    refine V.qrun T_ok 1 rfl ?_
    refine V.qyes rfl rfl rfl ?_
    refine V.qtoStr F70.sl Try.underlying47 Try.underlying5 Try.underlying9 rfl rfl rfl rfl ?_
    refine V.qrun T_ok 4 rfl ?_
    refine V.qyes rfl rfl rfl ?_
    refine V.qloadO T_ok F77 rfl rfl rfl rfl rfl ?_
    refine V.qyes rfl rfl rfl ?_
    refine V.qcutL T_ok F_b rfl rfl sz5 rfl rfl rfl rfl (by first | omega | (simp only [List.length_take, List.length_drop, List.length_append, List.length_cons, List.length_nil, List.length_replicate, List.length_set, V.length_data, V.S_size]; omega)) (by first | omega | (simp only [List.length_take, List.length_drop, List.length_append, List.length_cons, List.length_nil, List.length_replicate, List.length_set, V.length_data, V.S_size]; omega)) (fun a78 F80 => ?_)
    refine V.qyes rfl rfl rfl ?_
    refine V.qtoStr F80 Try.underlying47 Try.underlying5 Try.underlying9 rfl rfl rfl rfl ?_
    refine V.qrun T_ok 3 rfl ?_
    refine V.qnil ?_
    rintro w81 G82
    have z83 := V.Fr.size G82
    try replace F_b := F_b.gr G82
    try replace F18 := F18.gr G82
    try replace F19 := F19.gr G82
    try replace Fk24 := Fk24.gr G82
    try replace F37 := F37.gr G82
    try replace F38 := F38.gr G82
    try replace Fk43 := Fk43.gr G82
    try replace F56 := F56.gr G82
    try replace F57 := F57.gr G82
    try replace F60 := F60.gr G82
    try replace F61 := F61.gr G82
    try replace F70 := F70.gr G82
    try replace F76 := F76.gr G82
    try replace F77 := F77.gr G82
    try replace F80 := F80.gr G82
    replace HG := HG.grow G82
    clear G82
    refine V.tN ?_
    refine V.ret ?_
    refine V.done rfl ?_
    exact ⟨(congrArg Value.bool (by first | rfl | (apply decide_eq_true; rw [V.S_inj, List.nil_append, hs3, Int.toNat_natCast]))), HG⟩
  ·
   try replace g7_10 := V.dec g7_10
   try simp only [V.mk0, V.mk1, V.mk2, V.mk3] at g7_10
   refine V.run T_ok 4 rfl ?_
   refine V.nil ?_
   refine V.tN ?_
   refine V.condN rfl (by (cases h : (rdRec b).1.isSome <;> simp_all)) ?_
   refine V.skip ?_
   refine V.tN ?_
   refine V.seq ?_
   refine V.seq ?_
   obtain ⟨a84, c85, F87, F86⟩ := F38.ex
   refine V.region ?_
   refine V.run T_ok 3 rfl ?_
   refine V.loadO T_ok F87 rfl rfl rfl rfl rfl ?_
   refine V.nil ?_
   refine V.tN ?_
   refine V.condT rfl (fun h9 => ?_) (fun h9 => ?_)
   ·
    try replace h9 := V.dec h9
    try simp only [V.mk0, V.mk1, V.mk2, V.mk3] at h9
    have hn := rec_none h9
    refine V.seq ?_
    refine V.region ?_
    refine V.call (alive_spec) rfl rfl rfl ?_
    rintro _ w88 ⟨rfl, G89⟩
    have z90 := V.Fr.size G89
    try replace F_b := F_b.gr G89
    try replace F18 := F18.gr G89
    try replace F19 := F19.gr G89
    try replace Fk24 := Fk24.gr G89
    try replace F37 := F37.gr G89
    try replace F38 := F38.gr G89
    try replace Fk43 := Fk43.gr G89
    try replace F56 := F56.gr G89
    try replace F57 := F57.gr G89
    try replace F86 := F86.gr G89
    try replace F87 := F87.gr G89
    replace HG := HG.grow G89
    clear G89
    refine V.run T_ok 1 rfl ?_
    refine V.yes rfl rfl rfl ?_
    refine V.loadO T_ok Fk24 rfl rfl rfl rfl rfl ?_
    refine V.yes rfl rfl rfl ?_
    refine V.mkStruct T_ok zero27 rfl rfl rfl rfl rfl ?_
    refine V.yes rfl rfl rfl ?_
    refine V.call (rsame_spec (d := ((rdRec b).1.getD recZ)) (x := (⟨0, 0, 0, 0, 0, 0, 0, []⟩ : RecV)) F18 (fun k hk => by have := hk.2; omega) (Sl.nil _ _ V.None' _ _ (Nat.zero_le _)) (fun _ h => h.elim)) rfl rfl rfl ?_
    rintro _ w88_ ⟨rfl, G92⟩
    have z93 := V.Fr.size G92
    try replace F_b := F_b.gr G92
    try replace F18 := F18.gr G92
    try replace F19 := F19.gr G92
    try replace Fk24 := Fk24.gr G92
    try replace F37 := F37.gr G92
    try replace F38 := F38.gr G92
    try replace Fk43 := Fk43.gr G92
    try replace F56 := F56.gr G92
    try replace F57 := F57.gr G92
    try replace F86 := F86.gr G92
    try replace F87 := F87.gr G92
    replace HG := HG.grow G92
    clear G92
    refine V.run T_ok 2 rfl ?_
    refine V.nil ?_
    refine V.tN ?_
    refine V.ret ?_
    refine V.tR ?_
    refine V.done rfl ?_
    exact ⟨congrArg Value.bool (by rw [hn]; exact sameR_self recZ), HG⟩
   ·
    try replace h9 := V.dec h9
    try simp only [V.mk0, V.mk1, V.mk2, V.mk3] at h9
    obtain ⟨hs1, hs2, hs3, hs4, hs5⟩ := rec_some h9 hle
    refine V.skip ?_
    refine V.tN ?_
    refine V.seq ?_
    refine V.region ?_
    refine V.loadO T_ok Fk24 rfl rfl rfl rfl rfl ?_
    refine V.call (rput_spec (d := ((rdRec b).1.getD recZ)) (Sl.nil _ _ V.None' _ _ (Nat.zero_le _)) (fun _ h => h.elim) F18 (fun k hk => by have := hk.2; omega) (by first | omega | (simp only [List.length_append]; omega) | exact Nat.zero_le _) (by assumption) (by assumption)) rfl rfl rfl ?_
    rintro _ w97 ⟨a94, c95, rfl, F96, G98⟩
    have z99 := V.Fr.size G98
    try replace F_b := F_b.gr G98
    try replace F18 := F18.gr G98
    try replace F19 := F19.gr G98
    try replace Fk24 := Fk24.gr G98
    try replace F37 := F37.gr G98
    try replace F38 := F38.gr G98
    try replace Fk43 := Fk43.gr G98
    try replace F56 := F56.gr G98
    try replace F57 := F57.gr G98
    try replace F86 := F86.gr G98
    try replace F87 := F87.gr G98
    replace HG := HG.grow G98
    clear G98
    refine V.run T_ok 1 rfl ?_
    refine V.nil ?_
    refine V.tN ?_
    refine V.seq ?_
    obtain ⟨a100, c101, F103, F102⟩ := F38.ex
    refine V.drawQ mixed (by kernel_rfl) ?_
    refine V.qcall V.clo (fun w1 g => (alive_spec)) rfl rfl rfl ?_
    refine V.qrun T_ok 1 rfl ?_
    refine V.qyes rfl rfl rfl ?_
    refine V.qloadO T_ok Fk24 rfl rfl rfl rfl rfl ?_
    refine V.qyes rfl rfl rfl ?_
    refine V.qloadO T_ok Fk43 rfl rfl rfl rfl rfl ?_
    refine V.qyes rfl rfl rfl ?_
    refine V.qcall V.clo (fun w1 g => (rsame_spec (d := ((rdRec b).1.getD recZ)) (x := (rfV (⟨b, 0, false⟩ : RfV))) (F18.gr g) (fun k hk => by have := Fr.size g; have := hk.2; omega) (F37.gr g) (fun k hk => by have := Fr.size g; have := hk.2; omega))) rfl rfl rfl ?_
    refine V.qrun T_ok 2 rfl ?_
    refine V.qsplitT (j := 6) (t := 57) rfl rfl (by (rw [hs1]; exact sameR_self _)) ?_
    refine V.qrun T_ok 1 rfl ?_
    refine V.qyes rfl rfl rfl ?_
    refine V.qcall V.clo (fun w1 g => V.Meets.gr' (rd_left (F19.gr g))) rfl rfl rfl ?_
    refine V.qrun T_ok 5 rfl ?_
    refine V.qyes rfl rfl rfl ?_
    refine V.qloadO T_ok F103 rfl rfl rfl rfl rfl ?_
    refine V.qyes rfl rfl rfl ?_
    refine V.qsubN rfl rfl rfl rfl rfl (by first | omega | (simp only [List.length_take, List.length_drop, List.length_append, List.length_cons, List.length_nil, List.length_replicate, List.length_set, V.length_data, V.S_size]; omega)) (by first | omega | (simp only [List.length_take, List.length_drop, List.length_append, List.length_cons, List.length_nil, List.length_replicate, List.length_set, V.length_data, V.S_size]; omega)) ?_
    refine V.qrun T_ok 3 rfl ?_
    refine V.qsplitT (j := 18) (t := 69) rfl rfl (by (apply decide_eq_true; omega)) ?_
    refine V.qrun T_ok 5 rfl ?_
    refine V.qyes rfl rfl rfl ?_
    refine V.qloadO T_ok F103 rfl rfl rfl rfl rfl ?_
    refine V.qrun T_ok 3 rfl ?_
    refine V.qsplitT (j := 27) (t := 78) rfl rfl (by (apply decide_eq_true; simp only [List.nil_append]; rw [hs3, List.length_take]; omega)) ?_
    refine V.qrun T_ok 1 rfl ?_
    refine V.qyes rfl rfl rfl ?_
    refine V.qtoStr F96.sl Try.underlying47 Try.underlying5 Try.underlying9 rfl rfl rfl rfl ?_
    refine V.qrun T_ok 4 rfl ?_
    refine V.qyes rfl rfl rfl ?_
    refine V.qloadO T_ok F103 rfl rfl rfl rfl rfl ?_
    refine V.qyes rfl rfl rfl ?_
    refine V.qcutL T_ok F_b rfl rfl sz5 rfl rfl rfl rfl (by first | omega | (simp only [List.length_take, List.length_drop, List.length_append, List.length_cons, List.length_nil, List.length_replicate, List.length_set, V.length_data, V.S_size]; omega)) (by first | omega | (simp only [List.length_take, List.length_drop, List.length_append, List.length_cons, List.length_nil, List.length_replicate, List.length_set, V.length_data, V.S_size]; omega)) (fun a104 F106 => ?_)
    refine V.qyes rfl rfl rfl ?_
    refine V.qtoStr F106 Try.underlying47 Try.underlying5 Try.underlying9 rfl rfl rfl rfl ?_
    refine V.qrun T_ok 3 rfl ?_
    refine V.qnil ?_
    rintro w107 G108
    have z109 := V.Fr.size G108
    try replace F_b := F_b.gr G108
    try replace F18 := F18.gr G108
    try replace F19 := F19.gr G108
    try replace Fk24 := Fk24.gr G108
    try replace F37 := F37.gr G108
    try replace F38 := F38.gr G108
    try replace Fk43 := Fk43.gr G108
    try replace F56 := F56.gr G108
    try replace F57 := F57.gr G108
    try replace F86 := F86.gr G108
    try replace F87 := F87.gr G108
    try replace F96 := F96.gr G108
    try replace F102 := F102.gr G108
    try replace F103 := F103.gr G108
    try replace F106 := F106.gr G108
    replace HG := HG.grow G108
    clear G108
    refine V.tN ?_
    refine V.ret ?_
    refine V.done rfl ?_
    exact ⟨(congrArg Value.bool (by first | rfl | (apply decide_eq_true; rw [V.S_inj, List.nil_append, hs3, Int.toNat_natCast]))), HG⟩


theorem recB_fit {d : RecV} (h : recB d = true) : inR64 d ∧ small d.ws := by
  obtain ⟨h1, h2, h3, ⟨q1, q2, q3, q4⟩, ⟨p1, p2, p3, p4⟩, h6, h7⟩ := recB_parts h
  refine ⟨⟨by omega, by omega, by omega, by omega, by omega, by omega, by omega⟩, by omega, fun x hx => ?_⟩
  have := h7 x hx
  omega

set_option maxHeartbeats 4000000 in
set_option maxRecDepth 10000 in
theorem recordBack_walk {w : World} {d : RecV} {D_o : Nat → Prop} {c_o : Nat} {a_o : Option Addr} (F_o : Sl V.Cod.write w D_o a_o c_o d.ws) (hD_o : ∀ k, D_o k → k < w.heap.size) {D_b : Nat → Prop} {c_b : Nat} {a_b : Option Addr} {b : List UInt8} (F_b : Sl V.Cod.byte w D_b a_b c_b b) (hD_b : ∀ k, D_b k → k < w.heap.size) (hkr : keysOk d.ws) :
    Meets Try.prog 10 [.agg #[.int .i64 d.id, .int .i64 d.ep, .int .i64 d.st, .int .i64 d.aw, .int .i64 d.al, .int .i64 d.bw, .int .i64 d.bl, .slice a_o d.ws.length c_o], .slice a_b b.length c_b] w fun r w' => r = .bool true ∧ Gr w w' := by
 have HG := V.Fr.refl [] w
 refine V.enter (n := 66) Try.func10 rfl rfl (by decide) rfl ?_
 refine V.seq ?_
 refine V.region ?_
 refine V.box rfl rfl rfl rfl ?_
 rintro k1 w3 s5 s6 G4 Fk2
 have z7 := V.Fr.size G4
 try replace F_o := F_o.gr G4
 try replace F_b := F_b.gr G4
 replace HG := HG.grow G4
 clear G4
 try simp only [V.cellsL, V.spliceL] at Fk2
 refine V.run T_ok 1 rfl ?_
 refine V.nil ?_
 refine V.tN ?_
 refine V.seq ?_
 refine V.region ?_
 refine V.loadO T_ok Fk2 rfl rfl rfl rfl rfl ?_
 refine V.call (fitsR_spec (d := d) F_o (fun k hk => by have := hD_o k hk; omega) (by first | assumption | (unfold keysOk; decide))) rfl rfl rfl ?_
 rintro _ w8 ⟨rfl, G9⟩
 have z10 := V.Fr.size G9
 try replace F_o := F_o.gr G9
 try replace F_b := F_b.gr G9
 try replace Fk2 := Fk2.gr G9
 replace HG := HG.grow G9
 clear G9
 refine V.run T_ok 1 rfl ?_
 refine V.nil ?_
 refine V.tN ?_
 refine V.seq ?_
 refine V.seq ?_
 refine V.region ?_
 refine V.run T_ok 3 rfl ?_
 refine V.orG T_ok 3 2 16 rfl rfl rfl rfl rfl rfl rfl rfl ?_
 refine V.nil ?_
 refine V.tN ?_
 refine V.condT rfl (fun h2 => ?_) (fun h2 => ?_)
 ·
  try replace h2 := V.dec h2
  try simp only [V.mk0, V.mk1, V.mk2, V.mk3] at h2
  refine V.seq ?_
  refine V.region ?_
  refine V.call (alive_spec) rfl rfl rfl ?_
  rintro _ w11 ⟨rfl, G12⟩
  have z13 := V.Fr.size G12
  try replace F_o := F_o.gr G12
  try replace F_b := F_b.gr G12
  try replace Fk2 := Fk2.gr G12
  replace HG := HG.grow G12
  clear G12
  refine V.run T_ok 1 rfl ?_
  refine V.nil ?_
  refine V.tN ?_
  refine V.ret ?_
  refine V.tR ?_
  refine V.done rfl ?_
  exact ⟨(congrArg Value.bool (by first | rfl | (rw [hhf]; rfl))), HG⟩
 ·
  try replace h2 := V.dec h2
  try simp only [V.mk0, V.mk1, V.mk2, V.mk3] at h2
  obtain ⟨hfr, hb3⟩ := h2
  obtain ⟨hlr, hrb⟩ := fitsR_len hfr
  obtain ⟨hin, hsm⟩ := recB_fit hrb
  have hbl := recBy_len hin hsm
  have hbk := rec_back hrb b
  have hhf : (rdRec ((recBy d).take (((recBy d).length : Int) / 2).toNat)).1 = none := by rw [show (((recBy d).length : Int) / 2).toNat = (recBy d).length / 2 by omega]; exact rec_half hrb
  refine V.skip ?_
  refine V.tN ?_
  refine V.seq ?_
  refine V.region ?_
  refine V.loadO T_ok Fk2 rfl rfl rfl rfl rfl ?_
  refine V.call (rput_spec (d := d) (Sl.nil _ _ V.None' _ _ (Nat.zero_le _)) (fun _ h => h.elim) F_o (fun k hk => by have := hD_o k hk; omega) (by first | omega | (simp only [List.length_append]; omega) | exact Nat.zero_le _) (by assumption) (by assumption)) rfl rfl rfl ?_
  rintro _ w17 ⟨a14, c15, rfl, F16, G18⟩
  have z19 := V.Fr.size G18
  try replace F_o := F_o.gr G18
  try replace F_b := F_b.gr G18
  try replace Fk2 := Fk2.gr G18
  replace HG := HG.grow G18
  clear G18
  refine V.run T_ok 1 rfl ?_
  refine V.nil ?_
  refine V.tN ?_
  refine V.seq ?_
  have hr20 : ([]) ++ recBy d = recBy d := List.nil_append _
  rw [hr20] at F16 ⊢
  clear hr20
  refine V.region ?_
  refine V.mkSlice T_ok zero5 rfl rfl sz5 rfl rfl rfl rfl rfl rfl ?_
  rintro k21 w24 s26 s27 G25 Fk22
  have z28 := V.Fr.size G25
  try replace F_o := F_o.gr G25
  try replace F_b := F_b.gr G25
  try replace Fk2 := Fk2.gr G25
  try replace F16 := F16.gr G25
  replace HG := HG.grow G25
  clear G25
  have F23 := V.rowOfB (xs := ([] : List UInt8)) Fk22 rfl rfl
  clear Fk22
  refine V.run T_ok 1 rfl ?_
  refine V.appendR (F23) (V.From.flat V.flat_byte (D' := V.None') (F16.sl.from Try.underlying47)) elT47_47 rfl rfl rfl rfl rfl (by first | omega | (simp only [List.length_take, List.length_drop, List.length_append, List.length_cons, List.length_nil, List.length_replicate, List.length_set, V.length_data, V.S_size]; omega)) (by unfold maxLen; first | omega | (simp only [List.length_take, List.length_drop, List.length_append, List.length_cons, List.length_nil, List.length_replicate, List.length_set, V.length_data, V.S_size]; omega)) (by omega) (by omega) (fun _ h => h.elim) (fun _ h => h.elim) ?_
  rintro a29 c30 w32 G33 s34 F31
  clear F23
  have z35 := Go.RowKit.Below.size G33
  first | replace F_o := V.Sl.bl F_o G33 (by first | exact (fun _ h => by have := h.2; omega) | (intro k h; have := hD_o k h; omega)) | clear F_o | skip
  first | replace F_b := V.Sl.bl F_b G33 (by first | exact (fun _ h => by have := h.2; omega) | (intro k h; have := hD_b k h; omega)) | clear F_b | skip
  first | replace Fk2 := V.Cells.bl Fk2 G33 (by omega) | clear Fk2 | skip
  first | replace F16 := V.Row.bl F16 G33 (by first | exact ⟨fun _ h => h.elim, by omega⟩ | exact ⟨fun _ h => by have := h.2; omega, by omega⟩) | clear F16 | skip
  replace HG := HG.bl (Go.RowKit.Below.mono G33 (by omega))
  clear G33
  rw [List.nil_append] at F31 ⊢
  refine V.run T_ok 1 rfl ?_
  refine V.appendR (F31) (V.From.flat V.flat_byte (D' := V.None') (F_b.from Try.underlying47)) elT47_47 rfl rfl rfl rfl rfl (by first | omega | (simp only [List.length_take, List.length_drop, List.length_append, List.length_cons, List.length_nil, List.length_replicate, List.length_set, V.length_data, V.S_size]; omega)) (by unfold maxLen; first | omega | (simp only [List.length_take, List.length_drop, List.length_append, List.length_cons, List.length_nil, List.length_replicate, List.length_set, V.length_data, V.S_size]; omega)) (by omega) (by omega) (fun _ h => h.elim) (fun _ h => h.elim) ?_
  rintro a36 c37 w39 G40 s41 F38
  clear F31
  have z42 := Go.RowKit.Below.size G40
  first | replace F_o := V.Sl.bl F_o G40 (by first | exact (fun _ h => by have := h.2; omega) | (intro k h; have := hD_o k h; omega)) | clear F_o | skip
  first | replace F_b := V.Sl.bl F_b G40 (by first | exact (fun _ h => by have := h.2; omega) | (intro k h; have := hD_b k h; omega)) | clear F_b | skip
  first | replace Fk2 := V.Cells.bl Fk2 G40 (by omega) | clear Fk2 | skip
  first | replace F16 := V.Row.bl F16 G40 (by first | exact ⟨fun _ h => h.elim, by omega⟩ | exact ⟨fun _ h => by have := h.2; omega, by omega⟩) | clear F16 | skip
  replace HG := HG.bl (Go.RowKit.Below.mono G40 (by omega))
  clear G40
  refine V.call (p_open F38.sl (fun k hk => by have := hk.2; omega) (by first | omega | (simp only [List.length_take, List.length_drop, List.length_append, List.length_cons, List.length_nil, List.length_replicate, List.length_set, V.length_data, V.S_size]; omega))) rfl rfl rfl ?_
  rintro _ w46 ⟨k43, rfl, ⟨h44l, h44u⟩, F45, G47⟩
  have z48 := V.Fr.size G47
  try replace F_o := F_o.gr G47
  try replace F_b := F_b.gr G47
  try replace Fk2 := Fk2.gr G47
  try replace F16 := F16.gr G47
  try replace F38 := F38.gr G47
  replace HG := HG.grow G47
  clear G47
  refine V.run T_ok 1 rfl ?_
  refine V.nil ?_
  refine V.tN ?_
  refine V.seq ?_
  refine V.region ?_
  refine V.run T_ok 1 rfl ?_
  refine V.call (get_spec F45) rfl rfl rfl ?_
  rintro _ w53 ⟨a49, c50, rfl, F51, F52, G54⟩
  have z55 := V.Fr.size G54
  first | replace F_o := F_o.mb G54 hD_o | clear F_o | skip
  first | replace F_b := F_b.mb G54 hD_b | clear F_b | skip
  first | replace Fk2 := Fk2.mv1 G54 (by omega) | clear Fk2 | skip
  first | replace F16 := F16.ma G54 | clear F16 | skip
  first | replace F38 := F38.ma G54 | clear F38 | skip
  first | replace F45 := F45.mv1 G54 (by first | exact ⟨by omega, by assumption⟩ | exact ⟨by omega, fun h => absurd h.1 (by assumption)⟩ | exact ⟨by omega, fun h => absurd h.1.1 (by assumption)⟩ | exact ⟨by omega, fun h => by first | (have h2 := h.1; have h3 := h.2; omega) | (have h2 := h; dsimp only at h2; omega)⟩ | first | omega | exact fun h => h | exact ⟨by omega, fun h => h⟩ | (intro h; first | (have := hD_b _ h; omega)) | (refine ⟨by omega, ?_⟩; intro h; first | (have := hD_b _ h; omega))) | clear F45 | skip
  replace HG := HG.n1 G54
  clear G54
  refine V.run T_ok 3 rfl ?_
  refine V.alloc zero27 rfl rfl rfl ?_
  rintro k56 w58 s60 s61 G59 Fk57
  have z62 := V.Fr.size G59
  try replace F_o := F_o.gr G59
  try replace F_b := F_b.gr G59
  try replace Fk2 := Fk2.gr G59
  try replace F16 := F16.gr G59
  try replace F38 := F38.gr G59
  try replace F51 := F51.gr G59
  try replace F52 := F52.gr G59
  replace HG := HG.grow G59
  clear G59
  try simp only [V.cellsL, V.spliceL] at Fk57
  refine V.storeO Fk57 rfl rfl rfl rfl sz27 rfl rfl rfl rfl ?_
  rintro w63 G64 z66 Fs65
  clear Fk57
  have z67 := V.Fr.size G64
  first | replace F_o := F_o.mb G64 hD_o | clear F_o | skip
  first | replace F_b := F_b.mb G64 hD_b | clear F_b | skip
  first | replace Fk2 := Fk2.mv1 G64 (by omega) | clear Fk2 | skip
  first | replace F16 := F16.ma G64 | clear F16 | skip
  first | replace F38 := F38.ma G64 | clear F38 | skip
  first | replace F51 := F51.ma G64 | clear F51 | skip
  first | replace F52 := F52.mv1 G64 (by first | exact ⟨by omega, by assumption⟩ | exact ⟨by omega, fun h => absurd h.1 (by assumption)⟩ | exact ⟨by omega, fun h => absurd h.1.1 (by assumption)⟩ | exact ⟨by omega, fun h => by first | (have h2 := h.1; have h3 := h.2; omega) | (have h2 := h; dsimp only at h2; omega)⟩ | first | omega | exact fun h => h | exact ⟨by omega, fun h => h⟩ | (intro h; first | (have := hD_b _ h; omega)) | (refine ⟨by omega, ?_⟩; intro h; first | (have := hD_b _ h; omega))) | clear F52 | skip
  replace HG := HG.n1 G64
  clear G64
  have Fk57 := Fs65; clear Fs65
  simp only [V.spliceL, V.cellsL] at Fk57
  refine V.run T_ok 1 rfl ?_
  refine V.nil ?_
  refine V.tN ?_
  refine V.seq ?_
  refine V.region ?_
  refine V.run T_ok 3 rfl ?_
  first | refine V.quoN rfl rfl rfl rfl rfl (by first | omega | (simp only [List.length_take, List.length_drop, List.length_append, List.length_cons, List.length_nil, List.length_replicate, List.length_set, V.length_data, V.S_size]; omega)) (by first | omega | (simp only [List.length_take, List.length_drop, List.length_append, List.length_cons, List.length_nil, List.length_replicate, List.length_set, V.length_data, V.S_size]; omega)) (by first | omega | (simp only [List.length_take, List.length_drop, List.length_append, List.length_cons, List.length_nil, List.length_replicate, List.length_set, V.length_data, V.S_size]; omega)) ?_ | refine V.run T_ok 1 rfl ?_
  refine V.cutL T_ok F16.sl rfl rfl sz5 rfl rfl rfl rfl (by first | omega | (simp only [List.length_take, List.length_drop, List.length_append, List.length_cons, List.length_nil, List.length_replicate, List.length_set, V.length_data, V.S_size]; omega)) (by first | omega | (simp only [List.length_take, List.length_drop, List.length_append, List.length_cons, List.length_nil, List.length_replicate, List.length_set, V.length_data, V.S_size]; omega)) (fun a68 F70 => ?_)
  refine V.call (p_open F70 (fun k hk => by have := hk.2; omega) (by first | omega | (simp only [List.length_take, List.length_drop, List.length_append, List.length_cons, List.length_nil, List.length_replicate, List.length_set, V.length_data, V.S_size]; omega))) rfl rfl rfl ?_
  rintro _ w74 ⟨k71, rfl, ⟨h72l, h72u⟩, F73, G75⟩
  have z76 := V.Fr.size G75
  try replace F_o := F_o.gr G75
  try replace F_b := F_b.gr G75
  try replace Fk2 := Fk2.gr G75
  try replace F16 := F16.gr G75
  try replace F38 := F38.gr G75
  try replace F51 := F51.gr G75
  try replace F52 := F52.gr G75
  try replace Fk57 := Fk57.gr G75
  try replace F70 := F70.gr G75
  replace HG := HG.grow G75
  clear G75
  refine V.call (get_spec F73) rfl rfl rfl ?_
  rintro _ w81 ⟨a77, c78, rfl, F79, F80, G82⟩
  have z83 := V.Fr.size G82
  first | replace F_o := F_o.mb G82 hD_o | clear F_o | skip
  first | replace F_b := F_b.mb G82 hD_b | clear F_b | skip
  first | replace Fk2 := Fk2.mv1 G82 (by omega) | clear Fk2 | skip
  first | replace F16 := F16.ma G82 | clear F16 | skip
  first | replace F38 := F38.ma G82 | clear F38 | skip
  first | replace F51 := F51.ma G82 | clear F51 | skip
  first | replace F52 := F52.mv1 G82 (by first | exact ⟨by omega, by assumption⟩ | exact ⟨by omega, fun h => absurd h.1 (by assumption)⟩ | exact ⟨by omega, fun h => absurd h.1.1 (by assumption)⟩ | exact ⟨by omega, fun h => by first | (have h2 := h.1; have h3 := h.2; omega) | (have h2 := h; dsimp only at h2; omega)⟩ | first | omega | exact fun h => h | exact ⟨by omega, fun h => h⟩ | (intro h; first | (have := hD_b _ h; omega)) | (refine ⟨by omega, ?_⟩; intro h; first | (have := hD_b _ h; omega))) | clear F52 | skip
  first | replace Fk57 := Fk57.mv1 G82 (by omega) | clear Fk57 | skip
  first | replace F70 := F70.ma G82 | clear F70 | skip
  first | replace F73 := F73.mv1 G82 (by first | exact ⟨by omega, by assumption⟩ | exact ⟨by omega, fun h => absurd h.1 (by assumption)⟩ | exact ⟨by omega, fun h => absurd h.1.1 (by assumption)⟩ | exact ⟨by omega, fun h => by first | (have h2 := h.1; have h3 := h.2; omega) | (have h2 := h; dsimp only at h2; omega)⟩ | first | omega | exact fun h => h | exact ⟨by omega, fun h => h⟩ | (intro h; first | (have := hD_b _ h; omega)) | (refine ⟨by omega, ?_⟩; intro h; first | (have := hD_b _ h; omega))) | clear F73 | skip
  replace HG := HG.n1 G82
  clear G82
  refine V.run T_ok 3 rfl ?_
  refine V.alloc zero27 rfl rfl rfl ?_
  rintro k84 w86 s88 s89 G87 Fk85
  have z90 := V.Fr.size G87
  try replace F_o := F_o.gr G87
  try replace F_b := F_b.gr G87
  try replace Fk2 := Fk2.gr G87
  try replace F16 := F16.gr G87
  try replace F38 := F38.gr G87
  try replace F51 := F51.gr G87
  try replace F52 := F52.gr G87
  try replace Fk57 := Fk57.gr G87
  try replace F70 := F70.gr G87
  try replace F79 := F79.gr G87
  try replace F80 := F80.gr G87
  replace HG := HG.grow G87
  clear G87
  try simp only [V.cellsL, V.spliceL] at Fk85
  refine V.storeO Fk85 rfl rfl rfl rfl sz27 rfl rfl rfl rfl ?_
  rintro w91 G92 z94 Fs93
  clear Fk85
  have z95 := V.Fr.size G92
  first | replace F_o := F_o.mb G92 hD_o | clear F_o | skip
  first | replace F_b := F_b.mb G92 hD_b | clear F_b | skip
  first | replace Fk2 := Fk2.mv1 G92 (by omega) | clear Fk2 | skip
  first | replace F16 := F16.ma G92 | clear F16 | skip
  first | replace F38 := F38.ma G92 | clear F38 | skip
  first | replace F51 := F51.ma G92 | clear F51 | skip
  first | replace F52 := F52.mv1 G92 (by first | exact ⟨by omega, by assumption⟩ | exact ⟨by omega, fun h => absurd h.1 (by assumption)⟩ | exact ⟨by omega, fun h => absurd h.1.1 (by assumption)⟩ | exact ⟨by omega, fun h => by first | (have h2 := h.1; have h3 := h.2; omega) | (have h2 := h; dsimp only at h2; omega)⟩ | first | omega | exact fun h => h | exact ⟨by omega, fun h => h⟩ | (intro h; first | (have := hD_b _ h; omega)) | (refine ⟨by omega, ?_⟩; intro h; first | (have := hD_b _ h; omega))) | clear F52 | skip
  first | replace Fk57 := Fk57.mv1 G92 (by omega) | clear Fk57 | skip
  first | replace F70 := F70.ma G92 | clear F70 | skip
  first | replace F79 := F79.ma G92 | clear F79 | skip
  first | replace F80 := F80.mv1 G92 (by first | exact ⟨by omega, by assumption⟩ | exact ⟨by omega, fun h => absurd h.1 (by assumption)⟩ | exact ⟨by omega, fun h => absurd h.1.1 (by assumption)⟩ | exact ⟨by omega, fun h => by first | (have h2 := h.1; have h3 := h.2; omega) | (have h2 := h; dsimp only at h2; omega)⟩ | first | omega | exact fun h => h | exact ⟨by omega, fun h => h⟩ | (intro h; first | (have := hD_b _ h; omega)) | (refine ⟨by omega, ?_⟩; intro h; first | (have := hD_b _ h; omega))) | clear F80 | skip
  replace HG := HG.n1 G92
  clear G92
  have Fk85 := Fs93; clear Fs93
  simp only [V.spliceL, V.cellsL] at Fk85
  refine V.run T_ok 1 rfl ?_
  refine V.nil ?_
  refine V.tN ?_
  refine V.seq ?_
  refine V.region ?_
  refine V.call (alive_spec) rfl rfl rfl ?_
  rintro _ w96 ⟨rfl, G97⟩
  have z98 := V.Fr.size G97
  try replace F_o := F_o.gr G97
  try replace F_b := F_b.gr G97
  try replace Fk2 := Fk2.gr G97
  try replace F16 := F16.gr G97
  try replace F38 := F38.gr G97
  try replace F51 := F51.gr G97
  try replace F52 := F52.gr G97
  try replace Fk57 := Fk57.gr G97
  try replace F70 := F70.gr G97
  try replace F79 := F79.gr G97
  try replace F80 := F80.gr G97
  try replace Fk85 := Fk85.gr G97
  replace HG := HG.grow G97
  clear G97
  refine V.run T_ok 5 rfl ?_
  refine V.splitT (j := 5) (t := 50) rfl rfl (by (rw [hbk]; rfl)) ?_
  refine V.yes rfl rfl rfl ?_
  refine V.loadO T_ok Fk57 rfl rfl rfl rfl rfl ?_
  refine V.yes rfl rfl rfl ?_
  refine V.loadO T_ok Fk2 rfl rfl rfl rfl rfl ?_
  refine V.yes rfl rfl rfl ?_
  refine V.call (same_spec (d := ((rdRec ((recBy d) ++ b)).1.getD recZ)) (x := d) F51 (fun k hk => by have := hk.2; omega) F_o (fun k hk => by have := hD_o k hk; omega)) rfl rfl rfl ?_
  rintro _ w96_ ⟨rfl, G100⟩
  have z101 := V.Fr.size G100
  try replace F_o := F_o.gr G100
  try replace F_b := F_b.gr G100
  try replace Fk2 := Fk2.gr G100
  try replace F16 := F16.gr G100
  try replace F38 := F38.gr G100
  try replace F51 := F51.gr G100
  try replace F52 := F52.gr G100
  try replace Fk57 := Fk57.gr G100
  try replace F70 := F70.gr G100
  try replace F79 := F79.gr G100
  try replace F80 := F80.gr G100
  try replace Fk85 := Fk85.gr G100
  replace HG := HG.grow G100
  clear G100
  refine V.run T_ok 2 rfl ?_
  refine V.splitT (j := 10) (t := 55) rfl rfl (by (rw [hbk]; exact sameR_self d)) ?_
  refine V.run T_ok 1 rfl ?_
  refine V.yes rfl rfl rfl ?_
  refine V.call (rd_left F52) rfl rfl rfl ?_
  rintro _ w99_ ⟨rfl, rfl⟩
  refine V.run T_ok 5 rfl ?_
  refine V.splitT (j := 17) (t := 62) rfl rfl (by (rw [hbk]; simp)) ?_
  refine V.run T_ok 4 rfl ?_
  refine V.nil ?_
  refine V.tN ?_
  refine V.ret ?_
  refine V.done rfl ?_
  exact ⟨(congrArg Value.bool (by first | rfl | (rw [hhf]; rfl))), HG⟩

end Go.Proofs.Ytaokenlcjkomhaa
