/- Proved here: walks: what functions of this seat's program return and what they leave of memory, each as a contract. Conditions: stated at each theorem. -/
import Derived.Test.YtooiimhcfgjbgaaMlmsg
namespace Go.Proofs.Ytooiimhcfgjbgaa
set_option linter.unusedVariables false
set_option linter.unusedSimpArgs false
open Go
open V (Bytes Meets Env Sl Own Gr Fr Cells S)
theorem be4_inv (x y z u : UInt8) : fourI ((beN [x, y, z, u]).toNat : Int) = [x, y, z, u] := by
  have e := of4 (b := [x, y, z, u]) (x := x) (y := y) (z := z) (u := u) (h := by simp) rfl rfl rfl rfl
  rw [show ([x, y, z, u] : List UInt8).take 4 = [x, y, z, u] from rfl] at e
  have hx := x.toNat_lt
  have hy := y.toNat_lt
  have hz := z.toNat_lt
  have hu := u.toNat_lt
  generalize (beN _).toNat = m at e ⊢
  rw [V.wrap_u32 (x := (x.toNat : Int) * 256) (by omega) (by omega), V.wrap_u32 (x := (x.toNat : Int) * 256 + (y.toNat : Int)) (by omega) (by omega),
    V.wrap_u32 (x := ((x.toNat : Int) * 256 + (y.toNat : Int)) * 256) (by omega) (by omega), V.wrap_u32 (x := ((x.toNat : Int) * 256 + (y.toNat : Int)) * 256 + (z.toNat : Int)) (by omega) (by omega),
    V.wrap_u32 (x := (((x.toNat : Int) * 256 + (y.toNat : Int)) * 256 + (z.toNat : Int)) * 256) (by omega) (by omega), V.wrap_u32 (by omega) (by omega)] at e
  have o (v : Nat) (c : UInt8) (h : v % 256 = c.toNat) : UInt8.ofNat v = c := by
    apply UInt8.toNat_inj.1
    rw [UInt8.toNat_ofNat']; exact h
  unfold fourI
  rw [Int.toNat_natCast, o _ x (by omega), o _ y (by omega), o _ z (by omega), o _ u (by omega)]
theorem four_of {l : List UInt8} (h : l.length = 4) : fourI ((beN l).toNat : Int) = l := by
  match l, h with
  | [x, y, z, u], _ => exact be4_inv x y z u
/-- what is whole has the frame -/
theorem whole_inv {b : List UInt8} (h : (wholeB b).2 = 0) : b = frm (wholeB b).1 ∧ (wholeB b).1.length ≤ 65536 := by
  cases hf : firstB b with
  | none => rw [whole_none hf] at h; simp at h
  | some x =>
    by_cases hl : 8 + x.length = b.length
    · rw [whole_some hf hl]
      obtain ⟨h1, h2, h3, h4⟩ := firstB_len hf
      unfold firstB at hf
      split at hf
      · rename_i hc
        cases hf
        have hn := secB_len (b := b) hc.2.2.2.1
        refine ⟨?_, h3⟩
        unfold frm
        rw [hc.2.2.2.2, hn, four_of (l := b.take 4) (by rw [List.length_take]; omega), four_of (l := (b.drop 4).take 4) (by rw [List.length_take, List.length_drop]; omega)]
        have e8 : secB b = b.drop 8 := by
          unfold secB; exact List.take_of_length_le (by rw [List.length_drop]; omega)
        rw [e8]
        have e1 : b.take 8 = b.take 4 ++ (b.drop 4).take 4 := by
          rw [show (8 : Nat) = 4 + 4 from rfl, List.take_add]
        rw [← e1, List.take_append_drop]
      · cases hf
    · rw [whole_long hf hl] at h; simp at h
theorem kR_true {α : Type} {f : α → Bool} {d : List UInt8} {k : RecV → Bool → List UInt8 → α} (h : ∀ q d', f (k q true d') = true) : f (kR true d k) = true := h _ _
theorem kR_inv {α : Type} {f : α → Bool} {b : Bool} {d : List UInt8} {k : RecV → Bool → List UInt8 → α} (h : f (kR b d k) = false) (hm : ∀ q d', f (k q true d') = true) : b = false ∧ ∃ x r, d = recBy x ++ r ∧ kR b d k = k x false r ∧ f (k x false r) = false := by
  unfold kR at h ⊢
  cases b
  · cases hv : (rdRec d).1 with
    | none => rw [hv] at h; simp only [Option.isSome_none, Bool.false_eq_true, ↓reduceIte] at h; rw [show (false || decide (¬ (11 : Int) = 0)) = true from rfl, hm] at h; cases h
    | some v =>
      have hs := (rec_sound hv).1
      rw [hv] at h
      simp only [Option.isSome_some, ↓reduceIte, Option.getD_some] at h ⊢
      exact ⟨trivial, v, (rdRec d).2, hs, by simp, by simpa using h⟩
  · rw [Bool.true_or, hm] at h; cases h
abbrev bdK (x : Bool × List UInt8 × List (ByteArray × ByteArray)) : Bool := x.1
abbrev bdE (x : Bool × List UInt8 × List (Int × List UInt8)) : Bool := x.1
abbrev bdR (x : ResV × Bool × List UInt8) : Bool := x.2.1
abbrev bdM (x : MsgV × Bool × List UInt8) : Bool := x.2.1
theorem kvL_true (n : Nat) (d : List UInt8) (acc : List (ByteArray × ByteArray)) : kvL n true d acc = (true, d, acc) := by cases n <;> rfl
theorem enL_true (n : Nat) (d : List UInt8) (acc : List (Int × List UInt8)) : enL n true d acc = (true, d, acc) := by cases n <;> rfl
theorem kvL_inv : ∀ (n : Nat) (b : Bool) (d : List UInt8) (acc : List (ByteArray × ByteArray)), (kvL n b d acc).1 = false → b = false ∧ ∃ ps r, ps.length = n ∧ d = ps.flatMap kvb ++ r ∧ kvL n b d acc = (false, r, acc ++ ps)
  | 0, b, d, acc, h => by
    have hb : b = false := h
    exact ⟨hb, [], d, rfl, by simp, by simp [kvL, hb]⟩
  | n + 1, b, d, acc, h => by
    cases b
    · have e0 : kvL (n + 1) false d acc = kT false d fun tx b d => kT b d fun sq b d => kvL n b d (acc ++ [(tx, sq)]) := rfl
      rw [e0] at h ⊢
      obtain ⟨-, tx, r1, rfl, e1, h1⟩ := kT_inv (f := bdK) h (fun _ _ => kT_true (f := bdK) fun _ _ => by rw [kvL_true])
      obtain ⟨-, sq, r2, rfl, e2, h2⟩ := kT_inv (f := bdK) h1 (fun _ _ => by rw [kvL_true])
      obtain ⟨-, ps, r, hl, rfl, e3⟩ := kvL_inv n _ _ _ h2
      refine ⟨rfl, (tx, sq) :: ps, r, by simp [hl], by simp [kvb, List.append_assoc], e1.trans (e2.trans (e3.trans ?_))⟩
      simp
    · rw [kvL_true] at h; cases h
theorem enL_inv : ∀ (n : Nat) (b : Bool) (d : List UInt8) (acc : List (Int × List UInt8)), (enL n b d acc).1 = false → b = false ∧ ∃ es r, es.length = n ∧ d = es.flatMap entb ++ r ∧ enL n b d acc = (false, r, acc ++ es)
  | 0, b, d, acc, h => by
    have hb : b = false := h
    exact ⟨hb, [], d, rfl, by simp, by simp [enL, hb]⟩
  | n + 1, b, d, acc, h => by
    cases b
    · have e0 : enL (n + 1) false d acc = kN false d fun t b d => kT b d fun s b d => enL n b d (acc ++ [(t, s.data.toList)]) := rfl
      rw [e0] at h ⊢
      obtain ⟨-, t, r1, -, rfl, e1, h1⟩ := kN_inv (f := bdE) h (fun _ _ => kT_true (f := bdE) fun _ _ => by rw [enL_true])
      obtain ⟨-, s, r2, rfl, e2, h2⟩ := kT_inv (f := bdE) h1 (fun _ _ => by rw [enL_true])
      obtain ⟨-, es, r, hl, rfl, e3⟩ := enL_inv n _ _ _ h2
      refine ⟨rfl, (t, s.data.toList) :: es, r, by simp [hl], by simp [entb, tb, List.append_assoc], e1.trans (e2.trans (e3.trans ?_))⟩
      simp
    · rw [enL_true] at h; cases h
theorem resEnd_true {er aw al : Int} {n : Nat} {d : List UInt8} : bdR (resEnd er aw al (kvL n true d [])) = true := by
  rw [kvL_true]; unfold resEnd
  exact kF_true (f := bdR) fun _ _ => kN_true (f := bdR) fun _ _ => kN_true (f := bdR) fun _ _ => kT_true (f := bdR) fun _ _ => kS_true (f := bdR) fun _ _ _ => kR_true (f := bdR) fun _ _ => rfl
/-- what a result is read from has its bytes -/
theorem resL_inv {b : Bool} {d : List UInt8} (h : bdR (resL b d) = false) : b = false ∧ ∃ x r, d = resBy x ++ r ∧ resL b d = (x, false, r) := by
  have h0 := h
  unfold resL at h0
  obtain ⟨hb, er, r1, -, rfl, e1, h1⟩ := kN_inv (f := bdR) h0 (fun _ _ => kS_true (f := bdR) fun _ _ _ => kN_true (f := bdR) fun _ _ => resEnd_true)
  obtain ⟨-, aw, al, r2, rfl, e2, h2⟩ := kS_inv (f := bdR) h1 (fun _ _ _ => kN_true (f := bdR) fun _ _ => resEnd_true)
  obtain ⟨-, n, r3, hn, rfl, e3, h3⟩ := kN_inv (f := bdR) h2 (fun _ _ => resEnd_true)
  have h3' := h3
  unfold resEnd at h3'
  obtain ⟨hk, fo, r4, e4', e4, h4⟩ := kF_inv (f := bdR) h3' (fun _ _ => kN_true (f := bdR) fun _ _ => kN_true (f := bdR) fun _ _ => kT_true (f := bdR) fun _ _ => kS_true (f := bdR) fun _ _ _ => kR_true (f := bdR) fun _ _ => rfl)
  obtain ⟨-, ps, r9, hl, rfl, e9⟩ := kvL_inv _ _ _ _ hk
  rw [e9] at e4'
  dsimp only at e4'
  subst e4'
  obtain ⟨-, ti, r5, -, rfl, e5, h5⟩ := kN_inv (f := bdR) h4 (fun _ _ => kN_true (f := bdR) fun _ _ => kT_true (f := bdR) fun _ _ => kS_true (f := bdR) fun _ _ _ => kR_true (f := bdR) fun _ _ => rfl)
  obtain ⟨-, te, r6, -, rfl, e6, h6⟩ := kN_inv (f := bdR) h5 (fun _ _ => kT_true (f := bdR) fun _ _ => kS_true (f := bdR) fun _ _ _ => kR_true (f := bdR) fun _ _ => rfl)
  obtain ⟨-, an, r7, rfl, e7, h7⟩ := kT_inv (f := bdR) h6 (fun _ _ => kS_true (f := bdR) fun _ _ _ => kR_true (f := bdR) fun _ _ => rfl)
  obtain ⟨-, sw, sl, r8, rfl, e8, h8⟩ := kS_inv (f := bdR) h7 (fun _ _ _ => kR_true (f := bdR) fun _ _ => rfl)
  obtain ⟨-, rc, r10, rfl, e10, -⟩ := kR_inv (f := bdR) h8 (fun _ _ => rfl)
  refine ⟨hb, ⟨er, aw, al, ps, fo, ti, te, an, sw, sl, rc⟩, r10, ?_, ?_⟩
  · rw [res_eq]; dsimp only; rw [show (ps.length : Int) = n by omega]
  · subst hb
    exact e1.trans (e2.trans (e3.trans (e4.trans (e5.trans (e6.trans (e7.trans (e8.trans (e10.trans (by rw [e9]; simp)))))))))
theorem ents_true (d : List UInt8) : (ents true d).1 = true := kN_true (f := bdE) fun _ _ => by rw [enL_true]
theorem ents_inv {b : Bool} {d : List UInt8} (h : (ents b d).1 = false) : b = false ∧ ∃ es r, d = nb es.length ++ (es.flatMap entb ++ r) ∧ ents b d = (false, r, es) := by
  have h0 : bdE (ents b d) = false := h
  unfold ents at h0
  obtain ⟨hb, n, r1, hn, rfl, e1, h1⟩ := kN_inv (f := bdE) h0 (fun _ _ => by rw [enL_true])
  obtain ⟨-, es, r, hl, rfl, e2⟩ := enL_inv _ _ _ _ h1
  refine ⟨hb, es, r, by rw [show (es.length : Int) = n by omega], ?_⟩
  subst hb
  exact e1.trans (e2.trans (by simp))
theorem kE_true {α : Type} {f : α → Bool} {d : List UInt8} {k : List (Int × List UInt8) → Bool → List UInt8 → α} (h : ∀ q d', f (k q true d') = true) : f (kE true d k) = true := by
  unfold kE; rw [ents_true]; exact h _ _
theorem kE_inv {α : Type} {f : α → Bool} {b : Bool} {d : List UInt8} {k : List (Int × List UInt8) → Bool → List UInt8 → α} (h : f (kE b d k) = false) (hm : ∀ q d', f (k q true d') = true) : b = false ∧ ∃ es r, d = nb es.length ++ (es.flatMap entb ++ r) ∧ kE b d k = k es false r ∧ f (k es false r) = false := by
  unfold kE at h ⊢
  cases he : (ents b d).1 with
  | true => rw [he, hm] at h; cases h
  | false =>
    obtain ⟨h1, es, r, h2, h3⟩ := ents_inv he
    rw [h3] at h ⊢
    exact ⟨h1, es, r, h2, rfl, h⟩
def swM (kd fr to rg te ix lt co : Int) (ok : Bool) (es : List (Int × List UInt8)) (da : ByteArray) (nw nl : Int) (b : Bool) (d : List UInt8) : MsgV × Bool × List UInt8 :=
  if kd = 6 then kT b d fun s b d => kC s b d fun c b d => (⟨kd, fr, to, rg, te, ix, lt, co, ok, es, da.data.toList, nw, nl, c, resZ⟩, b, d)
  else if kd = 7 then kX b d fun r b d => (⟨kd, fr, to, rg, te, ix, lt, co, ok, es, da.data.toList, nw, nl, cmdZ, r⟩, b, d)
  else (⟨kd, fr, to, rg, te, ix, lt, co, ok, es, da.data.toList, nw, nl, cmdZ, resZ⟩, b, d)
theorem resL_true (d : List UInt8) : (resL true d).2.1 = true := kN_true (f := bdR) fun _ _ => kS_true (f := bdR) fun _ _ _ => kN_true (f := bdR) fun _ _ => resEnd_true
theorem sw_true {kd fr to rg te ix lt co : Int} {ok : Bool} {es : List (Int × List UInt8)} {da : ByteArray} {nw nl : Int} {d : List UInt8} : bdM (swM kd fr to rg te ix lt co ok es da nw nl true d) = true := by
  unfold swM
  split
  · rfl
  · split
    · unfold kX; exact resL_true d
    · rfl
/-- what a message is read from has its bytes -/
theorem dec_invM {d : List UInt8} (h : bdM (decAllM d) = false) : ∃ m r, d = bodyM m ++ r ∧ decAllM d = (m, false, r) := by
  have h0 := h
  unfold decAllM at h0
  obtain ⟨-, kd, r1, -, rfl, e1, h1⟩ := kN_inv (f := bdM) h0 (by intros; repeat (first | (with_reducible (first | refine kN_true fun _ _ => ?_ | refine kT_true fun _ _ => ?_ | refine kS_true fun _ _ _ => ?_ | refine kF_true fun _ _ => ?_ | refine kE_true fun _ _ => ?_)) | exact sw_true))
  obtain ⟨-, fr, r2, -, rfl, e2, h2⟩ := kN_inv (f := bdM) h1 (by intros; repeat (first | (with_reducible (first | refine kN_true fun _ _ => ?_ | refine kT_true fun _ _ => ?_ | refine kS_true fun _ _ _ => ?_ | refine kF_true fun _ _ => ?_ | refine kE_true fun _ _ => ?_)) | exact sw_true))
  obtain ⟨-, to, r3, -, rfl, e3, h3⟩ := kN_inv (f := bdM) h2 (by intros; repeat (first | (with_reducible (first | refine kN_true fun _ _ => ?_ | refine kT_true fun _ _ => ?_ | refine kS_true fun _ _ _ => ?_ | refine kF_true fun _ _ => ?_ | refine kE_true fun _ _ => ?_)) | exact sw_true))
  obtain ⟨-, rg, r4, -, rfl, e4, h4⟩ := kN_inv (f := bdM) h3 (by intros; repeat (first | (with_reducible (first | refine kN_true fun _ _ => ?_ | refine kT_true fun _ _ => ?_ | refine kS_true fun _ _ _ => ?_ | refine kF_true fun _ _ => ?_ | refine kE_true fun _ _ => ?_)) | exact sw_true))
  obtain ⟨-, te, r5, -, rfl, e5, h5⟩ := kN_inv (f := bdM) h4 (by intros; repeat (first | (with_reducible (first | refine kN_true fun _ _ => ?_ | refine kT_true fun _ _ => ?_ | refine kS_true fun _ _ _ => ?_ | refine kF_true fun _ _ => ?_ | refine kE_true fun _ _ => ?_)) | exact sw_true))
  obtain ⟨-, ix, r6, -, rfl, e6, h6⟩ := kN_inv (f := bdM) h5 (by intros; repeat (first | (with_reducible (first | refine kN_true fun _ _ => ?_ | refine kT_true fun _ _ => ?_ | refine kS_true fun _ _ _ => ?_ | refine kF_true fun _ _ => ?_ | refine kE_true fun _ _ => ?_)) | exact sw_true))
  obtain ⟨-, lt, r7, -, rfl, e7, h7⟩ := kN_inv (f := bdM) h6 (by intros; repeat (first | (with_reducible (first | refine kN_true fun _ _ => ?_ | refine kT_true fun _ _ => ?_ | refine kS_true fun _ _ _ => ?_ | refine kF_true fun _ _ => ?_ | refine kE_true fun _ _ => ?_)) | exact sw_true))
  obtain ⟨-, co, r8, -, rfl, e8, h8⟩ := kN_inv (f := bdM) h7 (by intros; repeat (first | (with_reducible (first | refine kN_true fun _ _ => ?_ | refine kT_true fun _ _ => ?_ | refine kS_true fun _ _ _ => ?_ | refine kF_true fun _ _ => ?_ | refine kE_true fun _ _ => ?_)) | exact sw_true))
  obtain ⟨-, ok, r9, rfl, e9, h9⟩ := kF_inv (f := bdM) h8 (by intros; repeat (first | (with_reducible (first | refine kN_true fun _ _ => ?_ | refine kT_true fun _ _ => ?_ | refine kS_true fun _ _ _ => ?_ | refine kF_true fun _ _ => ?_ | refine kE_true fun _ _ => ?_)) | exact sw_true))
  obtain ⟨-, es, r10, rfl, e10, h10⟩ := kE_inv (f := bdM) h9 (by intros; repeat (first | (with_reducible (first | refine kN_true fun _ _ => ?_ | refine kT_true fun _ _ => ?_ | refine kS_true fun _ _ _ => ?_ | refine kF_true fun _ _ => ?_ | refine kE_true fun _ _ => ?_)) | exact sw_true))
  obtain ⟨-, da, r11, rfl, e11, h11⟩ := kT_inv (f := bdM) h10 (by intros; repeat (first | (with_reducible (first | refine kN_true fun _ _ => ?_ | refine kT_true fun _ _ => ?_ | refine kS_true fun _ _ _ => ?_ | refine kF_true fun _ _ => ?_ | refine kE_true fun _ _ => ?_)) | exact sw_true))
  obtain ⟨-, nw, nl, r12, rfl, e12, h12⟩ := kS_inv (f := bdM) h11 (fun _ _ _ => sw_true)
  have e : decAllM (nb kd ++ (nb fr ++ (nb to ++ (nb rg ++ (nb te ++ (nb ix ++ (nb lt ++ (nb co ++ (flagB ok ++ (nb es.length ++ (es.flatMap entb ++ (tb da ++ (stB nw nl ++ r12))))))))))))) = swM kd fr to rg te ix lt co ok es da nw nl false r12 :=
    e1.trans (e2.trans (e3.trans (e4.trans (e5.trans (e6.trans (e7.trans (e8.trans (e9.trans (e10.trans (e11.trans e12))))))))))
  have h12' : bdM (swM kd fr to rg te ix lt co ok es da nw nl false r12) = false := h12
  have M (c : CmdV) (x : ResV) (r : List UInt8) := mp4_eq ⟨kd, fr, to, rg, te, ix, lt, co, ok, es, da.data.toList, nw, nl, c, x⟩ r
  unfold swM at h12' e
  by_cases k6 : kd = 6
  · rw [if_pos k6] at h12' e
    obtain ⟨-, s, r13, rfl, e13, h13⟩ := kT_inv (f := bdM) h12' (fun _ _ => rfl)
    unfold kC at e13 h13
    cases hd : decC s.data.toList with
    | none => rw [hd] at h13; cases h13
    | some c =>
      obtain ⟨hc, he⟩ := decC_some hd
      rw [hd] at e13
      refine ⟨⟨kd, fr, to, rg, te, ix, lt, co, ok, es, da.data.toList, nw, nl, c, resZ⟩, r13, ?_, e.trans (e13.trans rfl)⟩
      unfold bodyM
      rw [if_pos k6, List.append_assoc, M c resZ, ← he]; rfl
  · rw [if_neg k6] at h12' e
    by_cases k7 : kd = 7
    · rw [if_pos k7] at h12' e
      unfold kX at h12' e
      obtain ⟨-, x, r13, hx, e13⟩ := resL_inv (b := false) (d := r12) h12'
      rw [e13] at e
      refine ⟨_, r13, ?_, e⟩
      unfold bodyM
      rw [if_neg k6, if_pos k7, List.append_assoc, M cmdZ x, ← hx]; rfl
    · rw [if_neg k7] at e
      refine ⟨_, r12, ?_, e⟩
      unfold bodyM
      rw [if_neg k6, if_neg k7, M cmdZ resZ]; rfl
theorem decM_inv {b : List UInt8} {m : MsgV} (h : decMsg b = some m) : msgB m = true ∧ encE m = 0 ∧ encM m = b := by
  unfold decMsg at h
  split at h
  · rename_i hc
    obtain ⟨h1, h2, h3, h4⟩ := hc
    cases h
    obtain ⟨hb, hl⟩ := whole_inv h1
    obtain ⟨m, r, e1, e2⟩ := dec_invM (d := (wholeB b).1) h2
    rw [e2] at h3 h4 ⊢
    dsimp only at h3 h4 ⊢
    subst h3
    rw [List.append_nil] at e1
    have hp := (msg_len (msg_small h4)).2.2.2.2
    rw [e1] at hb hl
    refine ⟨h4, if_pos ⟨h4, hl⟩, ?_⟩
    unfold encM
    rw [if_pos ⟨h4, hl⟩, frmB_ok hp hl]; exact hb.symm
  · cases h
theorem decM_none {b : List UInt8} (h : ¬ (wholeB b).2 = 0) : decMsg b = none := decM_no1 h
theorem decM_cut {m : MsgV} {n : Nat} (h : encE m = 0) (hn : n < (encM m).length) : decMsg ((encM m).take n) = none := by
  obtain ⟨h1, h2, h3, h4⟩ := encM_ok h
  rw [h3] at hn ⊢
  rw [frm_len] at hn
  exact decM_none (by rw [whole_none (first_cut h2 hn)]; decide)
theorem decM_more {m : MsgV} {x : UInt8} (h : encE m = 0) : decMsg (encM m ++ [x]) = none := by
  obtain ⟨h1, h2, h3, h4⟩ := encM_ok h
  rw [h3]
  exact decM_none (by rw [whole_long (first_frm h4 h2) (by rw [List.length_append, frm_len]; simp; omega)]; decide)
theorem decM_flip {m : MsgV} {k : Nat} (h : encE m = 0) (hk : k < 8 * (encM m).length - 64) : decMsg (flip1 (encM m) (64 + k)) = none := by
  obtain ⟨h1, h2, h3, h4⟩ := encM_ok h
  rw [h3] at hk ⊢
  rw [frm_len] at hk
  have := first_flip (b := bodyM m) (t := []) h2 (k := k) (by omega)
  rw [List.append_nil] at this
  exact decM_none (by rw [whole_none this]; decide)

theorem flip_byte (x : UInt8) (k : Nat) : Go.bits .xor .u8 (x.toNat : Int) (IntKind.u8.wrap (1 * 2 ^ min ((k % 8 : Nat) : Int).toNat IntKind.u8.bits)) = ((x ^^^ UInt8.ofNat (2 ^ (k % 8))).toNat : Int) := by
  have e1 : min ((k % 8 : Nat) : Int).toNat IntKind.u8.bits = k % 8 := by simp [IntKind.bits]; omega
  have h7 : k % 8 < 8 := Nat.mod_lt _ (by decide)
  have e2 : IntKind.u8.wrap (1 * 2 ^ (k % 8)) = ((UInt8.ofNat (2 ^ (k % 8))).toNat : Int) := by
    generalize k % 8 = q at h7
    match q, h7 with
    | 0, _ => rfl
    | 1, _ => rfl
    | 2, _ => rfl
    | 3, _ => rfl
    | 4, _ => rfl
    | 5, _ => rfl
    | 6, _ => rfl
    | 7, _ => rfl
  rw [e1, e2, V.xor8]
theorem flip_set {L : List UInt8} {j k : Nat} {x : UInt8} (hj : j = k / 8) (hlt : j < L.length) (hx : L[j] = x) : L.set j (x ^^^ UInt8.ofNat (2 ^ (k % 8))) = flip1 L k := by
  subst hj
  rw [flip1, List.getD_eq_getElem?_getD, List.getElem?_eq_getElem hlt, Option.getD_some, hx]


def smE (l : List (Int × List UInt8)) : Nat := (l.map (fun x => x.2.length)).sum
structure SmD (m : MsgV) : Prop where
  da : m.da.length ≤ 32768
  es : m.es.length ≤ 8
  ew : ∀ x ∈ m.es, x.2.length ≤ 32768
theorem smD_of {m : MsgV} (h : msgB m = true) : SmD m := by
  have hs := msg_small h
  exact ⟨hs.dl, hs.el, fun x hx => (hs.ew x hx).2⟩
theorem smE_le : ∀ {l : List (Int × List UInt8)}, (∀ x ∈ l, x.2.length ≤ 32768) → smE l ≤ 32768 * l.length
  | [], _ => by simp [smE]
  | x :: l, h => by
    have h1 := h x (by simp)
    have h2 := smE_le (l := l) (fun y hy => h y (by simp [hy]))
    unfold smE at h2 ⊢
    rw [List.map_cons, List.sum_cons, List.length_cons]; omega
theorem smE_succ {l : List (Int × List UInt8)} {i : Nat} {x : Int × List UInt8} (hi : i < l.length) (hx : l[i] = x) : smE (l.take i) + x.2.length = smE (l.take (i + 1)) := by
  subst hx; unfold smE; rw [List.take_succ_eq_append_getElem hi, List.map_append, List.sum_append]; simp
theorem fits_step {m : MsgV} {nn : Int} {i : Nat} {x : Int × List UInt8} (h : SmD m → nn = ((m.da.length + smE (m.es.take i) : Nat) : Int)) (hi : i < m.es.length) (hx : m.es[i] = x) : SmD m → Go.IntKind.wrap .i64 (nn + (x.2.length : Int)) = ((m.da.length + smE (m.es.take (i + 1)) : Nat) : Int) := by
  intro hs
  have h1 := h hs
  have h2 := smE_succ hi hx
  have h3 := smE_le (l := m.es.take (i + 1)) (fun y hy => hs.ew y (List.mem_of_mem_take hy))
  have h4 := hs.da
  have h5 := hs.es
  rw [List.length_take] at h3
  rw [V.wrap_in (x := nn + (x.2.length : Int)) (by omega) (by omega)]; omega
theorem ents_len : ∀ {l : List (Int × List UInt8)}, (∀ x ∈ l, x.1 ≤ 1099511627776 ∧ x.2.length ≤ 32768) → (l.flatMap entb).length ≤ 18 * l.length + smE l
  | [], _ => by simp [smE]
  | x :: l, h => by
    have h1 := h x (by simp)
    have h2 := ents_len (l := l) (fun y hy => h y (by simp [hy]))
    have h3 := nb_len (v := x.1) (by omega)
    have h4 := textB_len2 x.2 (by omega)
    have h5 : (entb x).length = (nb x.1).length + (textB x.2).length := by unfold entb; rw [List.length_append]
    unfold smE at h2 ⊢
    rw [List.flatMap_cons, List.length_append, List.map_cons, List.sum_cons, List.length_cons]
    omega
theorem recBy_len2 {d : RecV} (hb : recB d = true) : (recBy d).length ≤ 9000 := by
  obtain ⟨hd, h⟩ := recB_fit0 hb
  have h8 := (recB_parts hb).2.2.2.2.2.1
  obtain ⟨i1, i2, i3, i4, i5, i6, i7⟩ := hd
  have n1 := numB_len9 i1
  have n2 := numB_len9 i2
  have n3 := numB_len9 i3
  have n4 := stB_len i4 i5
  have n5 := stB_len i6 i7
  have n6 := numB_len9 (v := (d.ws.length : Int)) (by omega)
  rw [Int.toNat_natCast] at n6
  have n7 := wrsB_len h.2
  simp only [recBy, List.length_append]; omega
theorem res_len2 {x : ResV} (hb : resB x = true) : (resBy x).length ≤ 60000 := by
  have h := res_small hb
  obtain ⟨h1, h2, h3, -⟩ := res_len h
  obtain ⟨h4, h5, h6, h7⟩ := h.s
  have a5 := st_len (x := x.sw) (y := x.sl) (by omega) (by omega)
  have a7 := tb_len h.an (by omega)
  have a8 := recBy_len2 (res_low hb).rc
  unfold resBy; simp only [List.length_append]; omega
theorem body_fits {m : MsgV} (h : msgB m = true) (hf : m.da.length + smE m.es ≤ 600) : (bodyM m).length ≤ 65536 := by
  have hs := msg_small h
  obtain ⟨h1, h2, -, -, -⟩ := msg_len hs
  have h3 := ents_len (l := m.es) (fun x hx => ⟨(hs.ew x hx).1.2, (hs.ew x hx).2⟩)
  have h4 := textB_len2 m.da (by omega)
  have h5 := st_len (x := m.nw) (y := m.nl) (by have := hs.s; unfold stR at this; omega) (by have := hs.s; unfold stR at this; omega)
  have h6 := hs.el
  have h7 : (mp4 m).length ≤ 1000 := by unfold mp4 mp3; simp only [List.length_append]; omega
  unfold bodyM
  split
  · rename_i k6
    have h8 := enc_len (hs.c k6)
    have h9 := textB_len2 (encB m.c) (by omega)
    rw [List.length_append]; omega
  · split
    · rename_i k7
      have h8 := res_len2 (hs.r k7)
      rw [List.length_append]; omega
    · omega
theorem back_no {m : MsgV} (hf : SmD m → m.da.length + smE m.es ≤ 600) (h : ¬ encE m = 0) : msgB m = false := by
  cases hb : msgB m with
  | false => rfl
  | true => exact absurd (if_pos ⟨hb, body_fits hb (hf (smD_of hb))⟩) h
theorem encE_bad {m : MsgV} (h : ¬ encE m = 0) : encE m = 181 := by
  unfold encE at h ⊢
  split at h
  · exact absurd rfl h
  · rename_i hc; exact if_neg hc
theorem dec_casesM (b : List UInt8) (h : (if (decMsg b).isSome = true then (0 : Int) else 181) = 0) : ∃ x, decMsg b = some x ∧ msgB x = true ∧ encE x = 0 ∧ encM x = b := by
  cases hx : decMsg b with
  | none => rw [hx] at h; simp at h
  | some x => obtain ⟨h1, h2, h3⟩ := decM_inv hx; exact ⟨x, rfl, h1, h2, h3⟩
theorem sz_msg {m : MsgV} (h : msgB m = true) : SzM m := by
  have hs := msg_small h
  obtain ⟨c1, c2⟩ := msg_cr h
  constructor
  · by_cases k : m.kd = 6
    · exact sz_cmd (hs.c k)
    · rw [c1 k]; exact szZ
  · by_cases k : m.kd = 7
    · have hr := res_small (hs.r k)
      have := hr.an
      exact ⟨fun x hx => by have := hr.pw x hx; omega, by omega, fun x hx => by have := hr.rw.2 x hx; omega⟩
    · rw [c2 k]; exact szRZ
theorem encM_len {m : MsgV} (h : encE m = 0) : 9 ≤ (encM m).length ∧ (encM m).length ≤ 65544 := by
  obtain ⟨h1, h2, h3, h4⟩ := encM_ok h
  rw [h3, frm_len]; omega

set_option maxHeartbeats 900000 in
set_option maxRecDepth 10000 in
theorem mfits2_spec {w : World} {mm : MsgV} {D_oe : Nat → Prop} {c_oe : Nat} {a_oe : Option Addr} (F_oe : Sl V.Cod.ent w D_oe a_oe c_oe mm.es) (hD_oe : ∀ k, D_oe k → k < w.heap.size) {D_od : Nat → Prop} {c_od : Nat} {a_od : Option Addr} (F_od : Sl V.Cod.byte w D_od a_od c_od mm.da) (hD_od : ∀ k, D_od k → k < w.heap.size) {D_oc : Nat → Prop} {c_oc : Nat} {a_oc : Option Addr} (F_oc : Sl V.Cod.write w D_oc a_oc c_oc mm.c.ws) (hD_oc : ∀ k, D_oc k → k < w.heap.size) {D_op : Nat → Prop} {c_op : Nat} {a_op : Option Addr} (F_op : Sl (V.Cod.pair V.Cod.str V.Cod.str) w D_op a_op c_op mm.r.ps) (hD_op : ∀ k, D_op k → k < w.heap.size) {D_or : Nat → Prop} {c_or : Nat} {a_or : Option Addr} (F_or : Sl V.Cod.write w D_or a_or c_or mm.r.rc.ws) (hD_or : ∀ k, D_or k → k < w.heap.size)   :
    Meets Try.prog 6 [.agg #[.int .i64 mm.kd, .int .i64 mm.fr, .int .i64 mm.to, .int .i64 mm.rg, .int .i64 mm.te, .int .i64 mm.ix, .int .i64 mm.lt, .int .i64 mm.co, .bool mm.ok, .slice a_oe mm.es.length c_oe, .slice a_od mm.da.length c_od, .int .i64 mm.nw, .int .i64 mm.nl, .int .i64 mm.c.kd, .int .i64 mm.c.id, .int .i64 mm.c.le, .int .i64 mm.c.nd, .int .i64 mm.c.ti, .int .i64 mm.c.te, .string mm.c.an, .int .i64 mm.c.sw, .int .i64 mm.c.sl, .int .i64 mm.c.sq, .string mm.c.fr, .string mm.c.to, .string mm.c.va, .bool mm.c.go, .int .i64 mm.c.aw, .int .i64 mm.c.al, .int .i64 mm.c.lw, .int .i64 mm.c.ll, .bool mm.c.cm, .bool mm.c.st, .slice a_oc mm.c.ws.length c_oc, .int .i64 mm.c.pr, .int .i64 mm.r.er, .int .i64 mm.r.aw, .int .i64 mm.r.al, .slice a_op mm.r.ps.length c_op, .bool mm.r.fo, .int .i64 mm.r.ti, .int .i64 mm.r.te, .string mm.r.an, .int .i64 mm.r.sw, .int .i64 mm.r.sl, .int .i64 mm.r.rc.id, .int .i64 mm.r.rc.ep, .int .i64 mm.r.rc.st, .int .i64 mm.r.rc.aw, .int .i64 mm.r.rc.al, .int .i64 mm.r.rc.bw, .int .i64 mm.r.rc.bl, .slice a_or mm.r.rc.ws.length c_or]] w fun r w' => ∃ (rv1 : Bool), r = .bool rv1 ∧ (rv1 = true → SmD mm → mm.da.length + smE mm.es ≤ 600) ∧ Gr w w' := by
 have HG := V.Fr.refl [] w
 refine V.enter (n := 104) Try.func6 rfl rfl (by decide) rfl ?_
 refine V.sr ?_
 refine V.box rfl rfl rfl rfl ?_
 rintro k1 w3 s5 s6 G4 Fk2
 have z7 := V.Fr.size G4
 try replace F_oe := F_oe.gr G4
 try replace F_od := F_od.gr G4
 try replace F_oc := F_oc.gr G4
 try replace F_op := F_op.gr G4
 try replace F_or := F_or.gr G4
 replace HG := HG.grow G4
 try simp only [V.cellsL, V.spliceL] at Fk2
 refine V.ru 1 ?_
 refine V.nt ?_
 refine V.sr ?_
 refine V.ru 1 ?_
 refine V.loadO T_ok Fk2 rfl rfl rfl rfl rfl ?_
 refine V.ru 2 ?_
 refine V.nt ?_
 refine V.seq ?_
 refine V.sr ?_
 refine V.ru 1 ?_
 refine V.nt ?_
 refine V.block ?_
 have hl63a := F_oe.len63
 refine V.loopM (fun m e v9 => Fr [] w v9 ∧ w3.heap.size ≤ v9.heap.size ∧ Sl V.Cod.ent v9 D_oe a_oe c_oe mm.es ∧ Sl V.Cod.byte v9 D_od a_od c_od mm.da ∧ Sl V.Cod.write v9 D_oc a_oc c_oc mm.c.ws ∧ Sl (V.Cod.pair V.Cod.str V.Cod.str) v9 D_op a_op c_op mm.r.ps ∧ Sl V.Cod.write v9 D_or a_or c_or mm.r.rc.ws ∧ Cells v9 k1 [.int .i64 mm.kd, .int .i64 mm.fr, .int .i64 mm.to, .int .i64 mm.rg, .int .i64 mm.te, .int .i64 mm.ix, .int .i64 mm.lt, .int .i64 mm.co, .bool mm.ok, .slice a_oe mm.es.length c_oe, .slice a_od mm.da.length c_od, .int .i64 mm.nw, .int .i64 mm.nl, .int .i64 mm.c.kd, .int .i64 mm.c.id, .int .i64 mm.c.le, .int .i64 mm.c.nd, .int .i64 mm.c.ti, .int .i64 mm.c.te, .string mm.c.an, .int .i64 mm.c.sw, .int .i64 mm.c.sl, .int .i64 mm.c.sq, .string mm.c.fr, .string mm.c.to, .string mm.c.va, .bool mm.c.go, .int .i64 mm.c.aw, .int .i64 mm.c.al, .int .i64 mm.c.lw, .int .i64 mm.c.ll, .bool mm.c.cm, .bool mm.c.st, .slice a_oc mm.c.ws.length c_oc, .int .i64 mm.c.pr, .int .i64 mm.r.er, .int .i64 mm.r.aw, .int .i64 mm.r.al, .slice a_op mm.r.ps.length c_op, .bool mm.r.fo, .int .i64 mm.r.ti, .int .i64 mm.r.te, .string mm.r.an, .int .i64 mm.r.sw, .int .i64 mm.r.sl, .int .i64 mm.r.rc.id, .int .i64 mm.r.rc.ep, .int .i64 mm.r.rc.st, .int .i64 mm.r.rc.aw, .int .i64 mm.r.rc.al, .int .i64 mm.r.rc.bw, .int .i64 mm.r.rc.bl, .slice a_or mm.r.rc.ws.length c_or] 43 ∧ ∃ (i : Nat) (nn : Int) , m = mm.es.length - i ∧ i ≤ mm.es.length ∧ (SmD mm → nn = ((mm.da.length + smE (mm.es.take i) : Nat) : Int)) ∧ e 1 = .pointer (some ⟨k1, 0, none⟩) ∧ e 3 = .int .i64 nn ∧ e 4 = .int .i64 (i : Int)) ?_ ?_
 ·
  exact ⟨_, HG, (by omega), F_oe, F_od, F_oc, F_op, F_or, Fk2, (0), ((mm.da.length : Int)), rfl, (Nat.zero_le _), (fun _ => by simp [smE]), rfl, rfl, rfl⟩
 clear HG F_oe F_od F_oc F_op F_or Fk2
 rintro _ e v9 ⟨HG, z10, F_oe, F_od, F_oc, F_op, F_or, Fk2, i, nn, rfl, hia, hnn, he0_1, he0_3, he0_4⟩
 refine V.knownC (t := 1) he0_1 ?_
 refine V.knownC (t := 3) he0_3 ?_
 refine V.knownC (t := 4) he0_4 ?_
 refine V.seq ?_
 refine V.sr ?_
 refine V.ru 2 ?_
 refine V.loadO T_ok Fk2 rfl rfl rfl rfl rfl ?_
 refine V.ru 2 ?_
 refine V.nt ?_
 refine V.condT rfl (fun h3 => ?_) (fun h3 => ?_)
 ·
  try replace h3 := V.dec h3
  try simp only [V.mk] at h3
  refine V.skip ?_
  refine V.tN ?_
  refine V.seq ?_
  refine V.block ?_
  refine V.sr ?_
  refine V.ru 2 ?_
  refine V.loadO T_ok Fk2 rfl rfl rfl rfl rfl ?_
  refine V.ru 1 ?_
  refine V.elem T_ok F_oe rfl rfl sz56 rfl rfl rfl rfl V.lenA V.lenA ?_
  rintro b11 o12 cs13 hx14 hb15 hR21 hA16
  obtain ⟨x17, hx17⟩ : ∃ z', mm.es[((i : Int)).toNat] = z' := ⟨_, rfl⟩
  rw [hx17] at hR21
  obtain ⟨_, _, rfl, rfl, ⟨a18, c19, rfl, F20⟩⟩ := hR21
  try simp only [Int.toNat_natCast] at hx17 hx14
  refine V.ru 1 ?_
  refine V.loadA T_ok (o0 := o12) (off := 1) hA16 rfl rfl rfl rfl rfl ?_
  refine V.ru 1 ?_
  refine V.ru 1 ?_
  refine V.ru 1 ?_
  refine V.nt ?_
  refine V.sr ?_
  refine V.ru 3 ?_
  refine V.orG T_ok 2 2 29 rfl rfl rfl rfl rfl rfl rfl rfl ?_
  refine V.nt ?_
  refine V.condT rfl (fun h6 => ?_) (fun h6 => ?_)
  ·
   try replace h6 := V.dec h6
   try simp only [V.mk] at h6
   refine V.sr ?_
   refine V.ru 1 ?_
   refine V.nt ?_
   refine V.ret ?_
   refine V.bR ?_
   refine V.tR ?_
   refine V.tR ?_
   refine V.bR ?_
   refine V.tR ?_
   refine V.done rfl ?_
   exact ⟨_, (by first | rfl | simp only [List.length_set]), (by intro hv hsd; first | (cases hv; done) | (have hn := hnn hsd; rw [List.take_of_length_le (by omega)] at hn; simp at hv; omega)), HG⟩
  ·
   try replace h6 := V.dec h6
   try simp only [V.mk] at h6
   refine V.skip ?_
   refine V.bN ?_
   refine V.tN ?_
   refine V.region ?_
   refine V.ru 1 ?_
   refine V.addN rfl rfl rfl rfl rfl V.lenA V.lenA ?_
   refine V.ru 1 ?_
   refine V.nt ?_
   exact ⟨_, (by omega), HG, (by omega), F_oe, F_od, F_oc, F_op, F_or, Fk2, (i + 1), (Go.IntKind.wrap .i64 (nn + (x17.2.length : Int))), rfl, (by omega), (fits_step hnn (by omega) hx17), rfl, rfl, rfl⟩
 ·
  try replace h3 := V.dec h3
  try simp only [V.mk] at h3
  refine V.exit ?_
  refine V.tX ?_
  refine V.tX ?_
  refine V.bE ?_
  refine V.tN ?_
  refine V.seq ?_
  refine V.sr ?_
  refine V.ru 1 ?_
  refine V.nt ?_
  refine V.block ?_
  have hl63b := F_op.len63
  refine V.loopM (fun m e v23 => Fr [] w v23 ∧ v9.heap.size ≤ v23.heap.size ∧ Sl V.Cod.ent v23 D_oe a_oe c_oe mm.es ∧ Sl V.Cod.byte v23 D_od a_od c_od mm.da ∧ Sl V.Cod.write v23 D_oc a_oc c_oc mm.c.ws ∧ Sl (V.Cod.pair V.Cod.str V.Cod.str) v23 D_op a_op c_op mm.r.ps ∧ Sl V.Cod.write v23 D_or a_or c_or mm.r.rc.ws ∧ Cells v23 k1 [.int .i64 mm.kd, .int .i64 mm.fr, .int .i64 mm.to, .int .i64 mm.rg, .int .i64 mm.te, .int .i64 mm.ix, .int .i64 mm.lt, .int .i64 mm.co, .bool mm.ok, .slice a_oe mm.es.length c_oe, .slice a_od mm.da.length c_od, .int .i64 mm.nw, .int .i64 mm.nl, .int .i64 mm.c.kd, .int .i64 mm.c.id, .int .i64 mm.c.le, .int .i64 mm.c.nd, .int .i64 mm.c.ti, .int .i64 mm.c.te, .string mm.c.an, .int .i64 mm.c.sw, .int .i64 mm.c.sl, .int .i64 mm.c.sq, .string mm.c.fr, .string mm.c.to, .string mm.c.va, .bool mm.c.go, .int .i64 mm.c.aw, .int .i64 mm.c.al, .int .i64 mm.c.lw, .int .i64 mm.c.ll, .bool mm.c.cm, .bool mm.c.st, .slice a_oc mm.c.ws.length c_oc, .int .i64 mm.c.pr, .int .i64 mm.r.er, .int .i64 mm.r.aw, .int .i64 mm.r.al, .slice a_op mm.r.ps.length c_op, .bool mm.r.fo, .int .i64 mm.r.ti, .int .i64 mm.r.te, .string mm.r.an, .int .i64 mm.r.sw, .int .i64 mm.r.sl, .int .i64 mm.r.rc.id, .int .i64 mm.r.rc.ep, .int .i64 mm.r.rc.st, .int .i64 mm.r.rc.aw, .int .i64 mm.r.rc.al, .int .i64 mm.r.rc.bw, .int .i64 mm.r.rc.bl, .slice a_or mm.r.rc.ws.length c_or] 43 ∧ ∃ (i : Nat) , m = (mm.r.ps).length - i ∧ i ≤ (mm.r.ps).length ∧ e 1 = .pointer (some ⟨k1, 0, none⟩) ∧ e 3 = .int .i64 nn ∧ e 5 = .int .i64 (i : Int)) ?_ ?_
  ·
   exact ⟨_, HG, (by omega), F_oe, F_od, F_oc, F_op, F_or, Fk2, (0), rfl, (Nat.zero_le _), rfl, rfl, rfl⟩
  clear HG F_oe F_od F_oc F_op F_or Fk2
  rintro _ e v23 ⟨HG, z24, F_oe, F_od, F_oc, F_op, F_or, Fk2, i, rfl, hib, he1_1, he1_3, he1_5⟩
  refine V.knownC (t := 1) he1_1 ?_
  refine V.knownC (t := 3) he1_3 ?_
  refine V.knownC (t := 5) he1_5 ?_
  refine V.seq ?_
  refine V.sr ?_
  refine V.ru 3 ?_
  refine V.loadO T_ok Fk2 rfl rfl rfl rfl rfl ?_
  refine V.ru 2 ?_
  refine V.nt ?_
  refine V.condT rfl (fun h9 => ?_) (fun h9 => ?_)
  ·
   try replace h9 := V.dec h9
   try simp only [V.mk] at h9
   refine V.skip ?_
   refine V.tN ?_
   refine V.seq ?_
   refine V.block ?_
   refine V.sr ?_
   refine V.ru 3 ?_
   refine V.split (j := 2) (t := 43) rfl rfl (fun g11_2 => ?_) (fun g11_2 => ?_)
   ·
    try replace g11_2 := V.dec g11_2
    try simp only [V.mk] at g11_2
    refine V.ru 21 ?_
    refine V.nt ?_
    refine V.condY rfl rfl ?_
    refine V.sr ?_
    refine V.ru 1 ?_
    refine V.nt ?_
    refine V.ret ?_
    refine V.bR ?_
    refine V.tR ?_
    refine V.tR ?_
    refine V.bR ?_
    refine V.tR ?_
    refine V.done rfl ?_
    exact ⟨_, (by first | rfl | simp only [List.length_set]), (by intro hv hsd; first | (cases hv; done) | (have hn := hnn hsd; rw [List.take_of_length_le (by omega)] at hn; simp at hv; omega)), HG⟩
   ·
    try replace g11_2 := V.dec g11_2
    try simp only [V.mk] at g11_2
    refine V.ru 2 ?_
    refine V.yes rfl rfl rfl ?_
    refine V.loadO T_ok Fk2 rfl rfl rfl rfl rfl ?_
    refine V.ru 1 ?_
    refine V.yes rfl rfl rfl ?_
    refine V.elem T_ok F_op rfl rfl sz58 rfl rfl rfl rfl V.lenA V.lenA ?_
    rintro b25 o26 cs27 hx28 hb29 hR32 hA30
    obtain ⟨x31, hx31⟩ : ∃ z', mm.r.ps[((i : Int)).toNat] = z' := ⟨_, rfl⟩
    rw [hx31] at hR32
    obtain ⟨_, _, rfl, rfl, rfl⟩ := hR32
    try simp only [Int.toNat_natCast] at hx31 hx28
    refine V.ru 1 ?_
    refine V.yes rfl rfl rfl ?_
    refine V.loadA T_ok (o0 := o26) (off := 0) hA30 rfl rfl rfl rfl rfl ?_
    refine V.ru 4 ?_
    refine V.split (j := 13) (t := 54) rfl rfl (fun g11_13 => ?_) (fun g11_13 => ?_)
    ·
     try replace g11_13 := V.dec g11_13
     try simp only [V.mk] at g11_13
     refine V.ru 10 ?_
     refine V.nt ?_
     refine V.condY rfl rfl ?_
     refine V.sr ?_
     refine V.ru 1 ?_
     refine V.nt ?_
     refine V.ret ?_
     refine V.bR ?_
     refine V.tR ?_
     refine V.tR ?_
     refine V.bR ?_
     refine V.tR ?_
     refine V.done rfl ?_
     exact ⟨_, (by first | rfl | simp only [List.length_set]), (by intro hv hsd; first | (cases hv; done) | (have hn := hnn hsd; rw [List.take_of_length_le (by omega)] at hn; simp at hv; omega)), HG⟩
    ·
     try replace g11_13 := V.dec g11_13
     try simp only [V.mk] at g11_13
     refine V.ru 2 ?_
     refine V.yes rfl rfl rfl ?_
     refine V.loadO T_ok Fk2 rfl rfl rfl rfl rfl ?_
     refine V.ru 1 ?_
     refine V.yes rfl rfl rfl ?_
     refine V.elem T_ok F_op rfl rfl sz58 rfl rfl rfl rfl V.lenA V.lenA ?_
     rintro b33 o34 cs35 hx36 hb37 hR40 hA38
     obtain ⟨x39, hx39⟩ : ∃ z', mm.r.ps[((i : Int)).toNat] = z' := ⟨_, rfl⟩
     rw [hx39] at hR40
     obtain ⟨_, _, rfl, rfl, rfl⟩ := hR40
     try simp only [Int.toNat_natCast] at hx39 hx36
     obtain rfl : x31 = x39 := hx31.symm.trans hx39
     refine V.ru 1 ?_
     refine V.yes rfl rfl rfl ?_
     refine V.loadA T_ok (o0 := o34) (off := 1) hA38 rfl rfl rfl rfl rfl ?_
     refine V.ru 3 ?_
     refine V.nt ?_
     refine V.condT rfl (fun h11 => ?_) (fun h11 => ?_)
     ·
      try replace h11 := V.dec h11
      try simp only [V.mk] at h11
      refine V.sr ?_
      refine V.ru 1 ?_
      refine V.nt ?_
      refine V.ret ?_
      refine V.bR ?_
      refine V.tR ?_
      refine V.tR ?_
      refine V.bR ?_
      refine V.tR ?_
      refine V.done rfl ?_
      exact ⟨_, (by first | rfl | simp only [List.length_set]), (by intro hv hsd; first | (cases hv; done) | (have hn := hnn hsd; rw [List.take_of_length_le (by omega)] at hn; simp at hv; omega)), HG⟩
     ·
      try replace h11 := V.dec h11
      try simp only [V.mk] at h11
      refine V.skip ?_
      refine V.bN ?_
      refine V.tN ?_
      refine V.region ?_
      refine V.ru 1 ?_
      refine V.addN rfl rfl rfl rfl rfl V.lenA V.lenA ?_
      refine V.ru 1 ?_
      refine V.nt ?_
      exact ⟨_, (by omega), HG, (by omega), F_oe, F_od, F_oc, F_op, F_or, Fk2, (i + 1), rfl, (by omega), rfl, rfl, rfl⟩
  ·
   try replace h9 := V.dec h9
   try simp only [V.mk] at h9
   refine V.exit ?_
   refine V.tX ?_
   refine V.tX ?_
   refine V.bE ?_
   refine V.tN ?_
   refine V.seq ?_
   refine V.sr ?_
   refine V.ru 1 ?_
   refine V.nt ?_
   refine V.block ?_
   have hl63c := F_or.len63
   refine V.loopM (fun m e v42 => Fr [] w v42 ∧ v23.heap.size ≤ v42.heap.size ∧ Sl V.Cod.ent v42 D_oe a_oe c_oe mm.es ∧ Sl V.Cod.byte v42 D_od a_od c_od mm.da ∧ Sl V.Cod.write v42 D_oc a_oc c_oc mm.c.ws ∧ Sl (V.Cod.pair V.Cod.str V.Cod.str) v42 D_op a_op c_op mm.r.ps ∧ Sl V.Cod.write v42 D_or a_or c_or mm.r.rc.ws ∧ Cells v42 k1 [.int .i64 mm.kd, .int .i64 mm.fr, .int .i64 mm.to, .int .i64 mm.rg, .int .i64 mm.te, .int .i64 mm.ix, .int .i64 mm.lt, .int .i64 mm.co, .bool mm.ok, .slice a_oe mm.es.length c_oe, .slice a_od mm.da.length c_od, .int .i64 mm.nw, .int .i64 mm.nl, .int .i64 mm.c.kd, .int .i64 mm.c.id, .int .i64 mm.c.le, .int .i64 mm.c.nd, .int .i64 mm.c.ti, .int .i64 mm.c.te, .string mm.c.an, .int .i64 mm.c.sw, .int .i64 mm.c.sl, .int .i64 mm.c.sq, .string mm.c.fr, .string mm.c.to, .string mm.c.va, .bool mm.c.go, .int .i64 mm.c.aw, .int .i64 mm.c.al, .int .i64 mm.c.lw, .int .i64 mm.c.ll, .bool mm.c.cm, .bool mm.c.st, .slice a_oc mm.c.ws.length c_oc, .int .i64 mm.c.pr, .int .i64 mm.r.er, .int .i64 mm.r.aw, .int .i64 mm.r.al, .slice a_op mm.r.ps.length c_op, .bool mm.r.fo, .int .i64 mm.r.ti, .int .i64 mm.r.te, .string mm.r.an, .int .i64 mm.r.sw, .int .i64 mm.r.sl, .int .i64 mm.r.rc.id, .int .i64 mm.r.rc.ep, .int .i64 mm.r.rc.st, .int .i64 mm.r.rc.aw, .int .i64 mm.r.rc.al, .int .i64 mm.r.rc.bw, .int .i64 mm.r.rc.bl, .slice a_or mm.r.rc.ws.length c_or] 43 ∧ ∃ (i : Nat) , m = (mm.r.rc.ws).length - i ∧ i ≤ (mm.r.rc.ws).length ∧ e 1 = .pointer (some ⟨k1, 0, none⟩) ∧ e 3 = .int .i64 nn ∧ e 6 = .int .i64 (i : Int)) ?_ ?_
   ·
    exact ⟨_, HG, (by omega), F_oe, F_od, F_oc, F_op, F_or, Fk2, (0), rfl, (Nat.zero_le _), rfl, rfl, rfl⟩
   clear HG F_oe F_od F_oc F_op F_or Fk2
   rintro _ e v42 ⟨HG, z43, F_oe, F_od, F_oc, F_op, F_or, Fk2, i, rfl, hic, he2_1, he2_3, he2_6⟩
   refine V.knownC (t := 1) he2_1 ?_
   refine V.knownC (t := 3) he2_3 ?_
   refine V.knownC (t := 6) he2_6 ?_
   refine V.seq ?_
   refine V.sr ?_
   refine V.ru 4 ?_
   refine V.loadO T_ok Fk2 rfl rfl rfl rfl rfl ?_
   refine V.ru 2 ?_
   refine V.nt ?_
   refine V.condT rfl (fun h14 => ?_) (fun h14 => ?_)
   ·
    try replace h14 := V.dec h14
    try simp only [V.mk] at h14
    refine V.skip ?_
    refine V.tN ?_
    refine V.seq ?_
    refine V.block ?_
    refine V.sr ?_
    refine V.ru 3 ?_
    refine V.split (j := 2) (t := 76) rfl rfl (fun g16_2 => ?_) (fun g16_2 => ?_)
    ·
     try replace g16_2 := V.dec g16_2
     try simp only [V.mk] at g16_2
     refine V.ru 11 ?_
     refine V.nt ?_
     refine V.condY rfl rfl ?_
     refine V.sr ?_
     refine V.ru 1 ?_
     refine V.nt ?_
     refine V.ret ?_
     refine V.bR ?_
     refine V.tR ?_
     refine V.tR ?_
     refine V.bR ?_
     refine V.tR ?_
     refine V.done rfl ?_
     exact ⟨_, (by first | rfl | simp only [List.length_set]), (by intro hv hsd; first | (cases hv; done) | (have hn := hnn hsd; rw [List.take_of_length_le (by omega)] at hn; simp at hv; omega)), HG⟩
    ·
     try replace g16_2 := V.dec g16_2
     try simp only [V.mk] at g16_2
     refine V.ru 3 ?_
     refine V.yes rfl rfl rfl ?_
     refine V.loadO T_ok Fk2 rfl rfl rfl rfl rfl ?_
     refine V.ru 1 ?_
     refine V.yes rfl rfl rfl ?_
     refine V.elem T_ok F_or rfl rfl sz60 rfl rfl rfl rfl V.lenA V.lenA ?_
     rintro b44 o45 cs46 hx47 hb48 hR51 hA49
     obtain ⟨x50, hx50⟩ : ∃ z', mm.r.rc.ws[((i : Int)).toNat] = z' := ⟨_, rfl⟩
     rw [hx50] at hR51
     obtain ⟨_, _, rfl, rfl, rfl⟩ := hR51
     try simp only [Int.toNat_natCast] at hx50 hx47
     refine V.ru 1 ?_
     refine V.yes rfl rfl rfl ?_
     refine V.loadA T_ok (o0 := o45) (off := 0) hA49 rfl rfl rfl rfl rfl ?_
     refine V.ru 3 ?_
     refine V.nt ?_
     refine V.condT rfl (fun h16 => ?_) (fun h16 => ?_)
     ·
      try replace h16 := V.dec h16
      try simp only [V.mk] at h16
      refine V.sr ?_
      refine V.ru 1 ?_
      refine V.nt ?_
      refine V.ret ?_
      refine V.bR ?_
      refine V.tR ?_
      refine V.tR ?_
      refine V.bR ?_
      refine V.tR ?_
      refine V.done rfl ?_
      exact ⟨_, (by first | rfl | simp only [List.length_set]), (by intro hv hsd; first | (cases hv; done) | (have hn := hnn hsd; rw [List.take_of_length_le (by omega)] at hn; simp at hv; omega)), HG⟩
     ·
      try replace h16 := V.dec h16
      try simp only [V.mk] at h16
      refine V.skip ?_
      refine V.bN ?_
      refine V.tN ?_
      refine V.region ?_
      refine V.ru 1 ?_
      refine V.addN rfl rfl rfl rfl rfl V.lenA V.lenA ?_
      refine V.ru 1 ?_
      refine V.nt ?_
      exact ⟨_, (by omega), HG, (by omega), F_oe, F_od, F_oc, F_op, F_or, Fk2, (i + 1), rfl, (by omega), rfl, rfl, rfl⟩
   ·
    try replace h14 := V.dec h14
    try simp only [V.mk] at h14
    refine V.exit ?_
    refine V.tX ?_
    refine V.tX ?_
    refine V.bE ?_
    refine V.tN ?_
    refine V.sr ?_
    refine V.ru 1 ?_
    refine V.loadO T_ok Fk2 rfl rfl rfl rfl rfl ?_
    refine V.call (cfits_spec (d := mm.c) F_oc (fun k hk => by have := hD_oc k hk; omega)) rfl rfl rfl ?_
    rintro _ w53 ⟨v52, rfl, G54⟩
    have z55 := V.Fr.size G54
    try replace F_oe := F_oe.gr G54
    try replace F_od := F_od.gr G54
    try replace F_oc := F_oc.gr G54
    try replace F_op := F_op.gr G54
    try replace F_or := F_or.gr G54
    try replace Fk2 := Fk2.gr G54
    replace HG := HG.grow G54
    refine V.ru 1 ?_
    refine V.nt ?_
    refine V.sr ?_
    refine V.ru 2 ?_
    refine V.andG T_ok 2 1 92 rfl rfl rfl rfl rfl rfl rfl rfl ?_
    refine V.ru 1 ?_
    refine V.split (j := 5) (t := 96) rfl rfl (fun g19_5 => ?_) (fun g19_5 => ?_)
    ·
     try replace g19_5 := V.dec g19_5
     try simp only [V.mk] at g19_5
     refine V.ru 3 ?_
     refine V.yes rfl rfl rfl ?_
     refine V.loadO T_ok Fk2 rfl rfl rfl rfl rfl ?_
     refine V.ru 4 ?_
     refine V.nt ?_
     refine V.ret ?_
     refine V.done rfl ?_
     exact ⟨_, (by first | rfl | simp only [List.length_set]), (by intro hv hsd; first | (cases hv; done) | (have hn := hnn hsd; rw [List.take_of_length_le (by omega)] at hn; simp at hv; omega)), HG⟩
    ·
     try replace g19_5 := V.dec g19_5
     try simp only [V.mk] at g19_5
     refine V.ru 8 ?_
     refine V.nt ?_
     refine V.ret ?_
     refine V.done rfl ?_
     exact ⟨_, (by first | rfl | simp only [List.length_set]), (by intro hv hsd; first | (cases hv; done) | (have hn := hnn hsd; rw [List.take_of_length_le (by omega)] at hn; simp at hv; omega)), HG⟩

set_option maxHeartbeats 900000 in
set_option maxRecDepth 10000 in
theorem messageBack_walk {w : World} {mm : MsgV} {D_oe : Nat → Prop} {c_oe : Nat} {a_oe : Option Addr} (F_oe : Sl V.Cod.ent w D_oe a_oe c_oe mm.es) (hD_oe : ∀ k, D_oe k → k < w.heap.size) {D_od : Nat → Prop} {c_od : Nat} {a_od : Option Addr} (F_od : Sl V.Cod.byte w D_od a_od c_od mm.da) (hD_od : ∀ k, D_od k → k < w.heap.size) {D_oc : Nat → Prop} {c_oc : Nat} {a_oc : Option Addr} (F_oc : Sl V.Cod.write w D_oc a_oc c_oc mm.c.ws) (hD_oc : ∀ k, D_oc k → k < w.heap.size) {D_op : Nat → Prop} {c_op : Nat} {a_op : Option Addr} (F_op : Sl (V.Cod.pair V.Cod.str V.Cod.str) w D_op a_op c_op mm.r.ps) (hD_op : ∀ k, D_op k → k < w.heap.size) {D_or : Nat → Prop} {c_or : Nat} {a_or : Option Addr} (F_or : Sl V.Cod.write w D_or a_or c_or mm.r.rc.ws) (hD_or : ∀ k, D_or k → k < w.heap.size) {D_b : Nat → Prop} {c_b : Nat} {a_b : Option Addr} {b : List UInt8} (F_b : Sl V.Cod.byte w D_b a_b c_b b) (hD_b : ∀ k, D_b k → k < w.heap.size) {at_ : Int} (hz : SzM mm) (hat : -9223372036854775808 ≤ at_ ∧ at_ ≤ 9223372036854775807) :
    Meets Try.prog 3 [.agg #[.int .i64 mm.kd, .int .i64 mm.fr, .int .i64 mm.to, .int .i64 mm.rg, .int .i64 mm.te, .int .i64 mm.ix, .int .i64 mm.lt, .int .i64 mm.co, .bool mm.ok, .slice a_oe mm.es.length c_oe, .slice a_od mm.da.length c_od, .int .i64 mm.nw, .int .i64 mm.nl, .int .i64 mm.c.kd, .int .i64 mm.c.id, .int .i64 mm.c.le, .int .i64 mm.c.nd, .int .i64 mm.c.ti, .int .i64 mm.c.te, .string mm.c.an, .int .i64 mm.c.sw, .int .i64 mm.c.sl, .int .i64 mm.c.sq, .string mm.c.fr, .string mm.c.to, .string mm.c.va, .bool mm.c.go, .int .i64 mm.c.aw, .int .i64 mm.c.al, .int .i64 mm.c.lw, .int .i64 mm.c.ll, .bool mm.c.cm, .bool mm.c.st, .slice a_oc mm.c.ws.length c_oc, .int .i64 mm.c.pr, .int .i64 mm.r.er, .int .i64 mm.r.aw, .int .i64 mm.r.al, .slice a_op mm.r.ps.length c_op, .bool mm.r.fo, .int .i64 mm.r.ti, .int .i64 mm.r.te, .string mm.r.an, .int .i64 mm.r.sw, .int .i64 mm.r.sl, .int .i64 mm.r.rc.id, .int .i64 mm.r.rc.ep, .int .i64 mm.r.rc.st, .int .i64 mm.r.rc.aw, .int .i64 mm.r.rc.al, .int .i64 mm.r.rc.bw, .int .i64 mm.r.rc.bl, .slice a_or mm.r.rc.ws.length c_or], .slice a_b b.length c_b, .int .i64 at_] w fun r w' => r = .bool true ∧ Gr w w' := by
 have HG := V.Fr.refl [] w
 refine V.enter (n := 162) Try.func3 rfl rfl (by decide) rfl ?_
 refine V.sr ?_
 refine V.box rfl rfl rfl rfl ?_
 rintro k1 w3 s5 s6 G4 Fk2
 have z7 := V.Fr.size G4
 try replace F_oe := F_oe.gr G4
 try replace F_od := F_od.gr G4
 try replace F_oc := F_oc.gr G4
 try replace F_op := F_op.gr G4
 try replace F_or := F_or.gr G4
 try replace F_b := F_b.gr G4
 replace HG := HG.grow G4
 try simp only [V.cellsL, V.spliceL] at Fk2
 refine V.ru 1 ?_
 refine V.nt ?_
 refine V.sr ?_
 refine V.loadO T_ok Fk2 rfl rfl rfl rfl rfl ?_
 refine V.call (mfits2_spec (mm := mm) F_oe (fun k hk => by have := hD_oe k hk; omega) F_od (fun k hk => by have := hD_od k hk; omega) F_oc (fun k hk => by have := hD_oc k hk; omega) F_op (fun k hk => by have := hD_op k hk; omega) F_or (fun k hk => by have := hD_or k hk; omega)) rfl rfl rfl ?_
 rintro _ w10 ⟨v8, rfl, h9, G11⟩
 have z12 := V.Fr.size G11
 try replace F_oe := F_oe.gr G11
 try replace F_od := F_od.gr G11
 try replace F_oc := F_oc.gr G11
 try replace F_op := F_op.gr G11
 try replace F_or := F_or.gr G11
 try replace F_b := F_b.gr G11
 try replace Fk2 := Fk2.gr G11
 replace HG := HG.grow G11
 refine V.ru 1 ?_
 refine V.nt ?_
 refine V.seq ?_
 refine V.sr ?_
 refine V.ru 3 ?_
 refine V.orG T_ok 3 2 29 rfl rfl rfl rfl rfl rfl rfl rfl ?_
 refine V.nt ?_
 refine V.condT rfl (fun h2 => ?_) (fun h2 => ?_)
 ·
  try replace h2 := V.dec h2
  try simp only [V.mk] at h2
  refine V.sr ?_
  refine V.call (alive_spec) rfl rfl rfl ?_
  rintro _ w13 ⟨rfl, G14⟩
  have z15 := V.Fr.size G14
  try replace F_oe := F_oe.gr G14
  try replace F_od := F_od.gr G14
  try replace F_oc := F_oc.gr G14
  try replace F_op := F_op.gr G14
  try replace F_or := F_or.gr G14
  try replace F_b := F_b.gr G14
  try replace Fk2 := Fk2.gr G14
  replace HG := HG.grow G14
  refine V.ru 1 ?_
  refine V.nt ?_
  refine V.ret ?_
  refine V.tR ?_
  refine V.done rfl ?_
  exact ⟨(by first | rfl | simp only [List.length_set]), HG⟩
 ·
  try replace h2 := V.dec h2
  try simp only [V.mk] at h2
  refine V.skip ?_
  refine V.tN ?_
  refine V.sr ?_
  refine V.ru 1 ?_
  refine V.call (mdecode_spec F_b (fun k hk => by have := hD_b k hk; omega) V.lenA) rfl rfl rfl ?_
  rintro _ w31 ⟨a16, c17, a18, c19, a20, c21, a22, c23, a24, c25, rfl, F26, F27, F28, F29, F30, G32⟩
  have z33 := V.Fr.size G32
  try replace F_oe := F_oe.gr G32
  try replace F_od := F_od.gr G32
  try replace F_oc := F_oc.gr G32
  try replace F_op := F_op.gr G32
  try replace F_or := F_or.gr G32
  try replace F_b := F_b.gr G32
  try replace Fk2 := Fk2.gr G32
  replace HG := HG.grow G32
  refine V.ru 3 ?_
  refine V.alloc zero43 rfl rfl rfl ?_
  rintro k34 w36 s38 s39 G37 Fk35
  have z40 := V.Fr.size G37
  try replace F_oe := F_oe.gr G37
  try replace F_od := F_od.gr G37
  try replace F_oc := F_oc.gr G37
  try replace F_op := F_op.gr G37
  try replace F_or := F_or.gr G37
  try replace F_b := F_b.gr G37
  try replace Fk2 := Fk2.gr G37
  try replace F26 := F26.gr G37
  try replace F27 := F27.gr G37
  try replace F28 := F28.gr G37
  try replace F29 := F29.gr G37
  try replace F30 := F30.gr G37
  replace HG := HG.grow G37
  try simp only [V.cellsL, V.spliceL] at Fk35
  refine V.storeO Fk35 rfl rfl rfl rfl sz43 rfl rfl rfl rfl ?_
  rintro w41 G42 z44 Fs43
  clear Fk35
  have z45 := V.Fr.size G42
  try replace F_oe := F_oe.mb G42 hD_oe
  try replace F_od := F_od.mb G42 hD_od
  try replace F_oc := F_oc.mb G42 hD_oc
  try replace F_op := F_op.mb G42 hD_op
  try replace F_or := F_or.mb G42 hD_or
  try replace F_b := F_b.mb G42 hD_b
  try replace Fk2 := Fk2.ma G42
  try replace F26 := F26.ma G42
  try replace F27 := F27.ma G42
  try replace F28 := F28.ma G42
  try replace F29 := F29.ma G42
  try replace F30 := F30.ma G42
  replace HG := HG.n1 G42
  have Fk35 := Fs43; clear Fs43
  simp only [V.spliceL, V.cellsL] at Fk35
  refine V.ru 1 ?_
  refine V.nt ?_
  refine V.seqJ (fun e v47 => Fr [] w v47 ∧ w41.heap.size ≤ v47.heap.size ∧ Sl V.Cod.ent v47 D_oe a_oe c_oe mm.es ∧ Sl V.Cod.byte v47 D_od a_od c_od mm.da ∧ Sl V.Cod.write v47 D_oc a_oc c_oc mm.c.ws ∧ Sl (V.Cod.pair V.Cod.str V.Cod.str) v47 D_op a_op c_op mm.r.ps ∧ Sl V.Cod.write v47 D_or a_or c_or mm.r.rc.ws ∧ Sl V.Cod.byte v47 D_b a_b c_b b ∧ Cells v47 k1 [.int .i64 mm.kd, .int .i64 mm.fr, .int .i64 mm.to, .int .i64 mm.rg, .int .i64 mm.te, .int .i64 mm.ix, .int .i64 mm.lt, .int .i64 mm.co, .bool mm.ok, .slice a_oe mm.es.length c_oe, .slice a_od mm.da.length c_od, .int .i64 mm.nw, .int .i64 mm.nl, .int .i64 mm.c.kd, .int .i64 mm.c.id, .int .i64 mm.c.le, .int .i64 mm.c.nd, .int .i64 mm.c.ti, .int .i64 mm.c.te, .string mm.c.an, .int .i64 mm.c.sw, .int .i64 mm.c.sl, .int .i64 mm.c.sq, .string mm.c.fr, .string mm.c.to, .string mm.c.va, .bool mm.c.go, .int .i64 mm.c.aw, .int .i64 mm.c.al, .int .i64 mm.c.lw, .int .i64 mm.c.ll, .bool mm.c.cm, .bool mm.c.st, .slice a_oc mm.c.ws.length c_oc, .int .i64 mm.c.pr, .int .i64 mm.r.er, .int .i64 mm.r.aw, .int .i64 mm.r.al, .slice a_op mm.r.ps.length c_op, .bool mm.r.fo, .int .i64 mm.r.ti, .int .i64 mm.r.te, .string mm.r.an, .int .i64 mm.r.sw, .int .i64 mm.r.sl, .int .i64 mm.r.rc.id, .int .i64 mm.r.rc.ep, .int .i64 mm.r.rc.st, .int .i64 mm.r.rc.aw, .int .i64 mm.r.rc.al, .int .i64 mm.r.rc.bw, .int .i64 mm.r.rc.bl, .slice a_or mm.r.rc.ws.length c_or] 43 ∧ e 2 = .int .i64 at_ ∧ e 3 = .pointer (some ⟨k1, 0, none⟩) ∧ True) ?_ ?_
  ·
   refine V.sr ?_
   refine V.ru 2 ?_
   refine V.nt ?_
   refine V.condT rfl (fun h5 => ?_) (fun h5 => ?_)
   ·
    try replace h5 := V.dec h5
    try simp only [V.mk] at h5
    obtain ⟨x, hx, hxm, hxe, hxb⟩ := dec_casesM b h5
    refine V.seq ?_
    have hz8 : SzM ((decMsg b).getD msgZ) := by rw [hx]; exact sz_msg hxm
    refine V.region ?_
    refine V.loadO T_ok Fk35 rfl rfl rfl rfl rfl ?_
    refine V.call (mencode_spec (mm := ((decMsg b).getD msgZ)) F26.sl (fun k hk => by have := hk.2; omega) F27 (fun k hk => by have := hk.2; omega) F28.sl (fun k hk => by have := hk.2; omega) F29.sl (fun k hk => by have := hk.2; omega) F30 (fun k hk => by have := hk.2; omega) (by first | (with_reducible assumption) | exact hz)) rfl rfl rfl ?_
    rintro _ w51 ⟨a48, c49, rfl, F50, G52⟩
    have z53 := V.Fr.size G52
    try replace F_oe := F_oe.gr G52
    try replace F_od := F_od.gr G52
    try replace F_oc := F_oc.gr G52
    try replace F_op := F_op.gr G52
    try replace F_or := F_or.gr G52
    try replace F_b := F_b.gr G52
    try replace Fk2 := Fk2.gr G52
    try replace F26 := F26.gr G52
    try replace F27 := F27.gr G52
    try replace F28 := F28.gr G52
    try replace F29 := F29.gr G52
    try replace F30 := F30.gr G52
    try replace Fk35 := Fk35.gr G52
    replace HG := HG.grow G52
    refine V.ru 5 ?_
    refine V.nt ?_
    refine V.sr ?_
    refine V.ru 3 ?_
    refine V.splitF (j := 2) (t := 49) rfl rfl (by (rw [hx]; exact decide_eq_false (fun hq => hq hxe))) ?_
    refine V.ru 1 ?_
    refine V.yes rfl rfl rfl ?_
    refine V.toStr F50.sl Try.underlying24 Try.underlying5 Try.underlying9 rfl rfl rfl rfl ?_
    refine V.ru 1 ?_
    refine V.yes rfl rfl rfl ?_
    refine V.toStr F_b Try.underlying24 Try.underlying5 Try.underlying9 rfl rfl rfl rfl ?_
    refine V.ru 3 ?_
    refine V.splitF (j := 9) (t := 56) rfl rfl (by (rw [hx]; exact decide_eq_false (fun hq => hq (by rw [show encM ((some x).getD msgZ) = b from hxb])))) ?_
    refine V.yes rfl rfl rfl ?_
    refine V.loadO T_ok Fk35 rfl rfl rfl rfl rfl ?_
    refine V.yes rfl rfl rfl ?_
    refine V.call (mright_spec (mm := ((decMsg b).getD msgZ)) F26.sl (fun k hk => by have := hk.2; omega) F27 (fun k hk => by have := hk.2; omega) F28.sl (fun k hk => by have := hk.2; omega) F29.sl (fun k hk => by have := hk.2; omega) F30 (fun k hk => by have := hk.2; omega) (by first | (with_reducible assumption) | exact hz)) rfl rfl rfl ?_
    rintro _ w54 ⟨rfl, G55⟩
    have z56 := V.Fr.size G55
    try replace F_oe := F_oe.gr G55
    try replace F_od := F_od.gr G55
    try replace F_oc := F_oc.gr G55
    try replace F_op := F_op.gr G55
    try replace F_or := F_or.gr G55
    try replace F_b := F_b.gr G55
    try replace Fk2 := Fk2.gr G55
    try replace F26 := F26.gr G55
    try replace F27 := F27.gr G55
    try replace F28 := F28.gr G55
    try replace F29 := F29.gr G55
    try replace F30 := F30.gr G55
    try replace Fk35 := Fk35.gr G55
    try replace F50 := F50.gr G55
    replace HG := HG.grow G55
    refine V.ru 2 ?_
    refine V.nt ?_
    refine V.condN rfl (by (rw [hx]; show (!msgB x) = false; rw [hxm]; rfl)) ?_
    refine V.skip ?_
    refine V.tN ?_
    exact ⟨HG, (by omega), F_oe, F_od, F_oc, F_op, F_or, F_b, Fk2, rfl, rfl, trivial⟩
   ·
    try replace h5 := V.dec h5
    try simp only [V.mk] at h5
    refine V.skip ?_
    refine V.tN ?_
    exact ⟨HG, (by omega), F_oe, F_od, F_oc, F_op, F_or, F_b, Fk2, rfl, rfl, trivial⟩
  clear HG F_oe F_od F_oc F_op F_or F_b Fk2
  try clear F30
  try clear F28
  try clear F26
  try clear Fk35
  try clear F29
  try clear F27
  rintro e v47 ⟨HG, z57, F_oe, F_od, F_oc, F_op, F_or, F_b, Fk2, hjn46_2, hjn46_3, -⟩
  refine V.knownC (t := 2) hjn46_2 ?_
  refine V.knownC (t := 3) hjn46_3 ?_
  refine V.sr ?_
  refine V.loadO T_ok Fk2 rfl rfl rfl rfl rfl ?_
  refine V.call (mencode_spec (mm := mm) F_oe (fun k hk => by have := hD_oe k hk; omega) F_od (fun k hk => by have := hD_od k hk; omega) F_oc (fun k hk => by have := hD_oc k hk; omega) F_op (fun k hk => by have := hD_op k hk; omega) F_or (fun k hk => by have := hD_or k hk; omega) (by first | (with_reducible assumption) | exact hz)) rfl rfl rfl ?_
  rintro _ w61 ⟨a58, c59, rfl, F60, G62⟩
  have z63 := V.Fr.size G62
  try replace F_oe := F_oe.gr G62
  try replace F_od := F_od.gr G62
  try replace F_oc := F_oc.gr G62
  try replace F_op := F_op.gr G62
  try replace F_or := F_or.gr G62
  try replace F_b := F_b.gr G62
  try replace Fk2 := Fk2.gr G62
  replace HG := HG.grow G62
  refine V.ru 5 ?_
  refine V.nt ?_
  refine V.seq ?_
  refine V.sr ?_
  refine V.ru 2 ?_
  refine V.nt ?_
  refine V.condT rfl (fun h10 => ?_) (fun h10 => ?_)
  ·
   try replace h10 := V.dec h10
   try simp only [V.mk] at h10
   have hne : ¬ encE mm = 0 := h10
   refine V.sr ?_
   refine V.call (alive_spec) rfl rfl rfl ?_
   rintro _ w64 ⟨rfl, G65⟩
   have z66 := V.Fr.size G65
   try replace F_oe := F_oe.gr G65
   try replace F_od := F_od.gr G65
   try replace F_oc := F_oc.gr G65
   try replace F_op := F_op.gr G65
   try replace F_or := F_or.gr G65
   try replace F_b := F_b.gr G65
   try replace Fk2 := Fk2.gr G65
   try replace F60 := F60.gr G65
   replace HG := HG.grow G65
   refine V.ru 5 ?_
   refine V.splitT (j := 5) (t := 73) rfl rfl (by (exact decide_eq_true (encE_bad hne))) ?_
   refine V.yes rfl rfl rfl ?_
   refine V.loadO T_ok Fk2 rfl rfl rfl rfl rfl ?_
   refine V.yes rfl rfl rfl ?_
   refine V.call (mright_spec (mm := mm) F_oe (fun k hk => by have := hD_oe k hk; omega) F_od (fun k hk => by have := hD_od k hk; omega) F_oc (fun k hk => by have := hD_oc k hk; omega) F_op (fun k hk => by have := hD_op k hk; omega) F_or (fun k hk => by have := hD_or k hk; omega) (by first | (with_reducible assumption) | exact hz)) rfl rfl rfl ?_
   rintro _ w67 ⟨rfl, G68⟩
   have z69 := V.Fr.size G68
   try replace F_oe := F_oe.gr G68
   try replace F_od := F_od.gr G68
   try replace F_oc := F_oc.gr G68
   try replace F_op := F_op.gr G68
   try replace F_or := F_or.gr G68
   try replace F_b := F_b.gr G68
   try replace Fk2 := Fk2.gr G68
   try replace F60 := F60.gr G68
   replace HG := HG.grow G68
   refine V.ru 3 ?_
   refine V.nt ?_
   refine V.ret ?_
   refine V.tR ?_
   refine V.done rfl ?_
   exact ⟨congrArg Value.bool (by rw [back_no (m := mm) (by first | assumption | (intro hsd; apply_assumption <;> first | assumption | (simp_all; done))) hne]; rfl), HG⟩
  ·
   try replace h10 := V.dec h10
   try simp only [V.mk] at h10
   have he : encE mm = 0 := by first | exact h10 | exact Decidable.not_not.1 h10
   refine V.skip ?_
   refine V.tN ?_
   refine V.seq ?_
   refine V.seq ?_
   obtain ⟨hl9, hl6⟩ := encM_len he
   refine V.region ?_
   refine V.ru 3 ?_
   refine V.nt ?_
   refine V.condN rfl (by (apply decide_eq_false; omega)) ?_
   refine V.skip ?_
   refine V.tN ?_
   refine V.sr ?_
   refine V.ru 1 ?_
   refine V.call (mdecode_spec F60.sl (fun k hk => by have := hk.2; omega) V.lenA) rfl rfl rfl ?_
   rintro _ w85 ⟨a70, c71, a72, c73, a74, c75, a76, c77, a78, c79, rfl, F80, F81, F82, F83, F84, G86⟩
   have z87 := V.Fr.size G86
   try replace F_oe := F_oe.gr G86
   try replace F_od := F_od.gr G86
   try replace F_oc := F_oc.gr G86
   try replace F_op := F_op.gr G86
   try replace F_or := F_or.gr G86
   try replace F_b := F_b.gr G86
   try replace Fk2 := Fk2.gr G86
   try replace F60 := F60.gr G86
   replace HG := HG.grow G86
   refine V.ru 3 ?_
   refine V.alloc zero43 rfl rfl rfl ?_
   rintro k88 w90 s92 s93 G91 Fk89
   have z94 := V.Fr.size G91
   try replace F_oe := F_oe.gr G91
   try replace F_od := F_od.gr G91
   try replace F_oc := F_oc.gr G91
   try replace F_op := F_op.gr G91
   try replace F_or := F_or.gr G91
   try replace F_b := F_b.gr G91
   try replace Fk2 := Fk2.gr G91
   try replace F60 := F60.gr G91
   try replace F80 := F80.gr G91
   try replace F81 := F81.gr G91
   try replace F82 := F82.gr G91
   try replace F83 := F83.gr G91
   try replace F84 := F84.gr G91
   replace HG := HG.grow G91
   try simp only [V.cellsL, V.spliceL] at Fk89
   refine V.storeO Fk89 rfl rfl rfl rfl sz43 rfl rfl rfl rfl ?_
   rintro w95 G96 z98 Fs97
   clear Fk89
   have z99 := V.Fr.size G96
   try replace F_oe := F_oe.mb G96 hD_oe
   try replace F_od := F_od.mb G96 hD_od
   try replace F_oc := F_oc.mb G96 hD_oc
   try replace F_op := F_op.mb G96 hD_op
   try replace F_or := F_or.mb G96 hD_or
   try replace F_b := F_b.mb G96 hD_b
   try replace Fk2 := Fk2.ma G96
   try replace F60 := F60.ma G96
   try replace F80 := F80.ma G96
   try replace F81 := F81.ma G96
   try replace F82 := F82.ma G96
   try replace F83 := F83.ma G96
   try replace F84 := F84.ma G96
   replace HG := HG.n1 G96
   have Fk89 := Fs97; clear Fs97
   simp only [V.spliceL, V.cellsL] at Fk89
   refine V.ru 1 ?_
   refine V.nt ?_
   refine V.sr ?_
   refine V.ru 2 ?_
   refine V.nt ?_
   refine V.seqJ (fun e v101 => Fr [] w v101 ∧ w95.heap.size ≤ v101.heap.size ∧ Sl V.Cod.ent v101 D_oe a_oe c_oe mm.es ∧ Sl V.Cod.byte v101 D_od a_od c_od mm.da ∧ Sl V.Cod.write v101 D_oc a_oc c_oc mm.c.ws ∧ Sl (V.Cod.pair V.Cod.str V.Cod.str) v101 D_op a_op c_op mm.r.ps ∧ Sl V.Cod.write v101 D_or a_or c_or mm.r.rc.ws ∧ Sl V.Cod.byte v101 D_b a_b c_b b ∧ Cells v101 k1 [.int .i64 mm.kd, .int .i64 mm.fr, .int .i64 mm.to, .int .i64 mm.rg, .int .i64 mm.te, .int .i64 mm.ix, .int .i64 mm.lt, .int .i64 mm.co, .bool mm.ok, .slice a_oe mm.es.length c_oe, .slice a_od mm.da.length c_od, .int .i64 mm.nw, .int .i64 mm.nl, .int .i64 mm.c.kd, .int .i64 mm.c.id, .int .i64 mm.c.le, .int .i64 mm.c.nd, .int .i64 mm.c.ti, .int .i64 mm.c.te, .string mm.c.an, .int .i64 mm.c.sw, .int .i64 mm.c.sl, .int .i64 mm.c.sq, .string mm.c.fr, .string mm.c.to, .string mm.c.va, .bool mm.c.go, .int .i64 mm.c.aw, .int .i64 mm.c.al, .int .i64 mm.c.lw, .int .i64 mm.c.ll, .bool mm.c.cm, .bool mm.c.st, .slice a_oc mm.c.ws.length c_oc, .int .i64 mm.c.pr, .int .i64 mm.r.er, .int .i64 mm.r.aw, .int .i64 mm.r.al, .slice a_op mm.r.ps.length c_op, .bool mm.r.fo, .int .i64 mm.r.ti, .int .i64 mm.r.te, .string mm.r.an, .int .i64 mm.r.sw, .int .i64 mm.r.sl, .int .i64 mm.r.rc.id, .int .i64 mm.r.rc.ep, .int .i64 mm.r.rc.st, .int .i64 mm.r.rc.aw, .int .i64 mm.r.rc.al, .int .i64 mm.r.rc.bw, .int .i64 mm.r.rc.bl, .slice a_or mm.r.rc.ws.length c_or] 43 ∧ V.Row V.Cod.byte 5 v101 V.None' v47.heap.size w61.heap.size a58 c59 (encM mm) ∧ V.Row V.Cod.ent 56 v101 V.None' w61.heap.size w85.heap.size a70 c71 (((decMsg (encM mm)).getD msgZ).es) ∧ Sl V.Cod.byte v101 (V.In w61.heap.size w85.heap.size) a72 c73 (((decMsg (encM mm)).getD msgZ).da) ∧ V.Row V.Cod.write 60 v101 V.None' w61.heap.size w85.heap.size a74 c75 (((decMsg (encM mm)).getD msgZ).c.ws) ∧ V.Row (V.Cod.pair V.Cod.str V.Cod.str) 58 v101 V.None' w61.heap.size w85.heap.size a76 c77 (((decMsg (encM mm)).getD msgZ).r.ps) ∧ Sl V.Cod.write v101 (V.In w61.heap.size w85.heap.size) a78 c79 (((decMsg (encM mm)).getD msgZ).r.rc.ws) ∧ Cells v101 k88 [.int .i64 (((decMsg (encM mm)).getD msgZ).kd), .int .i64 (((decMsg (encM mm)).getD msgZ).fr), .int .i64 (((decMsg (encM mm)).getD msgZ).to), .int .i64 (((decMsg (encM mm)).getD msgZ).rg), .int .i64 (((decMsg (encM mm)).getD msgZ).te), .int .i64 (((decMsg (encM mm)).getD msgZ).ix), .int .i64 (((decMsg (encM mm)).getD msgZ).lt), .int .i64 (((decMsg (encM mm)).getD msgZ).co), .bool (((decMsg (encM mm)).getD msgZ).ok), .slice a70 (((decMsg (encM mm)).getD msgZ).es).length c71, .slice a72 (((decMsg (encM mm)).getD msgZ).da).length c73, .int .i64 (((decMsg (encM mm)).getD msgZ).nw), .int .i64 (((decMsg (encM mm)).getD msgZ).nl), .int .i64 (((decMsg (encM mm)).getD msgZ).c.kd), .int .i64 (((decMsg (encM mm)).getD msgZ).c.id), .int .i64 (((decMsg (encM mm)).getD msgZ).c.le), .int .i64 (((decMsg (encM mm)).getD msgZ).c.nd), .int .i64 (((decMsg (encM mm)).getD msgZ).c.ti), .int .i64 (((decMsg (encM mm)).getD msgZ).c.te), .string (((decMsg (encM mm)).getD msgZ).c.an), .int .i64 (((decMsg (encM mm)).getD msgZ).c.sw), .int .i64 (((decMsg (encM mm)).getD msgZ).c.sl), .int .i64 (((decMsg (encM mm)).getD msgZ).c.sq), .string (((decMsg (encM mm)).getD msgZ).c.fr), .string (((decMsg (encM mm)).getD msgZ).c.to), .string (((decMsg (encM mm)).getD msgZ).c.va), .bool (((decMsg (encM mm)).getD msgZ).c.go), .int .i64 (((decMsg (encM mm)).getD msgZ).c.aw), .int .i64 (((decMsg (encM mm)).getD msgZ).c.al), .int .i64 (((decMsg (encM mm)).getD msgZ).c.lw), .int .i64 (((decMsg (encM mm)).getD msgZ).c.ll), .bool (((decMsg (encM mm)).getD msgZ).c.cm), .bool (((decMsg (encM mm)).getD msgZ).c.st), .slice a74 (((decMsg (encM mm)).getD msgZ).c.ws).length c75, .int .i64 (((decMsg (encM mm)).getD msgZ).c.pr), .int .i64 (((decMsg (encM mm)).getD msgZ).r.er), .int .i64 (((decMsg (encM mm)).getD msgZ).r.aw), .int .i64 (((decMsg (encM mm)).getD msgZ).r.al), .slice a76 (((decMsg (encM mm)).getD msgZ).r.ps).length c77, .bool (((decMsg (encM mm)).getD msgZ).r.fo), .int .i64 (((decMsg (encM mm)).getD msgZ).r.ti), .int .i64 (((decMsg (encM mm)).getD msgZ).r.te), .string (((decMsg (encM mm)).getD msgZ).r.an), .int .i64 (((decMsg (encM mm)).getD msgZ).r.sw), .int .i64 (((decMsg (encM mm)).getD msgZ).r.sl), .int .i64 (((decMsg (encM mm)).getD msgZ).r.rc.id), .int .i64 (((decMsg (encM mm)).getD msgZ).r.rc.ep), .int .i64 (((decMsg (encM mm)).getD msgZ).r.rc.st), .int .i64 (((decMsg (encM mm)).getD msgZ).r.rc.aw), .int .i64 (((decMsg (encM mm)).getD msgZ).r.rc.al), .int .i64 (((decMsg (encM mm)).getD msgZ).r.rc.bw), .int .i64 (((decMsg (encM mm)).getD msgZ).r.rc.bl), .slice a78 (((decMsg (encM mm)).getD msgZ).r.rc.ws).length c79] 43 ∧ ∃ (kk : Int), (0 ≤ kk ∧ kk ≤ 9223372036854775807) ∧ e 3 = .pointer (some ⟨k1, 0, none⟩) ∧ e 12 = .slice a58 (encM mm).length c59 ∧ e 14 = .pointer (some ⟨k88, 0, none⟩) ∧ e 15 = .int .i64 (if (decMsg (encM mm)).isSome = true then (0 : Int) else 181) ∧ e 16 = .int .i64 kk ∧ True) ?_ ?_
   ·
    refine V.sr ?_
    refine V.ru 2 ?_
    refine V.nt ?_
    refine V.condT rfl (fun h16 => ?_) (fun h16 => ?_)
    ·
     try replace h16 := V.dec h16
     try simp only [V.mk] at h16
     refine V.region ?_
     refine V.ru 1 ?_
     refine V.addN rfl rfl rfl rfl rfl V.lenA V.lenA ?_
     refine V.ru 1 ?_
     rw [V.wrap_in (x := 0 - (at_ + 1)) (by omega) (by omega)]
     refine V.ru 1 ?_
     refine V.nt ?_
     exact ⟨HG, (by omega), F_oe, F_od, F_oc, F_op, F_or, F_b, Fk2, F60, F80, F81, F82, F83, F84, Fk89, (0 - (at_ + 1)), ⟨by omega, by omega⟩, rfl, rfl, rfl, rfl, (congrArg (Value.int .i64) (by rfl)), trivial⟩
    ·
     try replace h16 := V.dec h16
     try simp only [V.mk] at h16
     refine V.skip ?_
     refine V.tN ?_
     exact ⟨HG, (by omega), F_oe, F_od, F_oc, F_op, F_or, F_b, Fk2, F60, F80, F81, F82, F83, F84, Fk89, at_, ⟨by omega, by omega⟩, rfl, rfl, rfl, rfl, (congrArg (Value.int .i64) (by rfl)), trivial⟩
   clear HG F_oe F_od F_oc F_op F_or F_b Fk2 F60 F80 F81 F82 F83 F84 Fk89
   rintro e v101 ⟨HG, z102, F_oe, F_od, F_oc, F_op, F_or, F_b, Fk2, F60, F80, F81, F82, F83, F84, Fk89, kk, hkk, hjn100_3, hjn100_12, hjn100_14, hjn100_15, hjn100_16, -⟩
   refine V.knownC (t := 3) hjn100_3 ?_
   refine V.knownC (t := 12) hjn100_12 ?_
   refine V.knownC (t := 14) hjn100_14 ?_
   refine V.knownC (t := 15) hjn100_15 ?_
   refine V.knownC (t := 16) hjn100_16 ?_
   refine V.sr ?_
   refine V.ru 4 ?_
   refine V.remN rfl rfl rfl rfl rfl (by omega) (by omega) ?_
   obtain ⟨r1, hr1, hr1a, hr1b⟩ : ∃ r1 : Int, kk % ((encM mm).length : Int) = r1 ∧ 0 ≤ r1 ∧ r1 < ((encM mm).length : Int) := ⟨_, rfl, Int.emod_nonneg _ (by omega), Int.emod_lt_of_pos _ (by omega)⟩
   rw [hr1]
   refine V.cutL T_ok F60.sl rfl rfl sz5 rfl rfl rfl rfl V.lenA V.lenA (fun a103 F105 => ?_)
   refine V.call (mdecode_spec F105 (fun k hk => by have := hk.2; omega) V.lenA) rfl rfl rfl ?_
   rintro _ w121 ⟨a106, c107, a108, c109, a110, c111, a112, c113, a114, c115, rfl, F116, F117, F118, F119, F120, G122⟩
   have z123 := V.Fr.size G122
   try replace F_oe := F_oe.gr G122
   try replace F_od := F_od.gr G122
   try replace F_oc := F_oc.gr G122
   try replace F_op := F_op.gr G122
   try replace F_or := F_or.gr G122
   try replace F_b := F_b.gr G122
   try replace Fk2 := Fk2.gr G122
   try replace F60 := F60.gr G122
   try replace F80 := F80.gr G122
   try replace F81 := F81.gr G122
   try replace F82 := F82.gr G122
   try replace F83 := F83.gr G122
   try replace F84 := F84.gr G122
   try replace Fk89 := Fk89.gr G122
   try replace F105 := F105.gr G122
   replace HG := HG.grow G122
   refine V.ru 3 ?_
   refine V.alloc zero43 rfl rfl rfl ?_
   rintro k124 w126 s128 s129 G127 Fk125
   have z130 := V.Fr.size G127
   try replace F_oe := F_oe.gr G127
   try replace F_od := F_od.gr G127
   try replace F_oc := F_oc.gr G127
   try replace F_op := F_op.gr G127
   try replace F_or := F_or.gr G127
   try replace F_b := F_b.gr G127
   try replace Fk2 := Fk2.gr G127
   try replace F60 := F60.gr G127
   try replace F80 := F80.gr G127
   try replace F81 := F81.gr G127
   try replace F82 := F82.gr G127
   try replace F83 := F83.gr G127
   try replace F84 := F84.gr G127
   try replace Fk89 := Fk89.gr G127
   try replace F105 := F105.gr G127
   try replace F116 := F116.gr G127
   try replace F117 := F117.gr G127
   try replace F118 := F118.gr G127
   try replace F119 := F119.gr G127
   try replace F120 := F120.gr G127
   replace HG := HG.grow G127
   try simp only [V.cellsL, V.spliceL] at Fk125
   refine V.storeO Fk125 rfl rfl rfl rfl sz43 rfl rfl rfl rfl ?_
   rintro w131 G132 z134 Fs133
   clear Fk125
   have z135 := V.Fr.size G132
   try replace F_oe := F_oe.mb G132 hD_oe
   try replace F_od := F_od.mb G132 hD_od
   try replace F_oc := F_oc.mb G132 hD_oc
   try replace F_op := F_op.mb G132 hD_op
   try replace F_or := F_or.mb G132 hD_or
   try replace F_b := F_b.mb G132 hD_b
   try replace Fk2 := Fk2.ma G132
   try replace F60 := F60.ma G132
   try replace F80 := F80.ma G132
   try replace F81 := F81.ma G132
   try replace F82 := F82.ma G132
   try replace F83 := F83.ma G132
   try replace F84 := F84.ma G132
   try replace Fk89 := Fk89.ma G132
   try replace F105 := F105.ma G132
   try replace F116 := F116.ma G132
   try replace F117 := F117.ma G132
   try replace F118 := F118.ma G132
   try replace F119 := F119.ma G132
   try replace F120 := F120.ma G132
   replace HG := HG.n1 G132
   have Fk125 := Fs133; clear Fs133
   simp only [V.spliceL, V.cellsL] at Fk125
   refine V.ru 1 ?_
   refine V.nt ?_
   refine V.sr ?_
   refine V.mkSlice T_ok zero5 rfl rfl sz5 rfl rfl rfl rfl rfl rfl ?_
   rintro k136 w139 s141 s142 G140 Fk137
   have z143 := V.Fr.size G140
   try replace F_oe := F_oe.gr G140
   try replace F_od := F_od.gr G140
   try replace F_oc := F_oc.gr G140
   try replace F_op := F_op.gr G140
   try replace F_or := F_or.gr G140
   try replace F_b := F_b.gr G140
   try replace Fk2 := Fk2.gr G140
   try replace F60 := F60.gr G140
   try replace F80 := F80.gr G140
   try replace F81 := F81.gr G140
   try replace F82 := F82.gr G140
   try replace F83 := F83.gr G140
   try replace F84 := F84.gr G140
   try replace Fk89 := Fk89.gr G140
   try replace F105 := F105.gr G140
   try replace F116 := F116.gr G140
   try replace F117 := F117.gr G140
   try replace F118 := F118.gr G140
   try replace F119 := F119.gr G140
   try replace F120 := F120.gr G140
   try replace Fk125 := Fk125.gr G140
   replace HG := HG.grow G140
   have F138 := V.rowOfB (xs := ([] : List UInt8)) Fk137 rfl rfl
   clear Fk137
   refine V.ru 1 ?_
   refine V.appendR (F138) (V.From.flat V.flat_byte (D' := V.None') (F60.sl.from Try.underlying24)) elT24_24 rfl rfl rfl rfl rfl V.lenA (by unfold maxLen; first | omega | (simp only [List.length_take, List.length_drop, List.length_append, List.length_cons, List.length_nil, List.length_replicate, List.length_set, V.length_data, V.S_size]; omega)) (by omega) (by omega) (fun _ h => h.elim) (fun _ h => h.elim) ?_
   rintro a144 c145 w147 G148 s149 F146
   clear F138
   have z150 := Go.RowKit.Below.size G148
   first | replace F_oe := V.Sl.bl F_oe G148 (by first | exact (fun _ h => by have := h.2; omega) | (intro k h; have := hD_oe k h; omega)) | clear F_oe | skip
   first | replace F_od := V.Sl.bl F_od G148 (by first | exact (fun _ h => by have := h.2; omega) | (intro k h; have := hD_od k h; omega)) | clear F_od | skip
   first | replace F_oc := V.Sl.bl F_oc G148 (by first | exact (fun _ h => by have := h.2; omega) | (intro k h; have := hD_oc k h; omega)) | clear F_oc | skip
   first | replace F_op := V.Sl.bl F_op G148 (by first | exact (fun _ h => by have := h.2; omega) | (intro k h; have := hD_op k h; omega)) | clear F_op | skip
   first | replace F_or := V.Sl.bl F_or G148 (by first | exact (fun _ h => by have := h.2; omega) | (intro k h; have := hD_or k h; omega)) | clear F_or | skip
   first | replace F_b := V.Sl.bl F_b G148 (by first | exact (fun _ h => by have := h.2; omega) | (intro k h; have := hD_b k h; omega)) | clear F_b | skip
   first | replace Fk2 := V.Cells.bl Fk2 G148 (by omega) | clear Fk2 | skip
   try replace F60 := F60.bm G148
   try replace F80 := F80.bm G148
   first | replace F81 := V.Sl.bl F81 G148 (by first | exact (fun _ h => by have := h.2; omega) | (intro k h; have := hD k h; omega)) | clear F81 | skip
   try replace F82 := F82.bm G148
   try replace F83 := F83.bm G148
   first | replace F84 := V.Sl.bl F84 G148 (by first | exact (fun _ h => by have := h.2; omega) | (intro k h; have := hD k h; omega)) | clear F84 | skip
   first | replace Fk89 := V.Cells.bl Fk89 G148 (by omega) | clear Fk89 | skip
   first | replace F105 := V.Sl.bl F105 G148 (by first | exact (fun _ h => by have := h.2; omega) | (intro k h; have := hD k h; omega)) | clear F105 | skip
   try replace F116 := F116.bm G148
   first | replace F117 := V.Sl.bl F117 G148 (by first | exact (fun _ h => by have := h.2; omega) | (intro k h; have := hD k h; omega)) | clear F117 | skip
   try replace F118 := F118.bm G148
   try replace F119 := F119.bm G148
   first | replace F120 := V.Sl.bl F120 G148 (by first | exact (fun _ h => by have := h.2; omega) | (intro k h; have := hD k h; omega)) | clear F120 | skip
   first | replace Fk125 := V.Cells.bl Fk125 G148 (by omega) | clear Fk125 | skip
   replace HG := HG.bl (Go.RowKit.Below.mono G148 (by omega))
   rw [List.nil_append] at F146 ⊢
   refine V.mkSlice T_ok zero5 rfl rfl sz5 rfl rfl rfl rfl rfl rfl ?_
   rintro k151 w154 s156 s157 G155 Fk152
   have z158 := V.Fr.size G155
   try replace F_oe := F_oe.gr G155
   try replace F_od := F_od.gr G155
   try replace F_oc := F_oc.gr G155
   try replace F_op := F_op.gr G155
   try replace F_or := F_or.gr G155
   try replace F_b := F_b.gr G155
   try replace Fk2 := Fk2.gr G155
   try replace F60 := F60.gr G155
   try replace F80 := F80.gr G155
   try replace F81 := F81.gr G155
   try replace F82 := F82.gr G155
   try replace F83 := F83.gr G155
   try replace F84 := F84.gr G155
   try replace Fk89 := Fk89.gr G155
   try replace F105 := F105.gr G155
   try replace F116 := F116.gr G155
   try replace F117 := F117.gr G155
   try replace F118 := F118.gr G155
   try replace F119 := F119.gr G155
   try replace F120 := F120.gr G155
   try replace Fk125 := Fk125.gr G155
   try replace F146 := F146.gr G155
   replace HG := HG.grow G155
   have F153 := V.rowOfB (xs := ([0] : List UInt8)) Fk152 rfl rfl
   clear Fk152
   refine V.appendR (F146) (V.From.flat V.flat_byte (D' := V.None') (F153.sl.from Try.underlying24)) elT24_24 rfl rfl rfl rfl rfl V.lenA (by unfold maxLen; first | omega | (simp only [List.length_take, List.length_drop, List.length_append, List.length_cons, List.length_nil, List.length_replicate, List.length_set, V.length_data, V.S_size]; omega)) (by omega) (by omega) (fun _ h => h.elim) (fun _ h => h.elim) ?_
   rintro a159 c160 w162 G163 s164 F161
   clear F146
   clear F153
   have z165 := Go.RowKit.Below.size G163
   first | replace F_oe := V.Sl.bl F_oe G163 (by first | exact (fun _ h => by have := h.2; omega) | (intro k h; have := hD_oe k h; omega)) | clear F_oe | skip
   first | replace F_od := V.Sl.bl F_od G163 (by first | exact (fun _ h => by have := h.2; omega) | (intro k h; have := hD_od k h; omega)) | clear F_od | skip
   first | replace F_oc := V.Sl.bl F_oc G163 (by first | exact (fun _ h => by have := h.2; omega) | (intro k h; have := hD_oc k h; omega)) | clear F_oc | skip
   first | replace F_op := V.Sl.bl F_op G163 (by first | exact (fun _ h => by have := h.2; omega) | (intro k h; have := hD_op k h; omega)) | clear F_op | skip
   first | replace F_or := V.Sl.bl F_or G163 (by first | exact (fun _ h => by have := h.2; omega) | (intro k h; have := hD_or k h; omega)) | clear F_or | skip
   first | replace F_b := V.Sl.bl F_b G163 (by first | exact (fun _ h => by have := h.2; omega) | (intro k h; have := hD_b k h; omega)) | clear F_b | skip
   first | replace Fk2 := V.Cells.bl Fk2 G163 (by omega) | clear Fk2 | skip
   try replace F60 := F60.bm G163
   try replace F80 := F80.bm G163
   first | replace F81 := V.Sl.bl F81 G163 (by first | exact (fun _ h => by have := h.2; omega) | (intro k h; have := hD k h; omega)) | clear F81 | skip
   try replace F82 := F82.bm G163
   try replace F83 := F83.bm G163
   first | replace F84 := V.Sl.bl F84 G163 (by first | exact (fun _ h => by have := h.2; omega) | (intro k h; have := hD k h; omega)) | clear F84 | skip
   first | replace Fk89 := V.Cells.bl Fk89 G163 (by omega) | clear Fk89 | skip
   first | replace F105 := V.Sl.bl F105 G163 (by first | exact (fun _ h => by have := h.2; omega) | (intro k h; have := hD k h; omega)) | clear F105 | skip
   try replace F116 := F116.bm G163
   first | replace F117 := V.Sl.bl F117 G163 (by first | exact (fun _ h => by have := h.2; omega) | (intro k h; have := hD k h; omega)) | clear F117 | skip
   try replace F118 := F118.bm G163
   try replace F119 := F119.bm G163
   first | replace F120 := V.Sl.bl F120 G163 (by first | exact (fun _ h => by have := h.2; omega) | (intro k h; have := hD k h; omega)) | clear F120 | skip
   first | replace Fk125 := V.Cells.bl Fk125 G163 (by omega) | clear Fk125 | skip
   replace HG := HG.bl (Go.RowKit.Below.mono G163 (by omega))
   refine V.call (mdecode_spec F161.sl (fun k hk => by have := hk.2; omega) V.lenA) rfl rfl rfl ?_
   rintro _ w181 ⟨a166, c167, a168, c169, a170, c171, a172, c173, a174, c175, rfl, F176, F177, F178, F179, F180, G182⟩
   have z183 := V.Fr.size G182
   try replace F_oe := F_oe.gr G182
   try replace F_od := F_od.gr G182
   try replace F_oc := F_oc.gr G182
   try replace F_op := F_op.gr G182
   try replace F_or := F_or.gr G182
   try replace F_b := F_b.gr G182
   try replace Fk2 := Fk2.gr G182
   try replace F60 := F60.gr G182
   try replace F80 := F80.gr G182
   try replace F81 := F81.gr G182
   try replace F82 := F82.gr G182
   try replace F83 := F83.gr G182
   try replace F84 := F84.gr G182
   try replace Fk89 := Fk89.gr G182
   try replace F105 := F105.gr G182
   try replace F116 := F116.gr G182
   try replace F117 := F117.gr G182
   try replace F118 := F118.gr G182
   try replace F119 := F119.gr G182
   try replace F120 := F120.gr G182
   try replace Fk125 := Fk125.gr G182
   try replace F161 := F161.gr G182
   replace HG := HG.grow G182
   refine V.ru 3 ?_
   refine V.alloc zero43 rfl rfl rfl ?_
   rintro k184 w186 s188 s189 G187 Fk185
   have z190 := V.Fr.size G187
   try replace F_oe := F_oe.gr G187
   try replace F_od := F_od.gr G187
   try replace F_oc := F_oc.gr G187
   try replace F_op := F_op.gr G187
   try replace F_or := F_or.gr G187
   try replace F_b := F_b.gr G187
   try replace Fk2 := Fk2.gr G187
   try replace F60 := F60.gr G187
   try replace F80 := F80.gr G187
   try replace F81 := F81.gr G187
   try replace F82 := F82.gr G187
   try replace F83 := F83.gr G187
   try replace F84 := F84.gr G187
   try replace Fk89 := Fk89.gr G187
   try replace F105 := F105.gr G187
   try replace F116 := F116.gr G187
   try replace F117 := F117.gr G187
   try replace F118 := F118.gr G187
   try replace F119 := F119.gr G187
   try replace F120 := F120.gr G187
   try replace Fk125 := Fk125.gr G187
   try replace F161 := F161.gr G187
   try replace F176 := F176.gr G187
   try replace F177 := F177.gr G187
   try replace F178 := F178.gr G187
   try replace F179 := F179.gr G187
   try replace F180 := F180.gr G187
   replace HG := HG.grow G187
   try simp only [V.cellsL, V.spliceL] at Fk185
   refine V.storeO Fk185 rfl rfl rfl rfl sz43 rfl rfl rfl rfl ?_
   rintro w191 G192 z194 Fs193
   clear Fk185
   have z195 := V.Fr.size G192
   try replace F_oe := F_oe.mb G192 hD_oe
   try replace F_od := F_od.mb G192 hD_od
   try replace F_oc := F_oc.mb G192 hD_oc
   try replace F_op := F_op.mb G192 hD_op
   try replace F_or := F_or.mb G192 hD_or
   try replace F_b := F_b.mb G192 hD_b
   try replace Fk2 := Fk2.ma G192
   try replace F60 := F60.ma G192
   try replace F80 := F80.ma G192
   try replace F81 := F81.ma G192
   try replace F82 := F82.ma G192
   try replace F83 := F83.ma G192
   try replace F84 := F84.ma G192
   try replace Fk89 := Fk89.ma G192
   try replace F105 := F105.ma G192
   try replace F116 := F116.ma G192
   try replace F117 := F117.ma G192
   try replace F118 := F118.ma G192
   try replace F119 := F119.ma G192
   try replace F120 := F120.ma G192
   try replace Fk125 := Fk125.ma G192
   try replace F161 := F161.ma G192
   try replace F176 := F176.ma G192
   try replace F177 := F177.ma G192
   try replace F178 := F178.ma G192
   try replace F179 := F179.ma G192
   try replace F180 := F180.ma G192
   replace HG := HG.n1 G192
   have Fk185 := Fs193; clear Fs193
   simp only [V.spliceL, V.cellsL] at Fk185
   refine V.ru 1 ?_
   refine V.nt ?_
   refine V.sr ?_
   refine V.mkSlice T_ok zero5 rfl rfl sz5 rfl rfl rfl rfl rfl rfl ?_
   rintro k196 w199 s201 s202 G200 Fk197
   have z203 := V.Fr.size G200
   try replace F_oe := F_oe.gr G200
   try replace F_od := F_od.gr G200
   try replace F_oc := F_oc.gr G200
   try replace F_op := F_op.gr G200
   try replace F_or := F_or.gr G200
   try replace F_b := F_b.gr G200
   try replace Fk2 := Fk2.gr G200
   try replace F60 := F60.gr G200
   try replace F80 := F80.gr G200
   try replace F81 := F81.gr G200
   try replace F82 := F82.gr G200
   try replace F83 := F83.gr G200
   try replace F84 := F84.gr G200
   try replace Fk89 := Fk89.gr G200
   try replace F105 := F105.gr G200
   try replace F116 := F116.gr G200
   try replace F117 := F117.gr G200
   try replace F118 := F118.gr G200
   try replace F119 := F119.gr G200
   try replace F120 := F120.gr G200
   try replace Fk125 := Fk125.gr G200
   try replace F161 := F161.gr G200
   try replace F176 := F176.gr G200
   try replace F177 := F177.gr G200
   try replace F178 := F178.gr G200
   try replace F179 := F179.gr G200
   try replace F180 := F180.gr G200
   try replace Fk185 := Fk185.gr G200
   replace HG := HG.grow G200
   have F198 := V.rowOfB (xs := ([] : List UInt8)) Fk197 rfl rfl
   clear Fk197
   refine V.ru 1 ?_
   refine V.appendR (F198) (V.From.flat V.flat_byte (D' := V.None') (F60.sl.from Try.underlying24)) elT24_24 rfl rfl rfl rfl rfl V.lenA (by unfold maxLen; first | omega | (simp only [List.length_take, List.length_drop, List.length_append, List.length_cons, List.length_nil, List.length_replicate, List.length_set, V.length_data, V.S_size]; omega)) (by omega) (by omega) (fun _ h => h.elim) (fun _ h => h.elim) ?_
   rintro a204 c205 w207 G208 s209 F206
   clear F198
   have z210 := Go.RowKit.Below.size G208
   first | replace F_oe := V.Sl.bl F_oe G208 (by first | exact (fun _ h => by have := h.2; omega) | (intro k h; have := hD_oe k h; omega)) | clear F_oe | skip
   first | replace F_od := V.Sl.bl F_od G208 (by first | exact (fun _ h => by have := h.2; omega) | (intro k h; have := hD_od k h; omega)) | clear F_od | skip
   first | replace F_oc := V.Sl.bl F_oc G208 (by first | exact (fun _ h => by have := h.2; omega) | (intro k h; have := hD_oc k h; omega)) | clear F_oc | skip
   first | replace F_op := V.Sl.bl F_op G208 (by first | exact (fun _ h => by have := h.2; omega) | (intro k h; have := hD_op k h; omega)) | clear F_op | skip
   first | replace F_or := V.Sl.bl F_or G208 (by first | exact (fun _ h => by have := h.2; omega) | (intro k h; have := hD_or k h; omega)) | clear F_or | skip
   first | replace F_b := V.Sl.bl F_b G208 (by first | exact (fun _ h => by have := h.2; omega) | (intro k h; have := hD_b k h; omega)) | clear F_b | skip
   first | replace Fk2 := V.Cells.bl Fk2 G208 (by omega) | clear Fk2 | skip
   try replace F60 := F60.bm G208
   try replace F80 := F80.bm G208
   first | replace F81 := V.Sl.bl F81 G208 (by first | exact (fun _ h => by have := h.2; omega) | (intro k h; have := hD k h; omega)) | clear F81 | skip
   try replace F82 := F82.bm G208
   try replace F83 := F83.bm G208
   first | replace F84 := V.Sl.bl F84 G208 (by first | exact (fun _ h => by have := h.2; omega) | (intro k h; have := hD k h; omega)) | clear F84 | skip
   first | replace Fk89 := V.Cells.bl Fk89 G208 (by omega) | clear Fk89 | skip
   first | replace F105 := V.Sl.bl F105 G208 (by first | exact (fun _ h => by have := h.2; omega) | (intro k h; have := hD k h; omega)) | clear F105 | skip
   try replace F116 := F116.bm G208
   first | replace F117 := V.Sl.bl F117 G208 (by first | exact (fun _ h => by have := h.2; omega) | (intro k h; have := hD k h; omega)) | clear F117 | skip
   try replace F118 := F118.bm G208
   try replace F119 := F119.bm G208
   first | replace F120 := V.Sl.bl F120 G208 (by first | exact (fun _ h => by have := h.2; omega) | (intro k h; have := hD k h; omega)) | clear F120 | skip
   first | replace Fk125 := V.Cells.bl Fk125 G208 (by omega) | clear Fk125 | skip
   try replace F161 := F161.bm G208
   try replace F176 := F176.bm G208
   first | replace F177 := V.Sl.bl F177 G208 (by first | exact (fun _ h => by have := h.2; omega) | (intro k h; have := hD k h; omega)) | clear F177 | skip
   try replace F178 := F178.bm G208
   try replace F179 := F179.bm G208
   first | replace F180 := V.Sl.bl F180 G208 (by first | exact (fun _ h => by have := h.2; omega) | (intro k h; have := hD k h; omega)) | clear F180 | skip
   first | replace Fk185 := V.Cells.bl Fk185 G208 (by omega) | clear Fk185 | skip
   replace HG := HG.bl (Go.RowKit.Below.mono G208 (by omega))
   rw [List.nil_append] at F206 ⊢
   refine V.ru 1 ?_
   refine V.nt ?_
   refine V.sr ?_
   refine V.ru 3 ?_
   refine V.mulN rfl rfl rfl rfl rfl V.lenA V.lenA ?_
   refine V.subN rfl rfl rfl rfl rfl V.lenA V.lenA ?_
   refine V.remN rfl rfl rfl rfl rfl (by omega) (by omega) ?_
   obtain ⟨r2, hr2, hr2a, hr2b⟩ : ∃ r2 : Int, kk % (8 * ((encM mm).length : Int) - 64) = r2 ∧ 0 ≤ r2 ∧ r2 < 8 * ((encM mm).length : Int) - 64 := ⟨_, rfl, Int.emod_nonneg _ (by omega), Int.emod_lt_of_pos _ (by omega)⟩
   rw [hr2]
   refine V.addN rfl rfl rfl rfl rfl V.lenA V.lenA ?_
   refine V.ru 1 ?_
   refine V.nt ?_
   refine V.sr ?_
   refine V.ru 2 ?_
   first | refine V.quoN rfl rfl rfl rfl rfl V.lenA V.lenA V.lenA ?_ | refine V.run T_ok 1 rfl ?_
   refine V.ru 2 ?_
   first | refine V.quoN rfl rfl rfl rfl rfl V.lenA V.lenA V.lenA ?_ | refine V.run T_ok 1 rfl ?_
   obtain ⟨g216, hg216l, hg216u, F217⟩ := V.Row.own1 V.flat_byte F206 V.lenA
   clear F206
   refine V.elemO' T_ok F217 (by first | rfl | (first | omega | (simp only [List.length_take, List.length_drop, List.length_append, List.length_cons, List.length_nil, List.length_replicate, List.length_set, V.length_data, V.S_size]; omega))) rfl rfl sz5 rfl rfl rfl rfl V.lenA V.lenA ?_
   rintro hx212
   obtain ⟨cs215, hR213, hA214⟩ := V.Own.el F217 hx212
   obtain ⟨x211, hx211⟩ : ∃ z', (encM mm)[((64 + r2) / 8).toNat] = z' := ⟨_, rfl⟩
   rw [hx211] at hR213
   obtain rfl := hR213
   try simp only [Int.toNat_natCast] at hx211 hx212
   refine V.loadA T_ok (o0 := ((64 + r2) / 8).toNat * V.Cod.byte.sz) (off := 0) hA214 rfl rfl rfl rfl rfl ?_
   refine V.ru 1 ?_
   first | refine V.remN rfl rfl rfl rfl rfl V.lenA V.lenA ?_ | refine V.run T_ok 1 rfl ?_
   first | refine V.cnvN T_ok rfl rfl rfl rfl rfl rfl (V.wrap_u64 (by omega) (by omega)) ?_ | refine V.run T_ok 1 rfl ?_
   refine V.shlN rfl rfl rfl rfl rfl V.lenA ?_
   refine V.ru 1 ?_
   refine V.elemO' T_ok F217 (by first | rfl | (first | omega | (simp only [List.length_take, List.length_drop, List.length_append, List.length_cons, List.length_nil, List.length_replicate, List.length_set, V.length_data, V.S_size]; omega))) rfl rfl sz5 rfl rfl rfl rfl V.lenA V.lenA ?_
   rintro hx219
   obtain ⟨cs222, hR220, hA221⟩ := V.Own.el F217 hx219
   obtain ⟨x218, hx218⟩ : ∃ z', (encM mm)[((64 + r2) / 8).toNat] = z' := ⟨_, rfl⟩
   rw [hx218] at hR220
   obtain rfl := hR220
   try simp only [Int.toNat_natCast] at hx218 hx219
   refine V.storeS (D' := V.None') (j := ((64 + r2) / 8).toNat) (x' := (x211 ^^^ UInt8.ofNat (2 ^ ((64 + r2.toNat) % 8)))) V.flat_byte F217 rfl rfl rfl V.lenA rfl (V.cb1 (by rw [show ((64 : Int) + r2) % 8 = (((64 + r2.toNat) % 8 : Nat) : Int) by omega]; exact flip_byte x211 _)) rfl sz5 rfl rfl ?_
   rintro w223 G224 z225 Fnew
   clear F217
   have z226 := V.Fr.size G224
   try replace F_oe := F_oe.mb G224 hD_oe
   try replace F_od := F_od.mb G224 hD_od
   try replace F_oc := F_oc.mb G224 hD_oc
   try replace F_op := F_op.mb G224 hD_op
   try replace F_or := F_or.mb G224 hD_or
   try replace F_b := F_b.mb G224 hD_b
   try replace Fk2 := Fk2.ma G224
   try replace F60 := F60.ma G224
   try replace F80 := F80.ma G224
   try replace F81 := F81.ma G224
   try replace F82 := F82.ma G224
   try replace F83 := F83.ma G224
   try replace F84 := F84.ma G224
   try replace Fk89 := Fk89.ma G224
   try replace F105 := F105.ma G224
   try replace F116 := F116.ma G224
   try replace F117 := F117.ma G224
   try replace F118 := F118.ma G224
   try replace F119 := F119.ma G224
   try replace F120 := F120.ma G224
   try replace Fk125 := Fk125.ma G224
   try replace F161 := F161.ma G224
   try replace F176 := F176.ma G224
   try replace F177 := F177.ma G224
   try replace F178 := F178.ma G224
   try replace F179 := F179.ma G224
   try replace F180 := F180.ma G224
   try replace Fk185 := Fk185.ma G224
   replace HG := HG.n1 G224
   have F217 := Fnew; clear Fnew
   refine V.nt ?_
   refine V.seq ?_
   have hr227 : (encM mm).set (((64 + r2) / 8).toNat) (x211 ^^^ UInt8.ofNat (2 ^ ((64 + r2.toNat) % 8))) = flip1 (encM mm) (64 + r2.toNat) := flip_set (by omega) (by omega) hx211
   rw [hr227] at F217
   clear hr227
   have hfl1 := flip1_len (encM mm) (64 + r2.toNat)
   rw [show (encM mm).length = (flip1 (encM mm) (64 + r2.toNat)).length from hfl1.symm]
   refine V.region ?_
   refine V.ru 1 ?_
   refine V.call (mdecode_spec (V.Row.back F217 hg216l hg216u).sl (fun k hk => by have := hk.2; omega) V.lenA) rfl rfl rfl ?_
   rintro _ w243 ⟨a228, c229, a230, c231, a232, c233, a234, c235, a236, c237, rfl, F238, F239, F240, F241, F242, G244⟩
   have z245 := V.Fr.size G244
   try replace F_oe := F_oe.gr G244
   try replace F_od := F_od.gr G244
   try replace F_oc := F_oc.gr G244
   try replace F_op := F_op.gr G244
   try replace F_or := F_or.gr G244
   try replace F_b := F_b.gr G244
   try replace Fk2 := Fk2.gr G244
   try replace F60 := F60.gr G244
   try replace F80 := F80.gr G244
   try replace F81 := F81.gr G244
   try replace F82 := F82.gr G244
   try replace F83 := F83.gr G244
   try replace F84 := F84.gr G244
   try replace Fk89 := Fk89.gr G244
   try replace F105 := F105.gr G244
   try replace F116 := F116.gr G244
   try replace F117 := F117.gr G244
   try replace F118 := F118.gr G244
   try replace F119 := F119.gr G244
   try replace F120 := F120.gr G244
   try replace Fk125 := Fk125.gr G244
   try replace F161 := F161.gr G244
   try replace F176 := F176.gr G244
   try replace F177 := F177.gr G244
   try replace F178 := F178.gr G244
   try replace F179 := F179.gr G244
   try replace F180 := F180.gr G244
   try replace Fk185 := Fk185.gr G244
   try replace F217 := F217.gr G244
   replace HG := HG.grow G244
   refine V.ru 3 ?_
   refine V.alloc zero43 rfl rfl rfl ?_
   rintro k246 w248 s250 s251 G249 Fk247
   have z252 := V.Fr.size G249
   try replace F_oe := F_oe.gr G249
   try replace F_od := F_od.gr G249
   try replace F_oc := F_oc.gr G249
   try replace F_op := F_op.gr G249
   try replace F_or := F_or.gr G249
   try replace F_b := F_b.gr G249
   try replace Fk2 := Fk2.gr G249
   try replace F60 := F60.gr G249
   try replace F80 := F80.gr G249
   try replace F81 := F81.gr G249
   try replace F82 := F82.gr G249
   try replace F83 := F83.gr G249
   try replace F84 := F84.gr G249
   try replace Fk89 := Fk89.gr G249
   try replace F105 := F105.gr G249
   try replace F116 := F116.gr G249
   try replace F117 := F117.gr G249
   try replace F118 := F118.gr G249
   try replace F119 := F119.gr G249
   try replace F120 := F120.gr G249
   try replace Fk125 := Fk125.gr G249
   try replace F161 := F161.gr G249
   try replace F176 := F176.gr G249
   try replace F177 := F177.gr G249
   try replace F178 := F178.gr G249
   try replace F179 := F179.gr G249
   try replace F180 := F180.gr G249
   try replace Fk185 := Fk185.gr G249
   try replace F217 := F217.gr G249
   try replace F238 := F238.gr G249
   try replace F239 := F239.gr G249
   try replace F240 := F240.gr G249
   try replace F241 := F241.gr G249
   try replace F242 := F242.gr G249
   replace HG := HG.grow G249
   try simp only [V.cellsL, V.spliceL] at Fk247
   refine V.storeO Fk247 rfl rfl rfl rfl sz43 rfl rfl rfl rfl ?_
   rintro w253 G254 z256 Fs255
   clear Fk247
   have z257 := V.Fr.size G254
   try replace F_oe := F_oe.mb G254 hD_oe
   try replace F_od := F_od.mb G254 hD_od
   try replace F_oc := F_oc.mb G254 hD_oc
   try replace F_op := F_op.mb G254 hD_op
   try replace F_or := F_or.mb G254 hD_or
   try replace F_b := F_b.mb G254 hD_b
   try replace Fk2 := Fk2.ma G254
   try replace F60 := F60.ma G254
   try replace F80 := F80.ma G254
   try replace F81 := F81.ma G254
   try replace F82 := F82.ma G254
   try replace F83 := F83.ma G254
   try replace F84 := F84.ma G254
   try replace Fk89 := Fk89.ma G254
   try replace F105 := F105.ma G254
   try replace F116 := F116.ma G254
   try replace F117 := F117.ma G254
   try replace F118 := F118.ma G254
   try replace F119 := F119.ma G254
   try replace F120 := F120.ma G254
   try replace Fk125 := Fk125.ma G254
   try replace F161 := F161.ma G254
   try replace F176 := F176.ma G254
   try replace F177 := F177.ma G254
   try replace F178 := F178.ma G254
   try replace F179 := F179.ma G254
   try replace F180 := F180.ma G254
   try replace Fk185 := Fk185.ma G254
   first | replace F217 := F217.mv1 G254 (by first | exact ⟨by omega, fun h => h⟩) | clear F217 | skip
   try replace F238 := F238.ma G254
   try replace F239 := F239.ma G254
   try replace F240 := F240.ma G254
   try replace F241 := F241.ma G254
   try replace F242 := F242.ma G254
   replace HG := HG.n1 G254
   have Fk247 := Fs255; clear Fs255
   simp only [V.spliceL, V.cellsL] at Fk247
   refine V.ru 1 ?_
   refine V.nt ?_
   refine V.sr ?_
   refine V.call (alive_spec) rfl rfl rfl ?_
   rintro _ w258 ⟨rfl, G259⟩
   have z260 := V.Fr.size G259
   try replace F_oe := F_oe.gr G259
   try replace F_od := F_od.gr G259
   try replace F_oc := F_oc.gr G259
   try replace F_op := F_op.gr G259
   try replace F_or := F_or.gr G259
   try replace F_b := F_b.gr G259
   try replace Fk2 := Fk2.gr G259
   try replace F60 := F60.gr G259
   try replace F80 := F80.gr G259
   try replace F81 := F81.gr G259
   try replace F82 := F82.gr G259
   try replace F83 := F83.gr G259
   try replace F84 := F84.gr G259
   try replace Fk89 := Fk89.gr G259
   try replace F105 := F105.gr G259
   try replace F116 := F116.gr G259
   try replace F117 := F117.gr G259
   try replace F118 := F118.gr G259
   try replace F119 := F119.gr G259
   try replace F120 := F120.gr G259
   try replace Fk125 := Fk125.gr G259
   try replace F161 := F161.gr G259
   try replace F176 := F176.gr G259
   try replace F177 := F177.gr G259
   try replace F178 := F178.gr G259
   try replace F179 := F179.gr G259
   try replace F180 := F180.gr G259
   try replace Fk185 := Fk185.gr G259
   try replace F217 := F217.gr G259
   try replace F238 := F238.gr G259
   try replace F239 := F239.gr G259
   try replace F240 := F240.gr G259
   try replace F241 := F241.gr G259
   try replace F242 := F242.gr G259
   try replace Fk247 := Fk247.gr G259
   replace HG := HG.grow G259
   refine V.ru 5 ?_
   refine V.splitT (j := 5) (t := 145) rfl rfl (by (rw [decM_enc he]; rfl)) ?_
   refine V.yes rfl rfl rfl ?_
   refine V.loadO T_ok Fk89 rfl rfl rfl rfl rfl ?_
   refine V.yes rfl rfl rfl ?_
   refine V.loadO T_ok Fk2 rfl rfl rfl rfl rfl ?_
   refine V.yes rfl rfl rfl ?_
   refine V.call (msame_spec (a := ((decMsg (encM mm)).getD msgZ)) (b := mm) F80.sl (fun k hk => by have := hk.2; omega) F81 (fun k hk => by have := hk.2; omega) F82.sl (fun k hk => by have := hk.2; omega) F83.sl (fun k hk => by have := hk.2; omega) F84 (fun k hk => by have := hk.2; omega) F_oe (fun k hk => by have := hD_oe k hk; omega) F_od (fun k hk => by have := hD_od k hk; omega) F_oc (fun k hk => by have := hD_oc k hk; omega) F_op (fun k hk => by have := hD_op k hk; omega) F_or (fun k hk => by have := hD_or k hk; omega)) rfl rfl rfl ?_
   rintro _ w258_ ⟨rfl, G262⟩
   have z263 := V.Fr.size G262
   try replace F_oe := F_oe.gr G262
   try replace F_od := F_od.gr G262
   try replace F_oc := F_oc.gr G262
   try replace F_op := F_op.gr G262
   try replace F_or := F_or.gr G262
   try replace F_b := F_b.gr G262
   try replace Fk2 := Fk2.gr G262
   try replace F60 := F60.gr G262
   try replace F80 := F80.gr G262
   try replace F81 := F81.gr G262
   try replace F82 := F82.gr G262
   try replace F83 := F83.gr G262
   try replace F84 := F84.gr G262
   try replace Fk89 := Fk89.gr G262
   try replace F105 := F105.gr G262
   try replace F116 := F116.gr G262
   try replace F117 := F117.gr G262
   try replace F118 := F118.gr G262
   try replace F119 := F119.gr G262
   try replace F120 := F120.gr G262
   try replace Fk125 := Fk125.gr G262
   try replace F161 := F161.gr G262
   try replace F176 := F176.gr G262
   try replace F177 := F177.gr G262
   try replace F178 := F178.gr G262
   try replace F179 := F179.gr G262
   try replace F180 := F180.gr G262
   try replace Fk185 := Fk185.gr G262
   try replace F217 := F217.gr G262
   try replace F238 := F238.gr G262
   try replace F239 := F239.gr G262
   try replace F240 := F240.gr G262
   try replace F241 := F241.gr G262
   try replace F242 := F242.gr G262
   try replace Fk247 := Fk247.gr G262
   replace HG := HG.grow G262
   refine V.ru 2 ?_
   refine V.splitT (j := 10) (t := 150) rfl rfl (by (rw [decM_enc he]; exact smM_self mm)) ?_
   refine V.ru 4 ?_
   refine V.splitT (j := 14) (t := 154) rfl rfl (by (rw [decM_cut he (by omega)]; rfl)) ?_
   refine V.ru 4 ?_
   refine V.splitT (j := 18) (t := 158) rfl rfl (by (rw [decM_more he]; rfl)) ?_
   refine V.ru 4 ?_
   refine V.nt ?_
   refine V.ret ?_
   refine V.done rfl ?_
   exact ⟨congrArg Value.bool (by rw [decM_flip he (by omega)]; rfl), HG⟩

end Go.Proofs.Ytooiimhcfgjbgaa
