/- Proved here: walks: what functions of this seat's program return and what they leave of memory, each as a contract. Conditions: stated at each theorem. -/
import Derived.Test.YtkklebdlbmoogaaMcmd6
namespace Go.Proofs.Ytkklebdlbmoogaa
set_option linter.unusedVariables false
set_option linter.unusedSimpArgs false
open Go
open V (Bytes Meets Env Sl Own Gr Fr Cells S)
theorem S_of (s : ByteArray) : S s.data.toList = s := by
  show (⟨s.data.toList.toArray⟩ : ByteArray) = s
  simp
theorem kN_nb {α : Type} {b : Bool} {v : Int} {r : List UInt8} {k : Int → Bool → List UInt8 → α} (h0 : 0 ≤ v) (h1 : v ≤ 1099511627776) : kN b (nb v ++ r) k = k v b r := by
  have e := rdN_num (v := v.toNat) (most := 1099511627776) (by omega) (by omega) r
  rw [Int.toNat_of_nonneg h0] at e
  unfold kN nb; rw [e]; simp
theorem kT_tb {α : Type} {b : Bool} {s : ByteArray} {r : List UInt8} {k : ByteArray → Bool → List UInt8 → α} (h : s.size ≤ 65536) : kT b (tb s ++ r) k = k s b r := by
  have e := rdT_text (s := s.data.toList) (r := r) (most := 65536) (by rw [V.length_data]; omega) (by rw [V.length_data]; omega)
  unfold kT tb; rw [e]; simp [S_of]
theorem kS_st {α : Type} {b : Bool} {x y : Int} {r : List UInt8} {k : Int → Int → Bool → List UInt8 → α} (h : stR x y) : kS b (stB x y ++ r) k = k x y b r := by
  unfold kS; rw [rdS_stB h]; simp
theorem kF_fl {α : Type} {b f : Bool} {r : List UInt8} {k : Bool → Bool → List UInt8 → α} : kF b (flagB f ++ r) k = k f b r := by
  unfold kF; rw [rdF_flag]; simp
theorem wrL_ws : ∀ (ws acc : List (ByteArray × Int)) (r : List UInt8), (∀ x ∈ ws, x.1.size ≤ 65536 ∧ 0 ≤ x.2 ∧ x.2 ≤ 1099511627776) → wrL ws.length false (ws.flatMap wb ++ r) acc = (false, r, acc ++ ws)
  | [], acc, r, _ => by simp [wrL]
  | x :: ws, acc, r, h => by
    have hx := h x (by simp)
    rw [List.length_cons, List.flatMap_cons]
    unfold wrL
    rw [if_neg (by decide), show wb x ++ ws.flatMap wb ++ r = tb x.1 ++ (nb x.2 ++ (ws.flatMap wb ++ r)) by simp [wb, List.append_assoc], kT_tb hx.1, kN_nb hx.2.1 hx.2.2, wrL_ws ws _ r (fun y hy => h y (by simp [hy]))]
    simp
structure LoOk (d : CmdV) : Prop where
  kd : 0 ≤ d.kd
  id : 0 ≤ d.id
  le : 0 ≤ d.le
  nd : 0 ≤ d.nd
  ti : 0 ≤ d.ti
  te : 0 ≤ d.te
  sq : 0 ≤ d.sq
  pr : 0 ≤ d.pr
  s1 : stR d.sw d.sl
  s2 : stR d.aw d.al
  s3 : stR d.lw d.ll
  wn : ∀ x ∈ d.ws, 0 ≤ x.2
theorem cmd_low {d : CmdV} (h : cmdB d = true) : LoOk d := by
  unfold cmdB at h
  simp only [Bool.and_eq_true] at h
  have hk : nK d.kd = true := h.1.1.1.1.1
  have hf : fldB d = true := h.1.1.1.1.2
  unfold nK at hk
  unfold fldB at hf
  simp only [Bool.and_eq_true, Bool.or_eq_true, decide_eq_true_eq] at hf hk
  obtain ⟨⟨⟨⟨⟨⟨⟨h1, h2⟩, h3⟩, h4⟩, h5⟩, h6⟩, h7⟩, h8⟩ := hf
  simp [numsL, nmB] at h1
  simp [stsL, stB2] at h2
  refine ⟨by omega, by omega, by omega, by omega, by omega, by omega, by omega, by omega, ?_, ?_, ?_, ?_⟩
  · exact ⟨by omega, by omega, by omega, by omega⟩
  · exact ⟨by omega, by omega, by omega, by omega⟩
  · exact ⟨by omega, by omega, by omega, by omega⟩
  · intro x hx
    have := List.all_eq_true.1 h3 x hx
    unfold wkB nmB at this
    simp only [Bool.and_eq_true, decide_eq_true_eq] at this
    exact this.2.1
theorem enc_eq (d : CmdV) (r : List UInt8) : encB d ++ r = nb d.kd ++ (nb d.id ++ (nb d.le ++ (nb d.nd ++ (nb d.ti ++ (nb d.te ++ (tb d.an ++ (stB d.sw d.sl ++ (nb d.sq ++ (tb d.fr ++ (tb d.to ++ (tb d.va ++ (flagB d.go ++ (stB d.aw d.al ++ (stB d.lw d.ll ++ (flagB d.cm ++ (flagB d.st ++ (nb d.ws.length ++ (d.ws.flatMap wb ++ (nb d.pr ++ r))))))))))))))))))) := by
  simp [encB, part6, part5, part4, part3, part2, part1, hdL, txL, List.append_assoc]
/-- what is right is read as it was -/
theorem dec_enc {d : CmdV} (h : cmdB d = true) (r : List UInt8) : decAll (encB d ++ r) = (d, false, r) := by
  have hs := cmd_small h
  have hl := cmd_low h
  rw [enc_eq]
  unfold decAll
  rw [kN_nb hl.kd (by have := hs.kd; omega), kN_nb hl.id hs.id, kN_nb hl.le hs.le, kN_nb hl.nd (by have := hs.nd; omega), kN_nb hl.ti hs.ti, kN_nb hl.te hs.te, kT_tb (by have := hs.an; omega), kS_st hl.s1, kN_nb hl.sq hs.sq, kT_tb (by have := hs.fr; omega), kT_tb (by have := hs.to; omega), kT_tb (by have := hs.va; omega), kF_fl, kS_st hl.s2, kS_st hl.s3, kF_fl, kF_fl, kN_nb (by omega) (by have := hs.wl; omega), Int.toNat_natCast,
    wrL_ws d.ws [] _ (fun x hx => ⟨by have := (hs.wn x hx).1; omega, hl.wn x hx, (hs.wn x hx).2⟩)]
  unfold decEnd
  rw [kN_nb hl.pr hs.pr]
  simp
theorem kN_true {α : Type} {f : α → Bool} {d : List UInt8} {k : Int → Bool → List UInt8 → α} (h : ∀ q d', f (k q true d') = true) : f (kN true d k) = true := h _ _
theorem kT_true {α : Type} {f : α → Bool} {d : List UInt8} {k : ByteArray → Bool → List UInt8 → α} (h : ∀ q d', f (k q true d') = true) : f (kT true d k) = true := h _ _
theorem kS_true {α : Type} {f : α → Bool} {d : List UInt8} {k : Int → Int → Bool → List UInt8 → α} (h : ∀ q r d', f (k q r true d') = true) : f (kS true d k) = true := h _ _ _
theorem kF_true {α : Type} {f : α → Bool} {d : List UInt8} {k : Bool → Bool → List UInt8 → α} (h : ∀ q d', f (k q true d') = true) : f (kF true d k) = true := h _ _
theorem kN_inv {α : Type} {f : α → Bool} {b : Bool} {d : List UInt8} {k : Int → Bool → List UInt8 → α} (h : f (kN b d k) = false) (hm : ∀ q d', f (k q true d') = true) : b = false ∧ ∃ v r, 0 ≤ v ∧ d = nb v ++ r ∧ kN b d k = k v false r ∧ f (k v false r) = false := by
  unfold kN at h ⊢
  cases b
  · by_cases he : (rdN d 1099511627776).1.2 = 0
    · obtain ⟨v, r, e, -, -, e2⟩ := rdN_ok he
      rw [e2] at h ⊢
      exact ⟨rfl, (v : Int), r, by omega, by rw [e]; simp [nb], by simp, by simpa using h⟩
    · rw [show (false || decide (¬ (rdN d 1099511627776).1.2 = 0)) = true by simp [he], hm] at h; cases h
  · rw [Bool.true_or, hm] at h; cases h
theorem kT_inv {α : Type} {f : α → Bool} {b : Bool} {d : List UInt8} {k : ByteArray → Bool → List UInt8 → α} (h : f (kT b d k) = false) (hm : ∀ q d', f (k q true d') = true) : b = false ∧ ∃ v r, d = tb v ++ r ∧ kT b d k = k v false r ∧ f (k v false r) = false := by
  unfold kT at h ⊢
  cases b
  · by_cases he : (rdT d 65536).1.2 = 0
    · obtain ⟨v, r, e, -, -, e2⟩ := rdT_ok he
      rw [e2] at h ⊢
      exact ⟨rfl, S v, r, by rw [e]; simp [tb], by simp, by simpa using h⟩
    · rw [show (false || decide (¬ (rdT d 65536).1.2 = 0)) = true by simp [he], hm] at h; cases h
  · rw [Bool.true_or, hm] at h; cases h
theorem kS_inv {α : Type} {f : α → Bool} {b : Bool} {d : List UInt8} {k : Int → Int → Bool → List UInt8 → α} (h : f (kS b d k) = false) (hm : ∀ q r d', f (k q r true d') = true) : b = false ∧ ∃ x y r, d = stB x y ++ r ∧ kS b d k = k x y false r ∧ f (k x y false r) = false := by
  unfold kS at h ⊢
  cases b
  · by_cases he : (rdS d).1.2 = 0
    · obtain ⟨x, y, r, e, -, e2⟩ := rdS_ok he
      rw [e2] at h ⊢
      exact ⟨rfl, x, y, r, e, by simp, by simpa using h⟩
    · rw [show (false || decide (¬ (rdS d).1.2 = 0)) = true by simp [he], hm] at h; cases h
  · rw [Bool.true_or, hm] at h; cases h
theorem kF_inv {α : Type} {f : α → Bool} {b : Bool} {d : List UInt8} {k : Bool → Bool → List UInt8 → α} (h : f (kF b d k) = false) (hm : ∀ q d', f (k q true d') = true) : b = false ∧ ∃ v r, d = flagB v ++ r ∧ kF b d k = k v false r ∧ f (k v false r) = false := by
  unfold kF at h ⊢
  cases b
  · by_cases he : (rdF d).1.2 = 0
    · obtain ⟨v, r, e, e2⟩ := rdF_ok he
      rw [e2] at h ⊢
      exact ⟨rfl, v, r, e, by simp, by simpa using h⟩
    · rw [show (false || decide (¬ (rdF d).1.2 = 0)) = true by simp [he], hm] at h; cases h
  · rw [Bool.true_or, hm] at h; cases h
abbrev bdC (x : CmdV × Bool × List UInt8) : Bool := x.2.1
abbrev bdW (x : Bool × List UInt8 × List (ByteArray × Int)) : Bool := x.1
theorem wrL_true (n : Nat) (d : List UInt8) (acc : List (ByteArray × Int)) : wrL n true d acc = (true, d, acc) := by cases n <;> rfl
theorem wrL_inv : ∀ (n : Nat) (b : Bool) (d : List UInt8) (acc : List (ByteArray × Int)), (wrL n b d acc).1 = false → b = false ∧ ∃ ws r, ws.length = n ∧ d = ws.flatMap wb ++ r ∧ wrL n b d acc = (false, r, acc ++ ws)
  | 0, b, d, acc, h => by
    have hb : b = false := h
    exact ⟨hb, [], d, rfl, by simp, by simp [wrL, hb]⟩
  | n + 1, b, d, acc, h => by
    cases b
    · have e0 : wrL (n + 1) false d acc = kT false d fun tx b d => kN b d fun sq b d => wrL n b d (acc ++ [(tx, sq)]) := rfl
      rw [e0] at h ⊢
      obtain ⟨-, tx, r1, rfl, e1, h1⟩ := kT_inv (f := bdW) h (fun _ _ => kN_true (f := bdW) fun _ _ => by rw [wrL_true])
      obtain ⟨-, sq, r2, -, rfl, e2, h2⟩ := kN_inv (f := bdW) h1 (fun _ _ => by rw [wrL_true])
      obtain ⟨-, ws, r, hl, rfl, e3⟩ := wrL_inv n _ _ _ h2
      refine ⟨rfl, (tx, sq) :: ws, r, by simp [hl], by simp [wb, List.append_assoc], e1.trans (e2.trans (e3.trans ?_))⟩
      simp
    · rw [wrL_true] at h; cases h
theorem decEnd_true {kd id le nd ti te : Int} {an : ByteArray} {sw sl sq : Int} {fr to va : ByteArray} {go : Bool} {aw al lw ll : Int} {cm st : Bool} {n : Nat} {d : List UInt8} : (decEnd kd id le nd ti te an sw sl sq fr to va go aw al lw ll cm st (wrL n true d [])).2.1 = true := by
  rw [wrL_true]; unfold decEnd; exact kN_true (f := bdC) fun _ _ => rfl
/-- what is read has its bytes -/
theorem dec_inv {d : List UInt8} (h : (decAll d).2.1 = false) : d = encB (decAll d).1 ++ (decAll d).2.2 := by
  have h0 : bdC (decAll d) = false := h
  unfold decAll at h0
  obtain ⟨-, kd, r1, -, rfl, e1, h1⟩ := kN_inv (f := bdC) h0 (by intros; repeat (with_reducible (first | refine kN_true fun _ _ => ?_ | refine kT_true fun _ _ => ?_ | refine kS_true fun _ _ _ => ?_ | refine kF_true fun _ _ => ?_ | exact decEnd_true)))
  obtain ⟨-, id, r2, -, rfl, e2, h2⟩ := kN_inv (f := bdC) h1 (by intros; repeat (with_reducible (first | refine kN_true fun _ _ => ?_ | refine kT_true fun _ _ => ?_ | refine kS_true fun _ _ _ => ?_ | refine kF_true fun _ _ => ?_ | exact decEnd_true)))
  obtain ⟨-, le, r3, -, rfl, e3, h3⟩ := kN_inv (f := bdC) h2 (by intros; repeat (with_reducible (first | refine kN_true fun _ _ => ?_ | refine kT_true fun _ _ => ?_ | refine kS_true fun _ _ _ => ?_ | refine kF_true fun _ _ => ?_ | exact decEnd_true)))
  obtain ⟨-, nd, r4, -, rfl, e4, h4⟩ := kN_inv (f := bdC) h3 (by intros; repeat (with_reducible (first | refine kN_true fun _ _ => ?_ | refine kT_true fun _ _ => ?_ | refine kS_true fun _ _ _ => ?_ | refine kF_true fun _ _ => ?_ | exact decEnd_true)))
  obtain ⟨-, ti, r5, -, rfl, e5, h5⟩ := kN_inv (f := bdC) h4 (by intros; repeat (with_reducible (first | refine kN_true fun _ _ => ?_ | refine kT_true fun _ _ => ?_ | refine kS_true fun _ _ _ => ?_ | refine kF_true fun _ _ => ?_ | exact decEnd_true)))
  obtain ⟨-, te, r6, -, rfl, e6, h6⟩ := kN_inv (f := bdC) h5 (by intros; repeat (with_reducible (first | refine kN_true fun _ _ => ?_ | refine kT_true fun _ _ => ?_ | refine kS_true fun _ _ _ => ?_ | refine kF_true fun _ _ => ?_ | exact decEnd_true)))
  obtain ⟨-, an, r7, rfl, e7, h7⟩ := kT_inv (f := bdC) h6 (by intros; repeat (with_reducible (first | refine kN_true fun _ _ => ?_ | refine kT_true fun _ _ => ?_ | refine kS_true fun _ _ _ => ?_ | refine kF_true fun _ _ => ?_ | exact decEnd_true)))
  obtain ⟨-, sw, sl, r8, rfl, e8, h8⟩ := kS_inv (f := bdC) h7 (by intros; repeat (with_reducible (first | refine kN_true fun _ _ => ?_ | refine kT_true fun _ _ => ?_ | refine kS_true fun _ _ _ => ?_ | refine kF_true fun _ _ => ?_ | exact decEnd_true)))
  obtain ⟨-, sq, r9, -, rfl, e9, h9⟩ := kN_inv (f := bdC) h8 (by intros; repeat (with_reducible (first | refine kN_true fun _ _ => ?_ | refine kT_true fun _ _ => ?_ | refine kS_true fun _ _ _ => ?_ | refine kF_true fun _ _ => ?_ | exact decEnd_true)))
  obtain ⟨-, fr, r10, rfl, e10, h10⟩ := kT_inv (f := bdC) h9 (by intros; repeat (with_reducible (first | refine kN_true fun _ _ => ?_ | refine kT_true fun _ _ => ?_ | refine kS_true fun _ _ _ => ?_ | refine kF_true fun _ _ => ?_ | exact decEnd_true)))
  obtain ⟨-, to, r11, rfl, e11, h11⟩ := kT_inv (f := bdC) h10 (by intros; repeat (with_reducible (first | refine kN_true fun _ _ => ?_ | refine kT_true fun _ _ => ?_ | refine kS_true fun _ _ _ => ?_ | refine kF_true fun _ _ => ?_ | exact decEnd_true)))
  obtain ⟨-, va, r12, rfl, e12, h12⟩ := kT_inv (f := bdC) h11 (by intros; repeat (with_reducible (first | refine kN_true fun _ _ => ?_ | refine kT_true fun _ _ => ?_ | refine kS_true fun _ _ _ => ?_ | refine kF_true fun _ _ => ?_ | exact decEnd_true)))
  obtain ⟨-, go, r13, rfl, e13, h13⟩ := kF_inv (f := bdC) h12 (by intros; repeat (with_reducible (first | refine kN_true fun _ _ => ?_ | refine kT_true fun _ _ => ?_ | refine kS_true fun _ _ _ => ?_ | refine kF_true fun _ _ => ?_ | exact decEnd_true)))
  obtain ⟨-, aw, al, r14, rfl, e14, h14⟩ := kS_inv (f := bdC) h13 (by intros; repeat (with_reducible (first | refine kN_true fun _ _ => ?_ | refine kT_true fun _ _ => ?_ | refine kS_true fun _ _ _ => ?_ | refine kF_true fun _ _ => ?_ | exact decEnd_true)))
  obtain ⟨-, lw, ll, r15, rfl, e15, h15⟩ := kS_inv (f := bdC) h14 (by intros; repeat (with_reducible (first | refine kN_true fun _ _ => ?_ | refine kT_true fun _ _ => ?_ | refine kS_true fun _ _ _ => ?_ | refine kF_true fun _ _ => ?_ | exact decEnd_true)))
  obtain ⟨-, cm, r16, rfl, e16, h16⟩ := kF_inv (f := bdC) h15 (by intros; repeat (with_reducible (first | refine kN_true fun _ _ => ?_ | refine kT_true fun _ _ => ?_ | refine kS_true fun _ _ _ => ?_ | refine kF_true fun _ _ => ?_ | exact decEnd_true)))
  obtain ⟨-, st, r17, rfl, e17, h17⟩ := kF_inv (f := bdC) h16 (by intros; repeat (with_reducible (first | refine kN_true fun _ _ => ?_ | refine kT_true fun _ _ => ?_ | refine kS_true fun _ _ _ => ?_ | refine kF_true fun _ _ => ?_ | exact decEnd_true)))
  obtain ⟨-, n, r18, hn, rfl, e18, h18⟩ := kN_inv (f := bdC) h17 (by intros; exact decEnd_true)
  have h18' := h18
  unfold decEnd at h18'
  obtain ⟨hb, pr, r20, -, e19, e20, -⟩ := kN_inv (f := bdC) h18' (fun _ _ => rfl)
  obtain ⟨-, ws, r19, hl, rfl, e21⟩ := wrL_inv _ _ _ _ hb
  rw [e21] at e19
  dsimp only at e19
  subst e19
  have e : decAll (nb kd ++ (nb id ++ (nb le ++ (nb nd ++ (nb ti ++ (nb te ++ (tb an ++ (stB sw sl ++ (nb sq ++ (tb fr ++ (tb to ++ (tb va ++ (flagB go ++ (stB aw al ++ (stB lw ll ++ (flagB cm ++ (flagB st ++ (nb n ++ (ws.flatMap wb ++ (nb pr ++ r20)))))))))))))))))))) = ((⟨kd, id, le, nd, ti, te, an, sw, sl, sq, fr, to, va, go, aw, al, lw, ll, cm, st, ws, pr⟩ : CmdV), false, r20) :=
    e1.trans (e2.trans (e3.trans (e4.trans (e5.trans (e6.trans (e7.trans (e8.trans (e9.trans (e10.trans (e11.trans (e12.trans (e13.trans (e14.trans (e15.trans (e16.trans (e17.trans (e18.trans (e20.trans (by rw [e21]; simp)))))))))))))))))))
  rw [e, enc_eq]
  dsimp only
  rw [show (ws.length : Int) = n by omega]
theorem decC_some {d : List UInt8} {c : CmdV} (h : decC d = some c) : cmdB c = true ∧ d = encB c := by
  unfold decC at h
  by_cases hc : (decAll d).2.1 = false ∧ (decAll d).2.2 = [] ∧ cmdB (decAll d).1 = true
  · rw [if_pos hc] at h
    have e := dec_inv hc.1
    rw [hc.2.1, List.append_nil] at e
    cases h
    exact ⟨hc.2.2, e⟩
  · rw [if_neg hc] at h; cases h
theorem decC_enc {c : CmdV} (h : cmdB c = true) : decC (encB c) = some c := by
  have e := dec_enc h []
  rw [List.append_nil] at e
  exact decC_yes e rfl rfl h
theorem enc_pre {c c' : CmdV} {r : List UInt8} (h : cmdB c = true) (h' : cmdB c' = true) (e : encB c = encB c' ++ r) : r = [] := by
  have e1 := dec_enc h []
  have e2 := dec_enc h' r
  rw [← e] at e2
  rw [List.append_nil, e2] at e1
  exact congrArg (fun x => x.2.2) e1
theorem enc_inj {c c' : CmdV} (h : cmdB c = true) (h' : cmdB c' = true) (e : encB c = encB c') : c = c' := by
  have e1 := decC_enc h
  rw [e, decC_enc h'] at e1
  exact (Option.some.inj e1).symm
theorem decC_cut {c : CmdV} {n : Nat} (h : cmdB c = true) (hn : n < (encB c).length) : decC ((encB c).take n) = none := by
  cases hd : decC ((encB c).take n) with
  | none => rfl
  | some c' =>
    obtain ⟨h1, h2⟩ := decC_some hd
    have := enc_pre h h1 (r := (encB c).drop n) (by rw [← h2, List.take_append_drop])
    have := congrArg List.length this
    simp at this; omega
theorem decC_more {c : CmdV} {x : UInt8} (h : cmdB c = true) : decC (encB c ++ [x]) = none :=
  decC_no (dec_enc h [x]) (by rintro ⟨-, h2, -⟩; cases h2)


abbrev c0 : CmdV := ⟨3, 0, 0, 0, 3, 0, V.S [97], 0, 0, 0, V.S [107], V.S [], V.S [118], false, 0, 0, 0, 0, false, false, [], 0⟩
theorem c0_ok : cmdB c0 = true := by decide +kernel
theorem sz0 : SzOk c0 := ⟨by decide, by decide, by decide, by decide, by decide⟩
theorem enc_len {d : CmdV} (h : cmdB d = true) : (encB d).length ≤ 609 := by
  have h1 := part_len (cmd_small h)
  have h2 := nb_len (v := d.pr) (by have := (cmd_small h).pr; omega)
  unfold encB; rw [List.length_append]; omega
theorem smB_self (d : CmdV) : smB d d = true := by simp [smB]
theorem smB_eq {c d : CmdV} : smB c d = true ↔ c = d := by
  constructor
  · intro h
    simp only [smB, Bool.and_eq_true, decide_eq_true_eq] at h
    cases c; cases d; simp only [CmdV.mk.injEq] at *; simp_all
  · rintro rfl; exact smB_self c
theorem err_no {d : CmdV} (h : ¬ (if cmdB d = true then (0 : Int) else 131) = 0) : cmdB d = false := by
  cases hq : cmdB d
  · rfl
  · rw [hq] at h; simp at h
theorem err_ok {d : CmdV} (h : (if cmdB d = true then (0 : Int) else 131) = 0) : cmdB d = true := by
  cases hq : cmdB d
  · rw [hq] at h; simp at h
  · rfl
def fitsC (d : CmdV) : Bool := decide (d.ws.length ≤ 20 ∧ ∀ x ∈ d.ws, x.1.size ≤ 400) && decide (d.an.size ≤ 400 ∧ d.fr.size ≤ 400 ∧ d.to.size ≤ 400 ∧ d.va.size ≤ 400)
theorem fitsC_many {d : CmdV} (h : 20 < d.ws.length) : fitsC d = false := by unfold fitsC; rw [decide_eq_false (by omega)]; rfl
theorem fitsC_long {d : CmdV} {i : Nat} {x : ByteArray × Int} (hi : i < d.ws.length) (hx : d.ws[i] = x) (h : 400 < x.1.size) : fitsC d = false := by
  unfold fitsC
  rw [decide_eq_false (p := d.ws.length ≤ 20 ∧ _)]
  · rfl
  · intro h2
    have := h2.2 d.ws[i] (List.getElem_mem hi)
    rw [hx] at this; omega
theorem fitsC_all {d : CmdV} (h0 : d.ws.length ≤ 20) (h : ∀ j (hj : j < d.ws.length), d.ws[j].1.size ≤ 400) : fitsC d = decide (d.an.size ≤ 400 ∧ d.fr.size ≤ 400 ∧ d.to.size ≤ 400 ∧ d.va.size ≤ 400) := by
  unfold fitsC
  rw [decide_eq_true (p := d.ws.length ≤ 20 ∧ _), Bool.true_and]
  refine ⟨h0, fun x hx => ?_⟩
  obtain ⟨j, hj, rfl⟩ := List.mem_iff_getElem.1 hx
  exact h j hj

set_option maxHeartbeats 900000 in
set_option maxRecDepth 10000 in
theorem alive_spec {w : World}    :
    Meets Try.prog 8 [] w fun r w' => r = .bool true ∧ Gr w w' := by
 have HG := V.Fr.refl [] w
 refine V.enter (n := 55) Try.func8 rfl rfl (by decide) rfl ?_
 refine V.seq ?_
 refine V.region ?_
 refine V.run T_ok 1 rfl ?_
 refine V.nil ?_
 refine V.tN ?_
 refine V.seq ?_
 refine V.region ?_
 refine V.mkStruct T_ok zero28 rfl rfl rfl rfl rfl ?_
 refine V.mkStruct T_ok zero30 rfl rfl rfl rfl rfl ?_
 refine V.mkStruct T_ok zero33 rfl rfl rfl rfl rfl ?_
 refine V.alloc zero33 rfl rfl rfl ?_
 rintro k1 w3 s5 s6 G4 Fk2
 have z7 := V.Fr.size G4
 replace HG := HG.grow G4
 clear G4
 try simp only [V.cellsL, V.spliceL] at Fk2
 refine V.storeO Fk2 rfl rfl rfl rfl sz33 rfl rfl rfl rfl ?_
 rintro w8 G9 z11 Fs10
 clear Fk2
 have z12 := V.Fr.size G9
 replace HG := HG.n1 G9
 clear G9
 have Fk2 := Fs10; clear Fs10
 simp only [V.spliceL, V.cellsL] at Fk2
 refine V.nil ?_
 refine V.tN ?_
 refine V.seq ?_
 have hz : SzOk c0 := sz0
 refine V.region ?_
 refine V.loadO T_ok Fk2 rfl rfl rfl rfl rfl ?_
 refine V.call (encode_spec (d := (⟨3, 0, 0, 0, 3, 0, (V.S [97]), 0, 0, 0, (V.S [107]), ByteArray.empty, (V.S [118]), false, 0, 0, 0, 0, false, false, [], 0⟩ : CmdV)) (Sl.nil _ _ V.None' _ _ (Nat.zero_le _)) (fun _ h => h.elim) (by first | (with_reducible assumption) | exact hz | (constructor <;> first | exact hz.an | exact hz.fr | exact hz.to | exact hz.va | exact hz.ws | exact (by decide : (S []).size ≤ 9223372036854775807) | exact (fun x hx => nomatch (show x ∈ ([] : List (ByteArray × Int)) from hx))))) rfl rfl rfl ?_
 rintro _ w16 ⟨a13, c14, rfl, F15, G17⟩
 have z18 := V.Fr.size G17
 try replace Fk2 := Fk2.gr G17
 replace HG := HG.grow G17
 clear G17
 refine V.run T_ok 5 rfl ?_
 refine V.nil ?_
 refine V.tN ?_
 refine V.seq ?_
 have hz := sz0
 have hel := enc_len c0_ok
 have hr19 : (if cmdB (⟨3, 0, 0, 0, 3, 0, (V.S [97]), 0, 0, 0, (V.S [107]), ByteArray.empty, (V.S [118]), false, 0, 0, 0, 0, false, false, [], 0⟩ : CmdV) = true then encB (⟨3, 0, 0, 0, 3, 0, (V.S [97]), 0, 0, 0, (V.S [107]), ByteArray.empty, (V.S [118]), false, 0, 0, 0, 0, false, false, [], 0⟩ : CmdV) else []) = encB c0 := if_pos c0_ok
 rw [hr19] at F15 ⊢
 clear hr19
 refine V.region ?_
 refine V.run T_ok 1 rfl ?_
 refine V.call (decode_spec F15.sl (fun k hk => by have := hk.2; omega) (by first | omega | (simp only [List.length_take, List.length_drop, List.length_append, List.length_cons, List.length_nil, List.length_replicate, List.length_set, V.length_data, V.S_size]; omega))) rfl rfl rfl ?_
 rintro _ w23 ⟨a20, c21, rfl, F22, G24⟩
 have z25 := V.Fr.size G24
 try replace Fk2 := Fk2.gr G24
 try replace F15 := F15.gr G24
 replace HG := HG.grow G24
 clear G24
 refine V.run T_ok 3 rfl ?_
 refine V.alloc zero33 rfl rfl rfl ?_
 rintro k26 w28 s30 s31 G29 Fk27
 have z32 := V.Fr.size G29
 try replace Fk2 := Fk2.gr G29
 try replace F15 := F15.gr G29
 try replace F22 := F22.gr G29
 replace HG := HG.grow G29
 clear G29
 try simp only [V.cellsL, V.spliceL] at Fk27
 refine V.storeO Fk27 rfl rfl rfl rfl sz33 rfl rfl rfl rfl ?_
 rintro w33 G34 z36 Fs35
 clear Fk27
 have z37 := V.Fr.size G34
 first | replace Fk2 := Fk2.mv1 G34 (by omega) | clear Fk2 | skip
 first | replace F15 := F15.ma G34 | clear F15 | skip
 first | replace F22 := F22.ma G34 | clear F22 | skip
 replace HG := HG.n1 G34
 clear G34
 have Fk27 := Fs35; clear Fs35
 simp only [V.spliceL, V.cellsL] at Fk27
 refine V.run T_ok 1 rfl ?_
 refine V.nil ?_
 refine V.tN ?_
 refine V.seq ?_
 refine V.region ?_
 refine V.loadO T_ok Fk2 rfl rfl rfl rfl rfl ?_
 refine V.call (spans_spec (d := (⟨3, 0, 0, 0, 3, 0, (V.S [97]), 0, 0, 0, (V.S [107]), ByteArray.empty, (V.S [118]), false, 0, 0, 0, 0, false, false, [], 0⟩ : CmdV)) (Sl.nil _ _ V.None' _ _ (Nat.zero_le _)) (fun _ h => h.elim)) rfl rfl rfl ?_
 rintro _ w41 ⟨a38, c39, rfl, F40, G42⟩
 have z43 := V.Fr.size G42
 try replace Fk2 := Fk2.gr G42
 try replace F15 := F15.gr G42
 try replace F22 := F22.gr G42
 try replace Fk27 := Fk27.gr G42
 replace HG := HG.grow G42
 clear G42
 refine V.run T_ok 5 rfl ?_
 refine V.nil ?_
 refine V.tN ?_
 refine V.seq ?_
 refine V.region ?_
 refine V.run T_ok 3 rfl ?_
 refine V.splitT (j := 2) (t := 28) rfl rfl (by decide +kernel) ?_
 refine V.run T_ok 4 rfl ?_
 refine V.splitT (j := 6) (t := 32) rfl rfl (by (rw [decC_enc c0_ok]; rfl)) ?_
 refine V.yes rfl rfl rfl ?_
 refine V.loadO T_ok Fk27 rfl rfl rfl rfl rfl ?_
 refine V.yes rfl rfl rfl ?_
 refine V.loadO T_ok Fk2 rfl rfl rfl rfl rfl ?_
 refine V.yes rfl rfl rfl ?_
 refine V.call (calike_spec (c := ((decC (encB c0)).getD cmdZ)) (d := (⟨3, 0, 0, 0, 3, 0, (V.S [97]), 0, 0, 0, (V.S [107]), ByteArray.empty, (V.S [118]), false, 0, 0, 0, 0, false, false, [], 0⟩ : CmdV)) F22.sl (fun k hk => by have := hk.2; omega) (Sl.nil _ _ V.None' _ _ (Nat.zero_le _)) (fun _ h => h.elim)) rfl rfl rfl ?_
 rintro _ w44 ⟨rfl, G45⟩
 have z46 := V.Fr.size G45
 try replace Fk2 := Fk2.gr G45
 try replace F15 := F15.gr G45
 try replace F22 := F22.gr G45
 try replace Fk27 := Fk27.gr G45
 try replace F40 := F40.gr G45
 replace HG := HG.grow G45
 clear G45
 refine V.run T_ok 2 rfl ?_
 refine V.splitT (j := 11) (t := 37) rfl rfl (by (rw [decC_enc c0_ok]; exact smB_self c0)) ?_
 refine V.run T_ok 5 rfl ?_
 refine V.splitT (j := 16) (t := 42) rfl rfl (by decide +kernel) ?_
 refine V.run T_ok 3 rfl ?_
 refine V.splitT (j := 19) (t := 45) rfl rfl (by decide +kernel) ?_
 refine V.yes rfl rfl rfl ?_
 refine V.loadO T_ok Fk2 rfl rfl rfl rfl rfl ?_
 refine V.yes rfl rfl rfl ?_
 refine V.call (ckey_spec (d := (⟨3, 0, 0, 0, 3, 0, (V.S [97]), 0, 0, 0, (V.S [107]), ByteArray.empty, (V.S [118]), false, 0, 0, 0, 0, false, false, [], 0⟩ : CmdV)) (Sl.nil _ _ V.None' _ _ (Nat.zero_le _)) (fun _ h => h.elim)) rfl rfl rfl ?_
 rintro _ w47 ⟨rfl, G48⟩
 have z49 := V.Fr.size G48
 try replace Fk2 := Fk2.gr G48
 try replace F15 := F15.gr G48
 try replace F22 := F22.gr G48
 try replace Fk27 := Fk27.gr G48
 try replace F40 := F40.gr G48
 replace HG := HG.grow G48
 clear G48
 refine V.run T_ok 3 rfl ?_
 refine V.splitT (j := 24) (t := 50) rfl rfl (by decide +kernel) ?_
 refine V.yes rfl rfl rfl ?_
 refine V.mkStruct T_ok zero33 rfl rfl rfl rfl rfl ?_
 refine V.yes rfl rfl rfl ?_
 refine V.call (cright_spec (d := (⟨3, 0, 0, 0, 0, 0, ByteArray.empty, 0, 0, 0, ByteArray.empty, ByteArray.empty, ByteArray.empty, false, 0, 0, 0, 0, false, false, [], 0⟩ : CmdV)) (Sl.nil _ _ V.None' _ _ (Nat.zero_le _)) (fun _ h => h.elim) (by first | (with_reducible assumption) | exact hz | (constructor <;> first | exact hz.an | exact hz.fr | exact hz.to | exact hz.va | exact hz.ws | exact (by decide : (S []).size ≤ 9223372036854775807) | exact (fun x hx => nomatch (show x ∈ ([] : List (ByteArray × Int)) from hx))))) rfl rfl rfl ?_
 rintro _ w50 ⟨rfl, G51⟩
 have z52 := V.Fr.size G51
 try replace Fk2 := Fk2.gr G51
 try replace F15 := F15.gr G51
 try replace F22 := F22.gr G51
 try replace Fk27 := Fk27.gr G51
 try replace F40 := F40.gr G51
 replace HG := HG.grow G51
 clear G51
 refine V.run T_ok 3 rfl ?_
 refine V.nil ?_
 refine V.tN ?_
 refine V.ret ?_
 refine V.done rfl ?_
 exact ⟨(congrArg Value.bool (by first | rfl | (decide +kernel))), HG⟩

set_option maxHeartbeats 900000 in
set_option maxRecDepth 10000 in
theorem fitsC_spec {w : World} {d : CmdV} {D_o : Nat → Prop} {c_o : Nat} {a_o : Option Addr} (F_o : Sl V.Cod.write w D_o a_o c_o d.ws) (hD_o : ∀ k, D_o k → k < w.heap.size)   :
    Meets Try.prog 12 [.agg #[.int .i64 d.kd, .int .i64 d.id, .int .i64 d.le, .int .i64 d.nd, .int .i64 d.ti, .int .i64 d.te, .string d.an, .int .i64 d.sw, .int .i64 d.sl, .int .i64 d.sq, .string d.fr, .string d.to, .string d.va, .bool d.go, .int .i64 d.aw, .int .i64 d.al, .int .i64 d.lw, .int .i64 d.ll, .bool d.cm, .bool d.st, .slice a_o d.ws.length c_o, .int .i64 d.pr]] w fun r w' => r = .bool (fitsC d) ∧ Gr w w' := by
 have HG := V.Fr.refl [] w
 refine V.enter (n := 48) Try.func12 rfl rfl (by decide) rfl ?_
 refine V.seq ?_
 refine V.region ?_
 refine V.box rfl rfl rfl rfl ?_
 rintro k1 w3 s5 s6 G4 Fk2
 have z7 := V.Fr.size G4
 try replace F_o := F_o.gr G4
 replace HG := HG.grow G4
 clear G4
 try simp only [V.cellsL, V.spliceL] at Fk2
 refine V.run T_ok 1 rfl ?_
 refine V.nil ?_
 refine V.tN ?_
 refine V.seq ?_
 refine V.seq ?_
 refine V.region ?_
 refine V.run T_ok 1 rfl ?_
 refine V.nil ?_
 refine V.tN ?_
 refine V.block ?_
 have hl63 := F_o.len63
 refine V.loopM (fun m e v9 => Fr [] w v9 ∧ w3.heap.size ≤ v9.heap.size ∧ Sl V.Cod.write v9 D_o a_o c_o d.ws ∧ Cells v9 k1 [.int .i64 d.kd, .int .i64 d.id, .int .i64 d.le, .int .i64 d.nd, .int .i64 d.ti, .int .i64 d.te, .string d.an, .int .i64 d.sw, .int .i64 d.sl, .int .i64 d.sq, .string d.fr, .string d.to, .string d.va, .bool d.go, .int .i64 d.aw, .int .i64 d.al, .int .i64 d.lw, .int .i64 d.ll, .bool d.cm, .bool d.st, .slice a_o d.ws.length c_o, .int .i64 d.pr] 33 ∧ ∃ (i : Nat) , m = d.ws.length - i ∧ i ≤ d.ws.length ∧ i ≤ 20 ∧ (∀ j (hj : j < d.ws.length), j < i → d.ws[j].1.size ≤ 400) ∧ e 1 = .pointer (some ⟨k1, 0, none⟩) ∧ e 3 = .int .i64 (i : Int)) ?_ ?_
 ·
  exact ⟨_, HG, (by omega), F_o, Fk2, (0), rfl, (by omega), (by omega), (fun j hj h => absurd h (Nat.not_lt_zero _)), rfl, rfl⟩
 clear HG F_o Fk2
 rintro _ e v9 ⟨HG, z10, F_o, Fk2, i, rfl, hi, hi2, hno, he0_1, he0_3⟩
 refine V.knownC (t := 1) he0_1 ?_
 refine V.knownC (t := 3) he0_3 ?_
 refine V.seq ?_
 refine V.seq ?_
 refine V.region ?_
 refine V.run T_ok 2 rfl ?_
 refine V.loadO T_ok Fk2 rfl rfl rfl rfl rfl ?_
 refine V.run T_ok 2 rfl ?_
 refine V.nil ?_
 refine V.tN ?_
 refine V.condT rfl (fun h2 => ?_) (fun h2 => ?_)
 ·
  try replace h2 := V.dec h2
  try simp only [V.mk0, V.mk1, V.mk2, V.mk3] at h2
  refine V.skip ?_
  refine V.tN ?_
  refine V.seq ?_
  refine V.block ?_
  refine V.seq ?_
  refine V.region ?_
  refine V.run T_ok 3 rfl ?_
  refine V.split (j := 2) (t := 13) rfl rfl (fun g4_2 => ?_) (fun g4_2 => ?_)
  ·
   try replace g4_2 := V.dec g4_2
   try simp only [V.mk0, V.mk1, V.mk2, V.mk3] at g4_2
   refine V.run T_ok 9 rfl ?_
   refine V.nil ?_
   refine V.tN ?_
   refine V.condY rfl rfl ?_
   refine V.seq ?_
   refine V.region ?_
   refine V.run T_ok 1 rfl ?_
   refine V.nil ?_
   refine V.tN ?_
   refine V.ret ?_
   refine V.bR ?_
   refine V.tR ?_
   refine V.tR ?_
   refine V.bR ?_
   refine V.tR ?_
   refine V.done rfl ?_
   exact ⟨congrArg Value.bool (by first | exact (fitsC_many (by omega)).symm), HG⟩
  ·
   try replace g4_2 := V.dec g4_2
   try simp only [V.mk0, V.mk1, V.mk2, V.mk3] at g4_2
   refine V.run T_ok 1 rfl ?_
   refine V.yes rfl rfl rfl ?_
   refine V.loadO T_ok Fk2 rfl rfl rfl rfl rfl ?_
   refine V.run T_ok 1 rfl ?_
   refine V.yes rfl rfl rfl ?_
   refine V.elem T_ok F_o rfl rfl sz65 rfl rfl rfl rfl (by first | omega | (simp only [List.length_take, List.length_drop, List.length_append, List.length_cons, List.length_nil, List.length_replicate, List.length_set, V.length_data, V.S_size]; omega)) (by first | omega | (simp only [List.length_take, List.length_drop, List.length_append, List.length_cons, List.length_nil, List.length_replicate, List.length_set, V.length_data, V.S_size]; omega)) ?_
   rintro b11 o12 cs13 hx14 hb15 hR18 hA16
   obtain ⟨x17, hx17⟩ : ∃ z', d.ws[((i : Int)).toNat] = z' := ⟨_, rfl⟩
   rw [hx17] at hR18
   obtain ⟨_, _, rfl, rfl, rfl⟩ := hR18
   try simp only [Int.toNat_natCast] at hx17 hx14
   refine V.run T_ok 1 rfl ?_
   refine V.yes rfl rfl rfl ?_
   refine V.loadA T_ok (o0 := o12) (off := 0) hA16 rfl rfl rfl rfl rfl ?_
   refine V.run T_ok 3 rfl ?_
   refine V.nil ?_
   refine V.tN ?_
   refine V.condT rfl (fun h4 => ?_) (fun h4 => ?_)
   ·
    try replace h4 := V.dec h4
    try simp only [V.mk0, V.mk1, V.mk2, V.mk3] at h4
    refine V.seq ?_
    refine V.region ?_
    refine V.run T_ok 1 rfl ?_
    refine V.nil ?_
    refine V.tN ?_
    refine V.ret ?_
    refine V.bR ?_
    refine V.tR ?_
    refine V.tR ?_
    refine V.bR ?_
    refine V.tR ?_
    refine V.done rfl ?_
    exact ⟨congrArg Value.bool (by first | exact (fitsC_many (by omega)).symm | exact (fitsC_long (by omega) hx17 (by omega)).symm), HG⟩
   ·
    try replace h4 := V.dec h4
    try simp only [V.mk0, V.mk1, V.mk2, V.mk3] at h4
    refine V.skip ?_
    refine V.bN ?_
    refine V.tN ?_
    refine V.region ?_
    refine V.run T_ok 1 rfl ?_
    refine V.addN rfl rfl rfl rfl rfl (by first | omega | (simp only [List.length_take, List.length_drop, List.length_append, List.length_cons, List.length_nil, List.length_replicate, List.length_set, V.length_data, V.S_size]; omega)) (by first | omega | (simp only [List.length_take, List.length_drop, List.length_append, List.length_cons, List.length_nil, List.length_replicate, List.length_set, V.length_data, V.S_size]; omega)) ?_
    refine V.run T_ok 1 rfl ?_
    refine V.nil ?_
    refine V.tN ?_
    exact ⟨_, (by omega), HG, (by omega), F_o, Fk2, (i + 1), rfl, (by omega), (by omega), (fun j hj h => by rcases Nat.lt_or_ge j i with h2 | h2; exact hno j hj h2; obtain rfl : j = i := (by omega); subst_vars; omega), rfl, rfl⟩
 ·
  try replace h2 := V.dec h2
  try simp only [V.mk0, V.mk1, V.mk2, V.mk3] at h2
  refine V.exit ?_
  refine V.tX ?_
  refine V.tX ?_
  refine V.bE ?_
  refine V.tN ?_
  refine V.seq ?_
  refine V.region ?_
  refine V.run T_ok 2 rfl ?_
  refine V.loadO T_ok Fk2 rfl rfl rfl rfl rfl ?_
  refine V.run T_ok 3 rfl ?_
  refine V.split (j := 5) (t := 28) rfl rfl (fun g6_5 => ?_) (fun g6_5 => ?_)
  ·
   try replace g6_5 := V.dec g6_5
   try simp only [V.mk0, V.mk1, V.mk2, V.mk3] at g6_5
   refine V.run T_ok 2 rfl ?_
   refine V.yes rfl rfl rfl ?_
   refine V.loadO T_ok Fk2 rfl rfl rfl rfl rfl ?_
   refine V.run T_ok 4 rfl ?_
   refine V.split (j := 12) (t := 35) rfl rfl (fun g6_12 => ?_) (fun g6_12 => ?_)
   ·
    try replace g6_12 := V.dec g6_12
    try simp only [V.mk0, V.mk1, V.mk2, V.mk3] at g6_12
    refine V.run T_ok 2 rfl ?_
    refine V.yes rfl rfl rfl ?_
    refine V.loadO T_ok Fk2 rfl rfl rfl rfl rfl ?_
    refine V.run T_ok 4 rfl ?_
    refine V.split (j := 19) (t := 42) rfl rfl (fun g6_19 => ?_) (fun g6_19 => ?_)
    ·
     try replace g6_19 := V.dec g6_19
     try simp only [V.mk0, V.mk1, V.mk2, V.mk3] at g6_19
     refine V.run T_ok 1 rfl ?_
     refine V.yes rfl rfl rfl ?_
     refine V.loadO T_ok Fk2 rfl rfl rfl rfl rfl ?_
     refine V.run T_ok 4 rfl ?_
     refine V.nil ?_
     refine V.tN ?_
     refine V.ret ?_
     refine V.done rfl ?_
     exact ⟨congrArg Value.bool (by rw [fitsC_all (by omega) (fun j hj => hno j hj (by omega))]; grind), HG⟩
    ·
     try replace g6_19 := V.dec g6_19
     try simp only [V.mk0, V.mk1, V.mk2, V.mk3] at g6_19
     refine V.run T_ok 6 rfl ?_
     refine V.nil ?_
     refine V.tN ?_
     refine V.ret ?_
     refine V.done rfl ?_
     exact ⟨congrArg Value.bool (by rw [fitsC_all (by omega) (fun j hj => hno j hj (by omega))]; grind), HG⟩
   ·
    try replace g6_12 := V.dec g6_12
    try simp only [V.mk0, V.mk1, V.mk2, V.mk3] at g6_12
    refine V.run T_ok 13 rfl ?_
    refine V.nil ?_
    refine V.tN ?_
    refine V.ret ?_
    refine V.done rfl ?_
    exact ⟨congrArg Value.bool (by rw [fitsC_all (by omega) (fun j hj => hno j hj (by omega))]; grind), HG⟩
  ·
   try replace g6_5 := V.dec g6_5
   try simp only [V.mk0, V.mk1, V.mk2, V.mk3] at g6_5
   refine V.run T_ok 20 rfl ?_
   refine V.nil ?_
   refine V.tN ?_
   refine V.ret ?_
   refine V.done rfl ?_
   exact ⟨congrArg Value.bool (by rw [fitsC_all (by omega) (fun j hj => hno j hj (by omega))]; grind), HG⟩

end Go.Proofs.Ytkklebdlbmoogaa
