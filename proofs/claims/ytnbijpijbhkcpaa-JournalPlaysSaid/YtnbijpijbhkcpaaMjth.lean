/- Proved here: walks: what functions of this seat's program return and what they leave of memory, each as a contract. Conditions: stated at each theorem. -/
import Derived.Test.YtnbijpijbhkcpaaMjn3
namespace Go.Proofs.Ytnbijpijbhkcpaa
set_option linter.unusedVariables false
set_option linter.unusedSimpArgs false
open Go
open V (Bytes Meets Env Sl Own Gr Fr Cells S)
/-! ### The sum finds what is turned within 32 bits -/
/-! bytes as bits -/
/-! one bit turned -/
/-! frames -/
theorem fourI_be (n : Nat) (h : n < 4294967296) : beN (fourI (n : Int)) = BitVec.ofNat 32 n := by
  have e := of4 (b := fourI (n : Int)) (x := UInt8.ofNat (n / 16777216)) (y := UInt8.ofNat (n / 65536)) (z := UInt8.ofNat (n / 256)) (u := UInt8.ofNat n) (h := by simp [fourI]) rfl rfl rfl rfl
  have h4 : (fourI (n : Int)).take 4 = fourI (n : Int) := rfl
  rw [h4] at e
  apply BitVec.eq_of_toNat_eq
  simp only [BitVec.toNat_ofNat]
  simp only [UInt8.toNat_ofNat'] at e
  generalize (beN _).toNat = m at e ⊢
  rw [V.wrap_u32 (x := ((n / 16777216 % 2 ^ 8 : Nat) : Int) * 256) (by omega) (by omega), V.wrap_u32 (x := ((n / 16777216 % 2 ^ 8 : Nat) : Int) * 256 + ((n / 65536 % 2 ^ 8 : Nat) : Int)) (by omega) (by omega),
    V.wrap_u32 (x := (((n / 16777216 % 2 ^ 8 : Nat) : Int) * 256 + ((n / 65536 % 2 ^ 8 : Nat) : Int)) * 256) (by omega) (by omega),
    V.wrap_u32 (x := (((n / 16777216 % 2 ^ 8 : Nat) : Int) * 256 + ((n / 65536 % 2 ^ 8 : Nat) : Int)) * 256 + ((n / 256 % 2 ^ 8 : Nat) : Int)) (by omega) (by omega),
    V.wrap_u32 (x := ((((n / 16777216 % 2 ^ 8 : Nat) : Int) * 256 + ((n / 65536 % 2 ^ 8 : Nat) : Int)) * 256 + ((n / 256 % 2 ^ 8 : Nat) : Int)) * 256) (by omega) (by omega), V.wrap_u32 (by omega) (by omega)] at e
  omega
theorem firstB_mk (n : Nat) (s : BitVec 32) (r : List UInt8) (hn : n < 4294967296) : firstB (fourI (n : Int) ++ fourI (s.toNat : Int) ++ r) = if n ≠ 0 ∧ n ≤ 65536 ∧ n ≤ r.length ∧ sumB (r.take n) = s then some (r.take n) else none := by
  have e1 : (fourI (n : Int) ++ fourI (s.toNat : Int) ++ r).take 4 = fourI (n : Int) := rfl
  have e2 : ((fourI (n : Int) ++ fourI (s.toNat : Int) ++ r).drop 4).take 4 = fourI (s.toNat : Int) := rfl
  have e3 : (fourI (n : Int) ++ fourI (s.toNat : Int) ++ r).drop 8 = r := rfl
  have e4 : (fourI (n : Int) ++ fourI (s.toNat : Int) ++ r).length = r.length + 8 := by simp [fourI]
  have hs := s.isLt
  have e5 : beN (fourI (s.toNat : Int)) = s := by
    rw [fourI_be _ hs]; exact BitVec.ofNat_toNat _ _ |>.trans (by simp)
  have e6 : (beN (fourI (n : Int))).toNat = n := by
    rw [fourI_be _ hn, BitVec.toNat_ofNat]; omega
  unfold firstB secB
  rw [e1, e2, e3, e4, e5, e6]
  by_cases h : n ≠ 0 ∧ n ≤ 65536 ∧ n ≤ r.length ∧ sumB (r.take n) = s
  · rw [if_pos h, if_pos ⟨by omega, h.1, h.2.1, by omega, h.2.2.2⟩]
  · rw [if_neg h, if_neg (fun h2 => h ⟨h2.2.1, h2.2.2.1, by omega, h2.2.2.2.2⟩)]
def frm (b : List UInt8) : List UInt8 := fourI (b.length : Int) ++ fourI (sumB b).toNat ++ b
theorem frm_len (b : List UInt8) : (frm b).length = b.length + 8 := by simp [frm, fourI]
theorem frmB_ok {b : List UInt8} (h0 : 0 < b.length) (h : b.length ≤ 65536) : frmB b = (frm b, 0) := by unfold frmB frm; rw [if_neg (by omega)]
theorem first_frm {b r : List UInt8} (h0 : 0 < b.length) (h : b.length ≤ 65536) : firstB (frm b ++ r) = some b := by
  have := firstB_mk b.length (sumB b) (b ++ r) (by omega)
  unfold frm
  rw [List.append_assoc, this, List.take_left, if_pos ⟨by omega, h, by simp, rfl⟩]
theorem first_frm0 {b : List UInt8} (h0 : 0 < b.length) (h : b.length ≤ 65536) : firstB (frm b) = some b := by
  have := first_frm (r := []) h0 h
  rwa [List.append_nil] at this
theorem whole_frm {b : List UInt8} (h0 : 0 < b.length) (h : b.length ≤ 65536) : wholeB (frm b) = (b, 0) := whole_some (first_frm0 h0 h) (by rw [frm_len]; omega)
theorem scan_frm {b r : List UInt8} (h0 : 0 < b.length) (h : b.length ≤ 65536) : scanB (frm b ++ r) = (b :: (scanB r).1, 8 + b.length + (scanB r).2) := by
  have e : (frm b ++ r).drop (8 + b.length) = r := by
    rw [show 8 + b.length = (frm b).length by rw [frm_len]; omega, List.drop_left]
  rw [scanB_some (first_frm h0 h), e]
theorem first_short {b : List UInt8} (h : b.length ≤ 8) : firstB b = none := first_no (by omega)
/-! ### What is opened of a file of frames -/
def allF (ls : List (List UInt8)) : List UInt8 := ls.flatMap frm
theorem allF_snoc (ls : List (List UInt8)) (x : List UInt8) : allF (ls ++ [x]) = allF ls ++ frm x := by simp [allF]
theorem allF_len : ∀ l : List (List UInt8), (allF l).length = lsum l
  | [] => rfl
  | x :: l => by
    have := allF_len l
    simp only [allF, List.flatMap_cons, List.length_append, frm_len, lsum] at this ⊢
    omega
def FrOk (l : List (List UInt8)) : Prop := ∀ x ∈ l, 1 ≤ x.length ∧ x.length ≤ 65536
theorem scan_all : ∀ {ls : List (List UInt8)} {r : List UInt8}, FrOk ls → firstB r = none → scanB (allF ls ++ r) = (ls, (allF ls).length)
  | [], r, _, hr => by simp [allF, scanB_none hr]
  | x :: ls, r, h, hr => by
    have hx := h x (by simp)
    have ih := scan_all (ls := ls) (r := r) (fun y hy => h y (by simp [hy])) hr
    have e : allF (x :: ls) ++ r = frm x ++ (allF ls ++ r) := by simp [allF]
    rw [e, scan_frm (by omega) (by omega), ih]
    simp only [allF, List.flatMap_cons, List.length_append, frm_len]
    congr 1; omega
theorem scan_file {ls : List (List UInt8)} (h : FrOk ls) : (scanB (allF ls)).1 = ls := by
  have := scan_all (r := []) h (first_short (Nat.zero_le _))
  rw [List.append_nil] at this
  rw [this]
theorem take_A (j : JV) {b : List UInt8} (h : b.length ≤ 65536) : takeV j (chA b) = some { j with l := j.l ++ [b] } := by
  have h1 : rdN (chA b) 3 = ((1, 0), textB b) := rdN_num (v := 1) (by decide) (by decide) _
  have h2 : rdT (textB b) 65536 = ((b, 0), []) := by
    have := rdT_text (s := b) (r := []) (most := 65536) (by omega) (by omega)
    rwa [List.append_nil] at this
  rw [takeV_1 (by rw [h1]) (by rw [h1]), h1]
  unfold recV
  rw [h2]; rfl
theorem take_C {j : JV} {n : Int} (h0 : 0 ≤ n) (h1 : n ≤ j.l.length) (hl : j.l.length ≤ 1000000) : takeV j (chC n) = some { j with l := j.l.take n.toNat } := by
  have e1 : rdN (chC n) 3 = ((2, 0), numB n.toNat) := rdN_num (v := 2) (by decide) (by decide) _
  have e2 : rdN (numB n.toNat) 1099511627776 = (((n.toNat : Int), 0), []) := by
    have := rdN_num (v := n.toNat) (most := 1099511627776) (by omega) (by omega) []
    rwa [List.append_nil] at this
  rw [takeV_2 (by rw [e1]) (by rw [e1]), e1]
  unfold cutV
  rw [e2, if_pos ⟨rfl, rfl, by dsimp only; omega⟩]; rfl
theorem take_R {j : JV} {n : Int} {b : List UInt8} (h : ¬ rebBad n b) : takeV j (chR n b) = some { j with base := n, data := b, l := basL j n } := by
  unfold rebBad at h
  have e1 : rdN (chR n b) 3 = ((3, 0), numB n.toNat ++ textB b) := by
    unfold chR; rw [List.append_assoc]; exact rdN_num (v := 3) (by decide) (by decide) _
  have e2 : rdN (numB n.toNat ++ textB b) 1099511627776 = ((n, 0), textB b) := by
    have := rdN_num (v := n.toNat) (most := 1099511627776) (by omega) (by omega) (textB b)
    rwa [Int.toNat_of_nonneg (by omega)] at this
  have e3 : rdT (textB b) 65536 = ((b, 0), []) := by
    have := rdT_text (s := b) (r := []) (most := 65536) (by omega) (by omega)
    rwa [List.append_nil] at this
  rw [takeV_3 (by rw [e1]) (by rw [e1]), e1]
  unfold basV
  rw [e2, e3, if_pos ⟨rfl, rfl, rfl⟩]
theorem textBl_len {b : List UInt8} (h : b.length ≤ 65536) : 1 ≤ (textB b).length ∧ (textB b).length ≤ b.length + 9 := by
  have := numB_len9 (v := (b.length : Int)) (by omega)
  rw [Int.toNat_natCast] at this
  have := numB_pos b.length
  unfold textB
  rw [List.length_append]
  omega
theorem n1_len : (numB 1).length = 1 ∧ (numB 2).length = 1 ∧ (numB 3).length = 1 := by
  rw [numB_lt (by decide), numB_lt (by decide), numB_lt (by decide)]; exact ⟨rfl, rfl, rfl⟩
theorem chA_len {b : List UInt8} (h : b.length ≤ 65516) : 1 ≤ (chA b).length ∧ (chA b).length ≤ b.length + 10 := by
  have := textBl_len (b := b) (by omega)
  have := n1_len.1
  unfold chA
  rw [List.length_append]
  omega
theorem chC_len {n : Int} (h : n ≤ 1000000) : 1 ≤ (chC n).length ∧ (chC n).length ≤ 10 := by
  have := numB_len9 (v := n) (by omega)
  have := n1_len.2.1
  unfold chC
  rw [List.length_append]
  omega
theorem chR_len {n : Int} {b : List UInt8} (h : ¬ rebBad n b) : 1 ≤ (chR n b).length ∧ (chR n b).length ≤ b.length + 19 := by
  unfold rebBad at h
  have := textBl_len (b := b) (by omega)
  have := numB_len9 (v := n) (by omega)
  have := n1_len.2.2
  unfold chR
  rw [List.length_append, List.length_append]
  omega
def hset (j : JV) (t v b : Int) : JV := { j with t := t, v := v, b := b }
theorem takeV_hard (j : JV) (t v b : Int) (x : List UInt8) : takeV (hset j t v b) x = (takeV j x).map (hset · t v b) := by
  unfold takeV recV cutV basV hset basL
  dsimp only
  repeat' split
  all_goals rfl
theorem takeV_same {j j' : JV} {x : List UInt8} (h : takeV j x = some j') : j'.t = j.t ∧ j'.v = j.v ∧ j'.b = j.b := by
  unfold takeV recV cutV basV at h
  split at h
  · split at h
    · split at h <;> cases h; exact ⟨rfl, rfl, rfl⟩
    · split at h
      · split at h <;> cases h; exact ⟨rfl, rfl, rfl⟩
      · split at h
        · split at h <;> cases h; exact ⟨rfl, rfl, rfl⟩
        · cases h
  · cases h
theorem runV_hard (t v b : Int) : ∀ (l : List (List UInt8)) (j : JV), runV (hset j t v b) l = (hset (runV j l).1 t v b, (runV j l).2)
  | [], j => rfl
  | x :: l, j => by
    have h := takeV_hard j t v b x
    cases ht : takeV j x with
    | none => rw [ht] at h; simp only [Option.map_none] at h; simp only [runV, ht, h]
    | some j' =>
      rw [ht] at h; simp only [Option.map_some] at h
      simp only [runV, ht, h, runV_hard t v b l j']
theorem lsum_app : ∀ (a b : List (List UInt8)), lsum (a ++ b) = lsum a + lsum b
  | [], b => by simp [lsum]
  | x :: a, b => by have := lsum_app a b; simp only [List.cons_append, lsum]; omega
theorem runV_app : ∀ {l : List (List UInt8)} {j0 j : JV} (r : List (List UInt8)), runV j0 l = (j, lsum l) → runV j0 (l ++ r) = ((runV j r).1, lsum l + (runV j r).2)
  | [], j0, j, r, h => by
    simp only [runV, lsum, Prod.mk.injEq] at h
    rw [h.1]; simp [lsum]
  | y :: l, j0, j, r, h => by
    cases ht : takeV j0 y with
    | none => simp only [runV, ht, lsum, Prod.mk.injEq] at h; omega
    | some j1 =>
      simp only [runV, ht, lsum, Prod.mk.injEq] at h
      have := runV_app (l := l) (j0 := j1) (j := j) r (Prod.ext h.1 (by dsimp only; omega))
      simp only [List.cons_append, runV, ht, this, lsum]
      congr 1; omega
/-- the disk's file is the frames of l, and what is opened of it is the journal -/
structure Sy (j : JV) (d : DiskV) (l : List (List UInt8)) : Prop where
  fr : FrOk l
  nf : d.nf = allF l
  run : runV ⟨0, [], [], j.t, j.v, j.b⟩ l = (j, lsum l)
  hc : hardV d.nc = some (j.t, j.v, j.b)
theorem Sy.new : Sy ⟨0, [], [], 0, 0, 0⟩ ⟨[], [], [], []⟩ [] := ⟨fun x h => (by cases h), rfl, rfl, by unfold hardV; rw [if_pos rfl]⟩
theorem Sy.opn {j : JV} {d : DiskV} {l : List (List UInt8)} (h : Sy j d l) : runV ⟨0, [], [], j.t, j.v, j.b⟩ (scanB d.nf).1 = (j, d.nf.length) := by
  rw [h.nf, scan_file h.fr, h.run, allF_len]
theorem eAppend_0 {d : DiskV} {x : List UInt8} (h : d.nf.length + x.length ≤ 16777216) : eAppend d x = 0 ∧ dAppend d x = { d with nf := d.nf ++ x } := by
  unfold eAppend dAppend; rw [if_neg (by omega), if_neg (by omega)]; exact ⟨rfl, rfl⟩
theorem Sy.does {j j' : JV} {d : DiskV} {l : List (List UInt8)} {x : List UInt8} (h : Sy j d l) (ht : takeV j x = some j') (hx : 1 ≤ x.length ∧ x.length ≤ 65536) (hd : d.nf.length + (x.length + 8) ≤ 16777216) :
    (doesJ j d x = j' ∧ doesE j d x = 0 ∧ doesD d x = { d with nf := d.nf ++ frm x }) ∧ Sy j' { d with nf := d.nf ++ frm x } (l ++ [x]) := by
  have hf := frmB_ok (b := x) (by omega) hx.2
  have ha := eAppend_0 (d := d) (x := frm x) (by rw [frm_len]; omega)
  have hh := takeV_same ht
  refine ⟨⟨?_, ?_, ?_⟩, ⟨?_, ?_, ?_, ?_⟩⟩
  · unfold doesJ; rw [hf, if_pos ⟨rfl, ha.1⟩, ht]; rfl
  · unfold doesE; rw [hf, if_pos ⟨rfl, ha.1, by rw [ht]; rfl⟩]
  · unfold doesD; rw [hf, if_pos rfl]; exact ha.2
  · intro y hy
    rcases List.mem_append.1 hy with h1 | h1
    · exact h.fr y h1
    · rw [List.mem_singleton.1 h1]; exact hx
  · dsimp only; rw [h.nf, allF_snoc]
  · rw [hh.1, hh.2.1, hh.2.2, runV_app [x] h.run]
    simp only [runV, ht, lsum_app, lsum]
  · rw [hh.1, hh.2.1, hh.2.2]; exact h.hc
theorem Sy.sync {j : JV} {d : DiskV} {l : List (List UInt8)} (h : Sy j d l) : Sy j (dSync d) l := ⟨h.fr, h.nf, h.run, h.hc⟩
theorem hard_nums {t v b : Int} (h : ¬ setBad t v b) : hardV (frmB (nums3 t v b)).1 = some (t, v, b) ∧ (frmB (nums3 t v b)).1 = frm (nums3 t v b) := by
  unfold setBad at h
  have hn := nums3_len (t := t) (v := v) (b := b) (by omega) (by omega) (by omega)
  have hf := frmB_ok hn.1 (by omega)
  have hw := whole_frm hn.1 (by omega)
  have e1 : rdN (nums3 t v b) 1099511627776 = ((t, 0), numB v.toNat ++ numB b.toNat) := by
    unfold nums3; rw [List.append_assoc]
    have := rdN_num (v := t.toNat) (most := 1099511627776) (by omega) (by omega) (numB v.toNat ++ numB b.toNat)
    rwa [Int.toNat_of_nonneg (by omega)] at this
  have e2 : rdN (numB v.toNat ++ numB b.toNat) 1099511627776 = ((v, 0), numB b.toNat) := by
    have := rdN_num (v := v.toNat) (most := 1099511627776) (by omega) (by omega) (numB b.toNat)
    rwa [Int.toNat_of_nonneg (by omega)] at this
  have e3 : rdN (numB b.toNat) 1099511627776 = ((b, 0), []) := by
    have := rdN_num (v := b.toNat) (most := 1099511627776) (by omega) (by omega) []
    rwa [Int.toNat_of_nonneg (by omega), List.append_nil] at this
  rw [hf]
  refine ⟨?_, rfl⟩
  unfold hardV
  rw [if_neg (fun e => by have := congrArg List.length e; rw [frm_len] at this; simp at this), hw]
  simp only [e1, e2, e3, and_self, if_true]
theorem Sy.set {j : JV} {d : DiskV} {l : List (List UInt8)} (h : Sy j d l) (t v b : Int) : Sy (setJ j t v b) (setD d t v b) l := by
  unfold setJ setD
  split
  · exact h
  · rename_i hb
    refine ⟨h.fr, h.nf, ?_, (hard_nums hb).1⟩
    have := runV_hard t v b l ⟨0, [], [], j.t, j.v, j.b⟩
    rw [h.run] at this
    exact this

/-! ### Acts on a journal whose file is its own -/
theorem openD_same (d : DiskV) : openD d d.nf.length = d := by unfold openD; rw [if_neg (Nat.lt_irrefl _)]
theorem Sy.app {j : JV} {d : DiskV} {l : List (List UInt8)} {b : List UInt8} (h : Sy j d l) (hb : b.length ≤ 65516) (hd : d.nf.length + (b.length + 18) ≤ 16777216) :
    (appJ j d b = { j with l := j.l ++ [b] } ∧ appE j d b = 0 ∧ appD d b = { d with nf := d.nf ++ frm (chA b) }) ∧ Sy { j with l := j.l ++ [b] } { d with nf := d.nf ++ frm (chA b) } (l ++ [chA b]) := by
  have hl := chA_len hb
  have := h.does (take_A j (b := b) (by omega)) (by omega) (by omega)
  unfold appJ appE appD
  rw [if_neg (by omega), if_neg (by omega), if_neg (by omega)]
  exact this
theorem Sy.rebY {j : JV} {d : DiskV} {l : List (List UInt8)} {n : Int} {b : List UInt8} (h : Sy j d l) (hn : ¬ rebBad n b) (hd : d.nf.length + (b.length + 27) ≤ 16777216) :
    (rebJ j d n b = { j with base := n, data := b, l := basL j n } ∧ rebE j d n b = 0 ∧ rebD d n b = { d with nf := d.nf ++ frm (chR n b) }) ∧ Sy { j with base := n, data := b, l := basL j n } { d with nf := d.nf ++ frm (chR n b) } (l ++ [chR n b]) := by
  have hc := chR_len hn
  have hn' := hn
  unfold rebBad at hn'
  have := h.does (take_R (j := j) hn) (by omega) (by omega)
  unfold rebJ rebE rebD
  rw [if_neg hn, if_neg hn, if_neg hn]
  exact this
theorem comm_self : ∀ a : List UInt8, comm a a = a.length
  | [] => rfl
  | x :: a => by simp [comm, comm_self a]
theorem Sy.crash0 {j : JV} {d : DiskV} {l : List (List UInt8)} (h : Sy j d l) : Sy j (dCrash (dSync d) 0 false false) l := by
  have hl : dLeft (dSync d) 0 false = d.nf := dLeft_sf (d := dSync d) (keep := 0) (torn := false) ⟨by decide, .inl (comm_self _).symm⟩
  exact ⟨h.fr, hl.trans h.nf, h.run, h.hc⟩
/-- from (j, d, l) to (j', d', l'): one change more, or none -/
structure Stp (j : JV) (d : DiskV) (l : List (List UInt8)) (j' : JV) (d' : DiskV) (l' : List (List UInt8)) : Prop where
  sy : Sy j' d' l'
  ch : (l' = l ∧ j'.base = j.base ∧ j'.data = j.data ∧ j'.l = j.l) ∨ ∃ x, l' = l ++ [x]
  nf : d'.nf.length ≤ d.nf.length + 300
  ll : j'.l.length ≤ j.l.length + 1
  sf : d'.sf = d.sf ∧ d'.sc = d.sc
theorem Sy.none {j : JV} {d : DiskV} {l : List (List UInt8)} (h : Sy j d l) : Stp j d l j d l := ⟨h, .inl ⟨rfl, rfl, rfl, rfl⟩, by omega, by omega, rfl, rfl⟩
end Go.Proofs.Ytnbijpijbhkcpaa
