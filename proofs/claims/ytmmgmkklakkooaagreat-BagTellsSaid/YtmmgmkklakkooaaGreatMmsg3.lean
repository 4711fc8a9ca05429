/- Proved here: walks: what functions of this seat's program return and what they leave of memory, each as a contract. Conditions: stated at each theorem. -/
import Derived.Test.YtmmgmkklakkooaaGreatMmsg2
namespace Go.Proofs.YtmmgmkklakkooaaGreat
set_option linter.unusedVariables false
set_option linter.unusedSimpArgs false
open Go
open V (Bytes Meets Env Sl Own Gr Fr Cells S)
theorem rdWr_sound : ∀ (n : Nat) (cs : List UInt8) (acc ws : List (ByteArray × Int)), (rdWr n cs acc).1 = some ws →
    ∃ us : List (ByteArray × Int), ws = acc ++ us ∧ us.length = n ∧ cs = wrsB us ++ (rdWr n cs acc).2 ∧ ∀ x ∈ us, x.1.size ≤ 8 ∧ 0 ≤ x.2 ∧ x.2 ≤ 1099511627776
  | 0, cs, acc, ws, h => by
    simp only [rdWr] at h ⊢
    cases h
    exact ⟨[], by simp, rfl, rfl, fun x hx => by cases hx⟩
  | n + 1, cs, acc, ws, h => by
    by_cases c : (rdT cs 8).1.2 = 0 ∧ (rdN (rdT cs 8).2 1099511627776).1.2 = 0
    · have e3 : rdWr (n + 1) cs acc = rdWr n (rdN (rdT cs 8).2 1099511627776).2 (acc ++ [(S (rdT cs 8).1.1, (rdN (rdT cs 8).2 1099511627776).1.1)]) := by
        simp only [rdWr]; rw [if_pos c]
      obtain ⟨c1, c2⟩ := c
      obtain ⟨s, r, f1, f2, f3, f4⟩ := rdT_ok c1
      rw [f4] at c2 e3
      simp only at c2 e3
      obtain ⟨v, r2, g1, g2, g3, g4⟩ := rdN_ok c2
      rw [g4] at e3
      simp only at e3
      rw [e3] at h ⊢
      obtain ⟨us, k1, k2, k3, k4⟩ := rdWr_sound n r2 _ ws h
      refine ⟨(S s, (v : Int)) :: us, by rw [k1]; simp, by simp [k2], ?_, ?_⟩
      · have : wrsB ((S s, (v : Int)) :: us) = textB s ++ numB v ++ wrsB us := rfl
        rw [this, f1, g1, List.append_assoc, List.append_assoc, ← k3]
      · intro x hx
        rcases List.mem_cons.1 hx with rfl | hx
        · exact ⟨by rw [V.S_size]; omega, by simp, g3⟩
        · exact k4 x hx
    · have e3 : (rdWr (n + 1) cs acc).1 = none := by simp only [rdWr]; rw [if_neg c]
      rw [e3] at h; cases h
theorem nxN_some {d : List UInt8} {m : Int} {k : Int → List UInt8 → Option RecV × List UInt8} {v : RecV} (h : (nxN d m k).1 = some v) :
    ∃ (u : Nat) (r : List UInt8), d = numB u ++ r ∧ (u : Int) ≤ m ∧ nxN d m k = k u r := by
  unfold nxN at h ⊢
  by_cases c : (rdN d m).1.2 = 0
  · rw [if_pos c] at h ⊢
    obtain ⟨u, r, h1, _, h3, h4⟩ := rdN_ok c
    exact ⟨u, r, h1, h3, by rw [h4]⟩
  · rw [if_neg c] at h; cases h
theorem nxS_some {d : List UInt8} {k : Int → Int → List UInt8 → Option RecV × List UInt8} {v : RecV} (h : (nxS d k).1 = some v) :
    ∃ (x y : Int) (r : List UInt8), d = stB x y ++ r ∧ stR x y ∧ nxS d k = k x y r := by
  unfold nxS at h ⊢
  by_cases c : (rdS d).1.2 = 0
  · rw [if_pos c] at h ⊢
    obtain ⟨x, y, r, h1, h2, h3⟩ := rdS_ok c
    exact ⟨x, y, r, h1, h2, by rw [h3]⟩
  · rw [if_neg c] at h; cases h
/-- what is read has just these bytes -/
theorem rec_sound {d : List UInt8} {v : RecV} (h : (rdRec d).1 = some v) : d = recBy v ++ (rdRec d).2 ∧ recB v = true ∧ inR64 v ∧ small v.ws := by
  unfold rdRec at h ⊢
  obtain ⟨id, r1, a1, b1, e⟩ := nxN_some h
  rw [e] at h ⊢; clear e
  obtain ⟨ep, r2, a2, b2, e⟩ := nxN_some h
  rw [e] at h ⊢; clear e
  obtain ⟨st, r3, a3, b3, e⟩ := nxN_some h
  rw [e] at h ⊢; clear e
  obtain ⟨aw, al, r4, a4, b4, e⟩ := nxS_some h
  rw [e] at h ⊢; clear e
  obtain ⟨bw, bl, r5, a5, b5, e⟩ := nxS_some h
  rw [e] at h ⊢; clear e
  obtain ⟨n, r6, a6, b6, e⟩ := nxN_some h
  rw [e] at h ⊢; clear e
  generalize hX : rdWr (n : Int).toNat r6 [] = X at h ⊢
  obtain ⟨o, r⟩ := X
  cases o with
  | none => cases h
  | some ws =>
    obtain ⟨us, k1, k2, k3, k4⟩ := rdWr_sound (n : Int).toNat r6 [] ws (by rw [hX])
    rw [hX] at k3
    rw [List.nil_append] at k1
    subst k1
    unfold rdFin at h ⊢
    simp only at h ⊢
    by_cases c : recB ⟨id, ep, st, aw, al, bw, bl, ws⟩ = true
    · rw [if_pos c] at h ⊢
      cases h
      obtain ⟨q1, q2, q3, q4⟩ := b4
      obtain ⟨p1, p2, p3, p4⟩ := b5
      refine ⟨?_, c, ⟨by simp only; omega, by simp only; omega, by simp only; omega, by simp only; omega, by simp only; omega, by simp only; omega, by simp only; omega⟩, ?_, ?_⟩
      · rw [Int.toNat_natCast] at k2
        have : recBy ⟨id, ep, st, aw, al, bw, bl, ws⟩ = numB id ++ (numB ep ++ (numB st ++ (stB aw al ++ (stB bw bl ++ (numB ws.length ++ wrsB ws))))) := rfl
        rw [this, a1, a2, a3, a4, a5, a6, k2, k3]
        simp
      · rw [Int.toNat_natCast] at k2; simp only; omega
      · intro x hx
        have := k4 x hx
        omega
    · rw [if_neg c] at h; cases h
theorem rdWr_back : ∀ (us : List (ByteArray × Int)) (acc : List (ByteArray × Int)) (r : List UInt8), (∀ x ∈ us, x.1.size ≤ 8 ∧ 0 ≤ x.2 ∧ x.2 ≤ 1099511627776) → rdWr us.length (wrsB us ++ r) acc = (some (acc ++ us), r)
  | [], acc, r, _ => by simp [rdWr, wrsB]
  | x :: us, acc, r, h => by
    obtain ⟨h1, h2, h3⟩ := h x (by simp)
    have hs : x.1.data.toList.length ≤ 8 := by rw [V.length_data]; exact h1
    have e : wrsB (x :: us) ++ r = textB x.1.data.toList ++ (numB x.2.toNat ++ (wrsB us ++ r)) := by
      have : wrsB (x :: us) = textB x.1.data.toList ++ numB x.2.toNat ++ wrsB us := rfl
      rw [this]; simp
    have t1 := rdT_text (s := x.1.data.toList) (r := numB x.2.toNat ++ (wrsB us ++ r)) (most := 8) (by omega) (by omega)
    have t2 := rdN_num (v := x.2.toNat) (most := 1099511627776) (by omega) (by omega) (wrsB us ++ r)
    rw [Int.toNat_of_nonneg h2] at t2
    rw [e, List.length_cons]
    simp only [rdWr, t1, t2]
    rw [if_pos ⟨trivial, trivial⟩, rdWr_back us _ r (fun y hy => h y (by simp [hy]))]
    have hS : S x.1.data.toList = x.1 := by
      cases hx : x.1 with
      | mk a => cases a; rfl
    rw [hS]; simp
theorem nxN_num {v : Int} {m : Int} {k : Int → List UInt8 → Option RecV × List UInt8} (h : 0 ≤ v) (h1 : v ≤ 9223372036854775807) (hm : v ≤ m) (r : List UInt8) : nxN (numB v.toNat ++ r) m k = k v r := by
  have t2 := rdN_num (v := v.toNat) (most := m) (by omega) (by omega) r
  rw [Int.toNat_of_nonneg h] at t2
  unfold nxN
  rw [t2]; rfl
theorem nxS_st {x y : Int} {k : Int → Int → List UInt8 → Option RecV × List UInt8} (h : stR x y) (r : List UInt8) : nxS (stB x y ++ r) k = k x y r := by
  unfold nxS
  rw [rdS_stB h]; rfl
theorem wrB_mem {ws : List (ByteArray × Int)} (h : wrB ws = true) : ws.length ≤ 8 ∧ ∀ x ∈ ws, x.1.size ≤ 8 ∧ 0 ≤ x.2 ∧ x.2 ≤ 1099511627776 := by
  simp only [wrB, Bool.and_eq_true, List.all_eq_true, decide_eq_true_eq] at h
  refine ⟨h.2.2, fun x hx => ?_⟩
  have := h.1.1 x hx
  simp only [isKey, Bool.and_eq_true, decide_eq_true_eq] at this
  omega
theorem recB_parts {d : RecV} (h : recB d = true) : (0 ≤ d.id ∧ d.id ≤ 1099511627776) ∧ (0 ≤ d.ep ∧ d.ep ≤ 1099511627776) ∧ (0 ≤ d.st ∧ d.st ≤ 4) ∧ stR d.aw d.al ∧ stR d.bw d.bl ∧ d.ws.length ≤ 8 ∧ ∀ x ∈ d.ws, x.1.size ≤ 8 ∧ 0 ≤ x.2 ∧ x.2 ≤ 1099511627776 := by
  simp only [recB, Bool.and_eq_true, decide_eq_true_eq] at h
  obtain ⟨⟨h1, h2, h3, h4⟩, h5⟩ := h
  refine ⟨h1, h2, ?_, h3, h4, ?_⟩
  · split at h5
    · omega
    · split at h5
      · omega
      · split at h5
        · omega
        · split at h5
          · omega
          · simp at h5
  · have nil : d.ws.length = 0 → d.ws.length ≤ 8 ∧ ∀ x ∈ d.ws, x.1.size ≤ 8 ∧ 0 ≤ x.2 ∧ x.2 ≤ 1099511627776 := fun h => ⟨by omega, fun x hx => by rw [List.length_eq_zero_iff.1 h] at hx; cases hx⟩
    split at h5
    · exact wrB_mem h5
    · split at h5
      · exact nil (by simpa using (of_decide_eq_true h5).2.2.2)
      · split at h5
        · exact nil (by simpa using (of_decide_eq_true h5).2)
        · split at h5
          · exact nil (by simpa using of_decide_eq_true h5)
          · simp at h5
/-- there and back -/
theorem rec_back {d : RecV} (h : recB d = true) (r : List UInt8) : rdRec (recBy d ++ r) = (some d, r) := by
  obtain ⟨h1, h2, h3, h4, h5, h6, h7⟩ := recB_parts h
  have e : recBy d ++ r = numB d.id.toNat ++ (numB d.ep.toNat ++ (numB d.st.toNat ++ (stB d.aw d.al ++ (stB d.bw d.bl ++ (numB (d.ws.length : Int).toNat ++ (wrsB d.ws ++ r)))))) := by
    rw [Int.toNat_natCast]; simp [recBy]
  rw [e]; unfold rdRec
  rw [nxN_num h1.1 (by omega) h1.2, nxN_num h2.1 (by omega) h2.2, nxN_num h3.1 (by omega) (by omega), nxS_st h4, nxS_st h5, nxN_num (by omega) (by omega) (by omega), Int.toNat_natCast, rdWr_back _ _ _ h7, List.nil_append]
  unfold rdFin
  simp only
  rw [if_pos (by cases d; exact h)]


theorem recB_fit0 {d : RecV} (h : recB d = true) : inR64 d ∧ small d.ws := by
  obtain ⟨h1, h2, h3, ⟨q1, q2, q3, q4⟩, ⟨p1, p2, p3, p4⟩, h6, h7⟩ := recB_parts h
  refine ⟨⟨by omega, by omega, by omega, by omega, by omega, by omega, by omega⟩, by omega, fun x hx => ?_⟩
  have := h7 x hx
  omega
def kvb (x : ByteArray × ByteArray) : List UInt8 := tb x.1 ++ tb x.2
def rp1 (x : ResV) : List UInt8 := nb x.er ++ stB x.aw x.al ++ nb x.ps.length
def rp2 (x : ResV) : List UInt8 := rp1 x ++ x.ps.flatMap kvb
def rp3 (x : ResV) : List UInt8 := rp2 x ++ flagB x.fo ++ nb x.ti ++ nb x.te
/-- a result's bytes -/
def resBy (x : ResV) : List UInt8 := rp3 x ++ tb x.an ++ stB x.sw x.sl ++ recBy x.rc
structure SmR (x : ResV) : Prop where
  n : x.er ≤ 1099511627776 ∧ x.ti ≤ 1099511627776 ∧ x.te ≤ 1099511627776
  s : x.aw ≤ 1099511627776 ∧ x.al ≤ 65535 ∧ x.sw ≤ 1099511627776 ∧ x.sl ≤ 65535
  pl : x.ps.length ≤ 50
  pw : ∀ y ∈ x.ps, y.1.size ≤ 8 ∧ y.2.size ≤ 16
  an : x.an.size ≤ 8
  rc : inR64 x.rc
  rw : small x.rc.ws
theorem res_small {x : ResV} (h : resB x = true) : SmR x := by
  unfold resB at h
  simp only [Bool.and_eq_true, Bool.or_eq_true, decide_eq_true_eq] at h
  obtain ⟨⟨⟨⟨⟨⟨⟨⟨h1, h2⟩, h3⟩, h4⟩, h5⟩, h6, h7⟩, h8⟩, h9⟩, h10⟩ := h
  unfold nmB at h1 h2
  unfold stB2 at h6 h7
  rw [decide_eq_true_eq] at h1 h2 h6 h7
  dsimp only at h6 h7
  have hf := recB_fit0 h9
  refine ⟨by omega, by omega, h5, fun y hy => ?_, ?_, hf.1, hf.2⟩
  · have := List.all_eq_true.1 h10 y hy
    unfold pairB at this
    simp only [Bool.and_eq_true, decide_eq_true_eq] at this
    exact ⟨key_sz this.1.1, this.2⟩
  · rcases h8 with h | h
    · have := emp_sz h; omega
    · exact key_sz h
theorem res_len {x : ResV} (h : SmR x) : (rp1 x).length ≤ 40 ∧ (rp2 x).length ≤ 2600 ∧ (rp3 x).length ≤ 2700 ∧ (resBy x).length ≤ 120000 := by
  obtain ⟨h1, h2, h3⟩ := h.n
  obtain ⟨h4, h5, h6, h7⟩ := h.s
  have a1 := nb_len (v := x.er) (by omega)
  have a2 := nb_len (v := x.ti) (by omega)
  have a3 := nb_len (v := x.te) (by omega)
  have a4 := st_len (x := x.aw) (y := x.al) (by omega) (by omega)
  have a5 := st_len (x := x.sw) (y := x.sl) (by omega) (by omega)
  have a6 := nb_len (v := (x.ps.length : Int)) (by have := h.pl; omega)
  have a7 := tb_len h.an (by omega)
  have a8 := recBy_len h.rc h.rw
  have a9 := fm_len (f := kvb) (K := 42) (l := x.ps) (fun y hy => by
    have b1 := tb_len (h.pw y hy).1 (by omega); have b2 := tb_len (h.pw y hy).2 (by omega)
    unfold kvb; rw [List.length_append]; omega)
  have a10 : (flagB x.fo).length = 1 := rfl
  have := h.pl
  have c1 : (rp1 x).length ≤ 40 := by unfold rp1; simp only [List.length_append]; omega
  have c2 : (rp2 x).length ≤ 2600 := by unfold rp2; simp only [List.length_append]; omega
  have c3 : (rp3 x).length ≤ 2700 := by unfold rp3; simp only [List.length_append]; omega
  refine ⟨c1, c2, c3, ?_⟩
  unfold resBy; simp only [List.length_append]; omega

set_option maxHeartbeats 900000 in
set_option maxRecDepth 10000 in
theorem putres_spec {w : World}  {D_b : Nat → Prop} {c_b : Nat} {a_b : Option Addr} {b : List UInt8} (F_b : Sl V.Cod.byte w D_b a_b c_b b) (hD_b : ∀ k, D_b k → k < w.heap.size) {x : ResV} {D_op : Nat → Prop} {c_op : Nat} {a_op : Option Addr} (F_op : Sl (V.Cod.pair V.Cod.str V.Cod.str) w D_op a_op c_op x.ps) (hD_op : ∀ k, D_op k → k < w.heap.size) {D_or : Nat → Prop} {c_or : Nat} {a_or : Option Addr} (F_or : Sl V.Cod.write w D_or a_or c_or x.rc.ws) (hD_or : ∀ k, D_or k → k < w.heap.size) (hl : b.length ≤ 70368744177) (hr : SmR x) :
    Meets Tryz.prog 50 [.slice a_b b.length c_b, .agg #[.int .i64 x.er, .int .i64 x.aw, .int .i64 x.al, .slice a_op x.ps.length c_op, .bool x.fo, .int .i64 x.ti, .int .i64 x.te, .string x.an, .int .i64 x.sw, .int .i64 x.sl, .int .i64 x.rc.id, .int .i64 x.rc.ep, .int .i64 x.rc.st, .int .i64 x.rc.aw, .int .i64 x.rc.al, .int .i64 x.rc.bw, .int .i64 x.rc.bl, .slice a_or x.rc.ws.length c_or]] w fun r w' => ∃ (ra72 : Option Addr) (rc72 : Nat), r = .slice ra72 (b ++ resBy x).length rc72 ∧ V.Row V.Cod.byte 5 w' V.None' w.heap.size w'.heap.size ra72 rc72 (b ++ resBy x) ∧ Gr w w' := by
 obtain ⟨hn1, hn2, hn3⟩ := hr.n
 obtain ⟨hs1, hs2, hs3, hs4⟩ := hr.s
 have hpl := hr.pl
 have han := hr.an
 have hrc := hr.rc
 have hrw := hr.rw
 obtain ⟨hb1, hb2, hb3, hb4⟩ := res_len hr
 have hq1 := numB_len9 (v := x.er) (by omega)
 have hq2 := st_len (x := x.aw) (y := x.al) (by omega) (by omega)
 have hq3 := numB_len9 (v := x.ti) (by omega)
 have hq4 := numB_len9 (v := x.te) (by omega)
 have hq5 : (textB x.an.data.toList).length ≤ 17 := tb_len hr.an (by omega)
 have hq6 := st_len (x := x.sw) (y := x.sl) (by omega) (by omega)
 have hq7 : (flagB x.fo).length = 1 := rfl
 have hq8 : (rp2 x).length = (rp1 x).length + (x.ps.flatMap kvb).length := by unfold rp2; rw [List.length_append]
 have HG := V.Fr.refl [] w
 refine V.enter (n := 57) Tryz.func50 rfl rfl (by decide) rfl ?_
 refine V.sr ?_
 refine V.box rfl rfl rfl rfl ?_
 rintro k1 w3 s5 s6 G4 Fk2
 have z7 := V.Fr.size G4
 try simp only [V.cellsL, V.spliceL] at Fk2
 refine V.ru 1 ?_
 refine V.nt ?_
 refine V.seq ?_
 refine V.drawGT 10 (V.sel [(3, (fun v wz => ∃ (ra2 : Option Addr) (rc2 : Nat), v = .slice ra2 (b ++ numB x.er.toNat).length rc2 ∧ V.Row V.Cod.byte 5 wz V.None' w3.heap.size wz.heap.size ra2 rc2 (b ++ numB x.er.toNat))), (6, (fun v wz => ∃ (ra19 : Option Addr) (rc19 : Nat), v = .slice ra19 ((b ++ numB x.er.toNat) ++ stB x.aw x.al).length rc19 ∧ V.Row V.Cod.byte 5 wz V.None' w3.heap.size wz.heap.size ra19 rc19 ((b ++ numB x.er.toNat) ++ stB x.aw x.al)))]) mixed (by kernel_rfl) (V.mono_cons (by rintro v wz wz' g ⟨ra2, rc2, rfl, rF2⟩; exact ⟨ra2, rc2, rfl, (by first | exact (rF2.gr g).mono (V.In.sub (Nat.le_refl _) g.size) | exact rF2.gr g | exact (rF2.gr g).mono (fun _ h => h) (Nat.le_refl _) g.size | exact (rF2.gr g).mono (fun k h => ⟨h.1, Nat.lt_of_lt_of_le h.2 g.size⟩))⟩) (V.mono_cons (by rintro v wz wz' g ⟨ra19, rc19, rfl, rF19⟩; exact ⟨ra19, rc19, rfl, (by first | exact (rF19.gr g).mono (V.In.sub (Nat.le_refl _) g.size) | exact rF19.gr g | exact (rF19.gr g).mono (fun _ h => h) (Nat.le_refl _) g.size | exact (rF19.gr g).mono (fun k h => ⟨h.1, Nat.lt_of_lt_of_le h.2 g.size⟩))⟩) V.mono_nil)) ?_
 refine V.grun T_ok 2 rfl (V.sel_none rfl) ?_
 refine V.gloadO T_ok (fun w' h => Fk2.gr h.1) rfl rfl rfl rfl rfl rfl ?_
 replace F_b := F_b.gr G4
 refine V.gcall (fun w' h => (p_number (v := x.er) (F_b.gr h.1) (fun k hk => by have := Fr.size h.1; have := hD_b k hk; omega) V.lenA (by omega)).mono (by rintro v w'' ⟨ra2, rc2, rfl, rF2, G⟩; exact ⟨⟨ra2, rc2, rfl, (by first | exact rF2.mono (V.In.mono_l h.1.size) | exact rF2 | exact rF2.mono (fun _ h => h) h.1.size (Nat.le_refl _))⟩, G⟩)) rfl rfl rfl rfl ?_
 rintro _ w11 - - ⟨a8, c9, rfl, -⟩
 refine V.grun T_ok 1 rfl (V.sel_none rfl) ?_
 refine V.gloadO T_ok (fun w' h => Fk2.gr h.1) rfl rfl rfl rfl rfl rfl ?_
 refine V.gcall (fun w' h => (sput_spec (a := x.aw) (b := x.al) (by obtain ⟨_, _, he, F0⟩ := (V.Hist.here (h.get (i := 3) rfl)); cases he; exact F0.sl) (fun k hk => by have := Fr.size h.1; have := hk.2; omega) V.lenA (by omega) (by omega)).mono (by rintro v w'' ⟨ra19, rc19, rfl, rF19, G⟩; exact ⟨⟨ra19, rc19, rfl, (by first | exact rF19.mono (V.In.mono_l h.1.size) | exact rF19 | exact rF19.mono (fun _ h => h) h.1.size (Nat.le_refl _))⟩, G⟩)) rfl rfl rfl rfl ?_
 rintro _ w15 - - ⟨a12, c13, rfl, -⟩
 refine V.grun T_ok 1 rfl (V.sel_none rfl) ?_
 refine V.gloadO T_ok (fun w' h => Fk2.gr h.1) rfl rfl rfl rfl rfl rfl ?_
 refine V.grun T_ok 1 rfl (V.sel_none rfl) ?_
 refine V.gnil ?_
 rintro w16 G17 hH18
 have z19 := V.Fr.size G17
 have F10 : V.Row V.Cod.byte 5 w16 V.None' w3.heap.size w16.heap.size a8 c9 (b ++ numB x.er.toNat) := by
   obtain ⟨_, _, he, F0⟩ := (V.Hist.here (V.Hist.old (hH18 3)))
   cases he
   exact F0
 have F14 : V.Row V.Cod.byte 5 w16 V.None' w3.heap.size w16.heap.size a12 c13 ((b ++ numB x.er.toNat) ++ stB x.aw x.al) := by
   obtain ⟨_, _, he, F0⟩ := (V.Hist.here (hH18 6))
   cases he
   exact F0
 clear hH18
 refine V.call (p_number (v := (x.ps.length : Int)) F14.sl (fun k hk => by have := hk.2; omega) V.lenA (by omega)) rfl rfl rfl ?_
 rintro _ w23 ⟨a20, c21, rfl, F22, G24⟩
 have z25 := V.Fr.size G24
 refine V.ru 1 ?_
 refine V.nt ?_
 refine V.seq ?_
 refine V.seq ?_
 have hr26 : ((b ++ numB x.er.toNat) ++ stB x.aw x.al) ++ numB (x.ps.length : Int).toNat = b ++ (rp1 x ++ (x.ps.take 0).flatMap kvb) := (by simp [rp1, nb, List.append_assoc])
 rw [hr26] at F22 ⊢
 clear hr26
 refine V.region ?_
 refine V.ru 1 ?_
 replace Fk2 := Fk2.gr (G17.trans G24)
 refine V.loadO T_ok Fk2 rfl rfl rfl rfl rfl ?_
 refine V.ru 2 ?_
 refine V.nt ?_
 refine V.block ?_
 replace F_op := F_op.gr (G4.trans (G17.trans G24))
 have hl63 := F_op.len63
 replace F_b := F_b.gr (G17.trans G24)
 replace F_or := F_or.gr (G4.trans (G17.trans G24))
 replace F10 := F10.gr G24
 replace F14 := F14.gr G24
 replace HG := HG.grow (G4.trans (G17.trans G24))
 refine V.loopM (fun m e v28 => Fr [] w v28 ∧ w23.heap.size ≤ v28.heap.size ∧ Sl V.Cod.byte v28 D_b a_b c_b b ∧ Sl (V.Cod.pair V.Cod.str V.Cod.str) v28 D_op a_op c_op x.ps ∧ Sl V.Cod.write v28 D_or a_or c_or x.rc.ws ∧ Cells v28 k1 [.int .i64 x.er, .int .i64 x.aw, .int .i64 x.al, .slice a_op x.ps.length c_op, .bool x.fo, .int .i64 x.ti, .int .i64 x.te, .string x.an, .int .i64 x.sw, .int .i64 x.sl, .int .i64 x.rc.id, .int .i64 x.rc.ep, .int .i64 x.rc.st, .int .i64 x.rc.aw, .int .i64 x.rc.al, .int .i64 x.rc.bw, .int .i64 x.rc.bl, .slice a_or x.rc.ws.length c_or] 48 ∧ V.Row V.Cod.byte 5 v28 V.None' w3.heap.size w16.heap.size a8 c9 (b ++ numB x.er.toNat) ∧ V.Row V.Cod.byte 5 v28 V.None' w3.heap.size w16.heap.size a12 c13 ((b ++ numB x.er.toNat) ++ stB x.aw x.al) ∧ ∃ (i : Nat) (ra73 : Option Addr) (rc73 : Nat), m = x.ps.length - i ∧ i ≤ x.ps.length ∧ V.Row V.Cod.byte 5 v28 V.None' w.heap.size v28.heap.size ra73 rc73 (b ++ (rp1 x ++ (x.ps.take i).flatMap kvb)) ∧ e 0 = .slice ra73 (b ++ (rp1 x ++ (x.ps.take i).flatMap kvb)).length rc73 ∧ e 3 = .pointer (some ⟨k1, 0, none⟩) ∧ e 19 = .slice a_op x.ps.length c_op ∧ e 20 = .int .i64 (x.ps.length : Int) ∧ e 21 = .int .i64 (i : Int)) ?_ ?_
 ·
  exact ⟨_, HG, (by omega), F_b, F_op, F_or, Fk2, F10, F14, (0), a20, c21, rfl, (Nat.zero_le _), F22.re, rfl, rfl, rfl, rfl, rfl⟩
 try clear F22
 clear HG F_b F_op F_or Fk2 F10 F14
 rintro _ e v28 ⟨HG, z29, F_b, F_op, F_or, Fk2, F10, F14, i, ra73, rc73, rfl, hi, rF73, he0_0, he0_3, he0_19, he0_20, he0_21⟩
 have htk := fm_take_len (f := kvb) x.ps i
 refine V.knownC (t := 0) he0_0 ?_
 refine V.knownC (t := 3) he0_3 ?_
 refine V.knownC (t := 19) he0_19 ?_
 refine V.knownC (t := 20) he0_20 ?_
 refine V.knownC (t := 21) he0_21 ?_
 refine V.sr ?_
 refine V.ru 1 ?_
 refine V.nt ?_
 refine V.seq ?_
 refine V.condT rfl (fun h3 => ?_) (fun h3 => ?_)
 ·
  try replace h3 := V.dec h3
  try simp only [V.mk] at h3
  refine V.skip ?_
  refine V.tN ?_
  refine V.seq ?_
  refine V.block ?_
  refine V.sr ?_
  refine V.elem T_ok F_op rfl rfl sz76 rfl rfl rfl rfl V.lenA V.lenA ?_
  rintro b30 o31 cs32 hx33 hb34 hR37 hA35
  obtain ⟨x36, hx36⟩ : ∃ z', x.ps[((i : Int)).toNat] = z' := ⟨_, rfl⟩
  rw [hx36] at hR37
  obtain ⟨_, _, rfl, rfl, rfl⟩ := hR37
  try simp only [Int.toNat_natCast] at hx36 hx33
  refine V.loadA T_ok (o0 := o31) (off := 0) hA35 rfl rfl rfl rfl rfl ?_
  refine V.alloc zero76 rfl rfl rfl ?_
  rintro k38 w40 s42 s43 G41 Fk39
  have z44 := V.Fr.size G41
  try simp only [V.cellsL, V.spliceL] at Fk39
  refine V.storeO Fk39 rfl rfl rfl rfl sz76 rfl rfl rfl rfl ?_
  rintro w45 G46 z48 Fs47
  clear Fk39
  have z49 := V.Fr.size G46
  have Fk39 := Fs47; clear Fs47
  simp only [V.spliceL, V.cellsL] at Fk39
  refine V.nt ?_
  have hxs := hr.pw x36 (hx36 ▸ List.getElem_mem _)
  have htx : (textB x36.1.data.toList).length ≤ 17 := tb_len hxs.1 (by omega)
  have hty : (textB x36.2.data.toList).length ≤ 25 := tb_len hxs.2 (by omega)
  refine V.drawGT 6 (V.sel [(3, (fun v wz => ∃ (ra3 : Option Addr) (rc3 : Nat), v = .slice ra3 ((b ++ (rp1 x ++ (x.ps.take i).flatMap kvb)) ++ textB x36.1.data.toList).length rc3 ∧ V.Row V.Cod.byte 5 wz V.None' w45.heap.size wz.heap.size ra3 rc3 ((b ++ (rp1 x ++ (x.ps.take i).flatMap kvb)) ++ textB x36.1.data.toList)))]) mixed (by kernel_rfl) (V.mono_cons (by rintro v wz wz' g ⟨ra3, rc3, rfl, rF3⟩; exact ⟨ra3, rc3, rfl, (by first | exact (rF3.gr g).mono (V.In.sub (Nat.le_refl _) g.size) | exact rF3.gr g | exact (rF3.gr g).mono (fun _ h => h) (Nat.le_refl _) g.size | exact (rF3.gr g).mono (fun k h => ⟨h.1, Nat.lt_of_lt_of_le h.2 g.size⟩))⟩) V.mono_nil) ?_
  refine V.grun T_ok 2 rfl (V.sel_none rfl) ?_
  refine V.gloadO T_ok (fun w' h => Fk39.gr h.1) rfl rfl rfl rfl rfl rfl ?_
  replace rF73 := rF73.gr G41
  replace rF73 := rF73.ma G46
  refine V.gcall (fun w' h => (p_text (s := x36.1) (rF73.sl.gr h.1) (fun k hk => by have := Fr.size h.1; have := hk.2; omega) V.lenA (by first | omega | decide | (simp only [V.S_size, List.length_cons, List.length_nil]; omega))).mono (by rintro v w'' ⟨ra3, rc3, rfl, rF3, G⟩; exact ⟨⟨ra3, rc3, rfl, (by first | exact rF3.mono (V.In.mono_l h.1.size) | exact rF3 | exact rF3.mono (fun _ h => h) h.1.size (Nat.le_refl _))⟩, G⟩)) rfl rfl rfl rfl ?_
  rintro _ w53 - - ⟨a50, c51, rfl, -⟩
  refine V.grun T_ok 1 rfl (V.sel_none rfl) ?_
  refine V.gloadO T_ok (fun w' h => Fk39.gr h.1) rfl rfl rfl rfl rfl rfl ?_
  refine V.gnil ?_
  rintro w54 G55 hH56
  have z57 := V.Fr.size G55
  have F52 : V.Row V.Cod.byte 5 w54 V.None' w45.heap.size w54.heap.size a50 c51 ((b ++ (rp1 x ++ (x.ps.take i).flatMap kvb)) ++ textB x36.1.data.toList) := by
    obtain ⟨_, _, he, F0⟩ := (V.Hist.here (hH56 3))
    cases he
    exact F0
  clear hH56
  refine V.call (p_text (s := x36.2) F52.sl (fun k hk => by have := hk.2; omega) V.lenA (by first | omega | decide | (simp only [V.S_size, List.length_cons, List.length_nil]; omega))) rfl rfl rfl ?_
  rintro _ w61 ⟨a58, c59, rfl, F60, G62⟩
  have z63 := V.Fr.size G62
  refine V.ru 1 ?_
  refine V.nil ?_
  refine V.bN ?_
  refine V.tN ?_
  refine V.region ?_
  refine V.addN rfl rfl rfl rfl rfl V.lenA V.lenA ?_
  refine V.ru 1 ?_
  refine V.nt ?_
  have hr64 : ((b ++ (rp1 x ++ (x.ps.take i).flatMap kvb)) ++ textB x36.1.data.toList) ++ textB x36.2.data.toList = b ++ (rp1 x ++ (x.ps.take (i + 1)).flatMap kvb) := (by rw [← fm_succ (f := kvb) (by omega) hx36]; simp [kvb, tb, List.append_assoc])
  rw [hr64] at F60 ⊢
  clear hr64
  
  replace F_b := F_b.gr G41
  replace F_b := F_b.mb G46 hD_b
  replace F_b := F_b.gr (G55.trans G62)
  replace F_op := F_op.gr G41
  replace F_op := F_op.mb G46 hD_op
  replace F_op := F_op.gr (G55.trans G62)
  replace F_or := F_or.gr G41
  replace F_or := F_or.mb G46 hD_or
  replace F_or := F_or.gr (G55.trans G62)
  replace Fk2 := Fk2.gr G41
  replace Fk2 := Fk2.ma G46
  replace Fk2 := Fk2.gr (G55.trans G62)
  replace F10 := F10.gr G41
  replace F10 := F10.ma G46
  replace F10 := F10.gr (G55.trans G62)
  replace F14 := F14.gr G41
  replace F14 := F14.ma G46
  replace F14 := F14.gr (G55.trans G62)
  replace HG := HG.grow G41
  replace HG := HG.n1 G46
  replace HG := HG.grow (G55.trans G62)
  exact ⟨_, (by omega), HG, (by omega), F_b, F_op, F_or, Fk2, F10, F14, (i + 1), a58, c59, rfl, (by omega), F60.re, rfl, rfl, rfl, rfl, rfl⟩
 ·
  try replace h3 := V.dec h3
  try simp only [V.mk] at h3
  refine V.exit ?_
  refine V.tX ?_
  refine V.tX ?_
  refine V.bE ?_
  refine V.tN ?_
  refine V.seq ?_
  have hr65 : b ++ (rp1 x ++ (x.ps.take i).flatMap kvb) = b ++ rp2 x := (by rw [fm_all (by omega)]; rfl)
  rw [hr65] at rF73 ⊢
  clear hr65
  refine V.drawGT 11 (V.sel [(3, (fun v wz => ∃ (ra4 : Option Addr) (rc4 : Nat), v = .slice ra4 ((b ++ rp2 x) ++ flagB x.fo).length rc4 ∧ V.Row V.Cod.byte 5 wz V.None' v28.heap.size wz.heap.size ra4 rc4 ((b ++ rp2 x) ++ flagB x.fo))), (7, (fun v wz => ∃ (ra2 : Option Addr) (rc2 : Nat), v = .slice ra2 (((b ++ rp2 x) ++ flagB x.fo) ++ numB x.ti.toNat).length rc2 ∧ V.Row V.Cod.byte 5 wz V.None' v28.heap.size wz.heap.size ra2 rc2 (((b ++ rp2 x) ++ flagB x.fo) ++ numB x.ti.toNat)))]) mixed (by kernel_rfl) (V.mono_cons (by rintro v wz wz' g ⟨ra4, rc4, rfl, rF4⟩; exact ⟨ra4, rc4, rfl, (by first | exact (rF4.gr g).mono (V.In.sub (Nat.le_refl _) g.size) | exact rF4.gr g | exact (rF4.gr g).mono (fun _ h => h) (Nat.le_refl _) g.size | exact (rF4.gr g).mono (fun k h => ⟨h.1, Nat.lt_of_lt_of_le h.2 g.size⟩))⟩) (V.mono_cons (by rintro v wz wz' g ⟨ra2, rc2, rfl, rF2⟩; exact ⟨ra2, rc2, rfl, (by first | exact (rF2.gr g).mono (V.In.sub (Nat.le_refl _) g.size) | exact rF2.gr g | exact (rF2.gr g).mono (fun _ h => h) (Nat.le_refl _) g.size | exact (rF2.gr g).mono (fun k h => ⟨h.1, Nat.lt_of_lt_of_le h.2 g.size⟩))⟩) V.mono_nil)) ?_
  refine V.grun T_ok 2 rfl (V.sel_none rfl) ?_
  refine V.gloadO T_ok (fun w' h => Fk2.gr h.1) rfl rfl rfl rfl rfl rfl ?_
  refine V.gcall (fun w' h => (p_flag (v := x.fo) (rF73.sl.gr h.1) (fun k hk => by have := Fr.size h.1; have := hk.2; omega) V.lenA).mono (by rintro v w'' ⟨ra4, rc4, rfl, rF4, G⟩; exact ⟨⟨ra4, rc4, rfl, (by first | exact rF4.mono (V.In.mono_l h.1.size) | exact rF4 | exact rF4.mono (fun _ h => h) h.1.size (Nat.le_refl _))⟩, G⟩)) rfl rfl rfl rfl ?_
  rintro _ w69 - - ⟨a66, c67, rfl, -⟩
  refine V.grun T_ok 2 rfl (V.sel_none rfl) ?_
  refine V.gloadO T_ok (fun w' h => Fk2.gr h.1) rfl rfl rfl rfl rfl rfl ?_
  refine V.gcall (fun w' h => (p_number (v := x.ti) (by obtain ⟨_, _, he, F0⟩ := (V.Hist.here (h.get (i := 3) rfl)); cases he; exact F0.sl) (fun k hk => by have := Fr.size h.1; have := hk.2; omega) V.lenA (by omega)).mono (by rintro v w'' ⟨ra2, rc2, rfl, rF2, G⟩; exact ⟨⟨ra2, rc2, rfl, (by first | exact rF2.mono (V.In.mono_l h.1.size) | exact rF2 | exact rF2.mono (fun _ h => h) h.1.size (Nat.le_refl _))⟩, G⟩)) rfl rfl rfl rfl ?_
  rintro _ w73 - - ⟨a70, c71, rfl, -⟩
  refine V.grun T_ok 2 rfl (V.sel_none rfl) ?_
  refine V.gloadO T_ok (fun w' h => Fk2.gr h.1) rfl rfl rfl rfl rfl rfl ?_
  refine V.gnil ?_
  rintro w74 G75 hH76
  have z77 := V.Fr.size G75
  have F68 : V.Row V.Cod.byte 5 w74 V.None' v28.heap.size w74.heap.size a66 c67 ((b ++ rp2 x) ++ flagB x.fo) := by
    obtain ⟨_, _, he, F0⟩ := (V.Hist.here (V.Hist.old (hH76 3)))
    cases he
    exact F0
  have F72 : V.Row V.Cod.byte 5 w74 V.None' v28.heap.size w74.heap.size a70 c71 (((b ++ rp2 x) ++ flagB x.fo) ++ numB x.ti.toNat) := by
    obtain ⟨_, _, he, F0⟩ := (V.Hist.here (hH76 7))
    cases he
    exact F0
  clear hH76
  refine V.call (p_number (v := x.te) F72.sl (fun k hk => by have := hk.2; omega) V.lenA (by omega)) rfl rfl rfl ?_
  rintro _ w81 ⟨a78, c79, rfl, F80, G82⟩
  have z83 := V.Fr.size G82
  refine V.ru 1 ?_
  refine V.nt ?_
  refine V.seq ?_
  have hr84 : (((b ++ rp2 x) ++ flagB x.fo) ++ numB x.ti.toNat) ++ numB x.te.toNat = b ++ rp3 x := (by simp [rp3, nb, List.append_assoc])
  rw [hr84] at F80 ⊢
  clear hr84
  refine V.drawGT 11 (V.sel [(4, (fun v wz => ∃ (ra3 : Option Addr) (rc3 : Nat), v = .slice ra3 ((b ++ rp3 x) ++ textB x.an.data.toList).length rc3 ∧ V.Row V.Cod.byte 5 wz V.None' w81.heap.size wz.heap.size ra3 rc3 ((b ++ rp3 x) ++ textB x.an.data.toList))), (8, (fun v wz => ∃ (ra19 : Option Addr) (rc19 : Nat), v = .slice ra19 (((b ++ rp3 x) ++ textB x.an.data.toList) ++ stB x.sw x.sl).length rc19 ∧ V.Row V.Cod.byte 5 wz V.None' w81.heap.size wz.heap.size ra19 rc19 (((b ++ rp3 x) ++ textB x.an.data.toList) ++ stB x.sw x.sl)))]) mixed (by kernel_rfl) (V.mono_cons (by rintro v wz wz' g ⟨ra3, rc3, rfl, rF3⟩; exact ⟨ra3, rc3, rfl, (by first | exact (rF3.gr g).mono (V.In.sub (Nat.le_refl _) g.size) | exact rF3.gr g | exact (rF3.gr g).mono (fun _ h => h) (Nat.le_refl _) g.size | exact (rF3.gr g).mono (fun k h => ⟨h.1, Nat.lt_of_lt_of_le h.2 g.size⟩))⟩) (V.mono_cons (by rintro v wz wz' g ⟨ra19, rc19, rfl, rF19⟩; exact ⟨ra19, rc19, rfl, (by first | exact (rF19.gr g).mono (V.In.sub (Nat.le_refl _) g.size) | exact rF19.gr g | exact (rF19.gr g).mono (fun _ h => h) (Nat.le_refl _) g.size | exact (rF19.gr g).mono (fun k h => ⟨h.1, Nat.lt_of_lt_of_le h.2 g.size⟩))⟩) V.mono_nil)) ?_
  refine V.grun T_ok 3 rfl (V.sel_none rfl) ?_
  replace Fk2 := Fk2.gr (G75.trans G82)
  refine V.gloadO T_ok (fun w' h => Fk2.gr h.1) rfl rfl rfl rfl rfl rfl ?_
  refine V.gcall (fun w' h => (p_text (s := x.an) (F80.sl.gr h.1) (fun k hk => by have := Fr.size h.1; have := hk.2; omega) V.lenA (by first | omega | decide | (simp only [V.S_size, List.length_cons, List.length_nil]; omega))).mono (by rintro v w'' ⟨ra3, rc3, rfl, rF3, G⟩; exact ⟨⟨ra3, rc3, rfl, (by first | exact rF3.mono (V.In.mono_l h.1.size) | exact rF3 | exact rF3.mono (fun _ h => h) h.1.size (Nat.le_refl _))⟩, G⟩)) rfl rfl rfl rfl ?_
  rintro _ w88 - - ⟨a85, c86, rfl, -⟩
  refine V.grun T_ok 2 rfl (V.sel_none rfl) ?_
  refine V.gloadO T_ok (fun w' h => Fk2.gr h.1) rfl rfl rfl rfl rfl rfl ?_
  refine V.gcall (fun w' h => (sput_spec (a := x.sw) (b := x.sl) (by obtain ⟨_, _, he, F0⟩ := (V.Hist.here (h.get (i := 4) rfl)); cases he; exact F0.sl) (fun k hk => by have := Fr.size h.1; have := hk.2; omega) V.lenA (by omega) (by omega)).mono (by rintro v w'' ⟨ra19, rc19, rfl, rF19, G⟩; exact ⟨⟨ra19, rc19, rfl, (by first | exact rF19.mono (V.In.mono_l h.1.size) | exact rF19 | exact rF19.mono (fun _ h => h) h.1.size (Nat.le_refl _))⟩, G⟩)) rfl rfl rfl rfl ?_
  rintro _ w92 - - ⟨a89, c90, rfl, -⟩
  refine V.grun T_ok 1 rfl (V.sel_none rfl) ?_
  refine V.gloadO T_ok (fun w' h => Fk2.gr h.1) rfl rfl rfl rfl rfl rfl ?_
  refine V.gnil ?_
  rintro w93 G94 hH95
  have z96 := V.Fr.size G94
  have F87 : V.Row V.Cod.byte 5 w93 V.None' w81.heap.size w93.heap.size a85 c86 ((b ++ rp3 x) ++ textB x.an.data.toList) := by
    obtain ⟨_, _, he, F0⟩ := (V.Hist.here (V.Hist.old (hH95 4)))
    cases he
    exact F0
  have F91 : V.Row V.Cod.byte 5 w93 V.None' w81.heap.size w93.heap.size a89 c90 (((b ++ rp3 x) ++ textB x.an.data.toList) ++ stB x.sw x.sl) := by
    obtain ⟨_, _, he, F0⟩ := (V.Hist.here (hH95 8))
    cases he
    exact F0
  clear hH95
  replace F_or := F_or.gr (G75.trans (G82.trans G94))
  refine V.call (rput_spec (d := x.rc) F91.sl (fun k hk => by have := hk.2; omega) F_or (fun k hk => by have := hD_or k hk; omega) (by first | omega | (simp only [List.length_append]; omega) | exact Nat.zero_le _) (by assumption) (by assumption)) rfl rfl rfl ?_
  rintro _ w100 ⟨a97, c98, rfl, F99, G101⟩
  have z102 := V.Fr.size G101
  refine V.ru 1 ?_
  refine V.nt ?_
  refine V.ret ?_
  refine V.done rfl ?_
  rw [show b ++ resBy x = (((b ++ rp3 x) ++ textB x.an.data.toList) ++ stB x.sw x.sl) ++ recBy x.rc by simp [resBy, tb, List.append_assoc]]
  replace HG := HG.grow (G75.trans (G82.trans (G94.trans G101)))
  exact ⟨a97, c98, (by first | rfl | simp only [List.length_set]), F99.re, HG⟩


theorem enc_len {d : CmdV} (h : cmdB d = true) : (encB d).length ≤ 609 := by
  have h1 := part_len (cmd_small h)
  have h2 := nb_len (v := d.pr) (by have := (cmd_small h).pr; omega)
  unfold encB; rw [List.length_append]; omega
theorem frm_e0 {b : List UInt8} (h0 : 0 < b.length) (h : b.length ≤ 65536) : (frmB b).2 = 0 := by unfold frmB; rw [if_neg (by omega)]
theorem frm_le {b : List UInt8} (h : (frmB b).2 = 0) : b.length ≤ 65536 := by
  unfold frmB at h
  by_cases hc : b.length = 0 ∨ 65536 < b.length
  · rw [if_pos hc] at h; simp at h
  · omega
def entb (x : Int × List UInt8) : List UInt8 := nb x.1 ++ textB x.2
def hdM (m : MsgV) : List Int := [m.kd, m.fr, m.to, m.rg, m.te, m.ix, m.lt, m.co]
def mp1 (m : MsgV) : List UInt8 := (hdM m).flatMap nb
def mp2 (m : MsgV) : List UInt8 := mp1 m ++ flagB m.ok ++ nb m.es.length
def mp3 (m : MsgV) : List UInt8 := mp2 m ++ m.es.flatMap entb
def mp4 (m : MsgV) : List UInt8 := mp3 m ++ textB m.da ++ stB m.nw m.nl
/-- a message's bytes, without the frame -/
def bodyM (m : MsgV) : List UInt8 := if m.kd = 6 then mp4 m ++ textB (encB m.c) else if m.kd = 7 then mp4 m ++ resBy m.r else mp4 m
def encM (m : MsgV) : List UInt8 := if msgB m = true ∧ (bodyM m).length ≤ 65536 then (frmB (bodyM m)).1 else []
def encE (m : MsgV) : Int := if msgB m = true ∧ (bodyM m).length ≤ 65536 then 0 else 181
structure SmM (m : MsgV) : Prop where
  h : ∀ x ∈ hdM m, 0 ≤ x ∧ x ≤ 1099511627776
  el : m.es.length ≤ 8
  ew : ∀ x ∈ m.es, (0 ≤ x.1 ∧ x.1 ≤ 1099511627776) ∧ x.2.length ≤ 32768
  dl : m.da.length ≤ 32768
  s : stR m.nw m.nl
  c : m.kd = 6 → cmdB m.c = true
  r : m.kd = 7 → resB m.r = true
theorem msg_small {m : MsgV} (h : msgB m = true) : SmM m := by
  unfold msgB at h
  simp only [Bool.and_eq_true, decide_eq_true_eq] at h
  obtain ⟨⟨⟨⟨⟨⟨⟨h1, h2⟩, ⟨⟨h3, h4⟩, h5⟩, h6⟩, h7, h8⟩, h9⟩, h10⟩, h11⟩, h12⟩ := h
  simp [numM, nmB] at h1
  unfold stB2 at h11
  rw [decide_eq_true_eq] at h11
  dsimp only at h11
  unfold askB at h12
  rw [Bool.and_eq_true] at h12
  refine ⟨fun x hx => ?_, h7, fun x hx => ?_, h8, ⟨by omega, by omega, by omega, by omega⟩, fun hk => by have := h12.1; rwa [if_pos hk] at this, fun hk => by have := h12.2; rwa [if_pos hk] at this⟩
  · simp [hdM] at hx
    rcases hx with rfl | rfl | rfl | rfl | rfl | rfl | rfl | rfl <;> omega
  · have := List.all_eq_true.1 h2 x hx
    unfold entB nmB at this
    simp only [Bool.and_eq_true, decide_eq_true_eq] at this
    exact this
theorem textB_len2 (l : List UInt8) (h : l.length ≤ 9223372036854775807) : (textB l).length ≤ 9 + l.length := by
  have h1 := nb_len (v := (l.length : Int)) (by omega)
  unfold nb at h1
  rw [Int.toNat_natCast] at h1
  unfold textB; rw [List.length_append]; omega
theorem ent_len {x : Int × List UInt8} (h : (0 ≤ x.1 ∧ x.1 ≤ 1099511627776) ∧ x.2.length ≤ 32768) : (entb x).length ≤ 32800 := by
  have h1 := nb_len (v := x.1) (by omega)
  have h2 := textB_len2 x.2 (by omega)
  unfold entb; rw [List.length_append]; omega
theorem msg_len {m : MsgV} (h : SmM m) : (mp1 m).length ≤ 72 ∧ (mp2 m).length ≤ 90 ∧ (mp3 m).length ≤ 262500 ∧ (mp4 m).length ≤ 295400 ∧ 0 < (bodyM m).length := by
  have a1 : (mp1 m).length ≤ 9 * (hdM m).length := fm_len (fun x hx => nb_len (by have := h.h x hx; omega))
  have a1' : (hdM m).length = 8 := rfl
  have a2 : (flagB m.ok).length = 1 := rfl
  have a3 := nb_len (v := (m.es.length : Int)) (by have := h.el; omega)
  have a4 := fm_len (f := entb) (K := 32800) (l := m.es) (fun x hx => ent_len (h.ew x hx))
  have a5 := textB_len2 m.da (by have := h.dl; omega)
  have a6 := st_len (x := m.nw) (y := m.nl) (by have := h.s; unfold stR at this; omega) (by have := h.s; unfold stR at this; omega)
  have := h.el
  have := h.dl
  have c1 : (mp1 m).length ≤ 72 := by omega
  have c2 : (mp2 m).length ≤ 90 := by unfold mp2; simp only [List.length_append]; omega
  have c3 : (mp3 m).length ≤ 262500 := by unfold mp3; simp only [List.length_append]; omega
  have c4 : (mp4 m).length ≤ 295400 := by unfold mp4; simp only [List.length_append]; omega
  have c5 : 0 < (mp4 m).length := by unfold mp4 mp3 mp2; simp only [List.length_append]; omega
  refine ⟨c1, c2, c3, c4, ?_⟩
  unfold bodyM
  split
  · rw [List.length_append]; omega
  · split
    · rw [List.length_append]; omega
    · exact c5

set_option maxHeartbeats 900000 in
set_option maxRecDepth 10000 in
theorem mencode_spec {w : World} {mm : MsgV} {D_oe : Nat → Prop} {c_oe : Nat} {a_oe : Option Addr} (F_oe : Sl V.Cod.ent w D_oe a_oe c_oe mm.es) (hD_oe : ∀ k, D_oe k → k < w.heap.size) {D_od : Nat → Prop} {c_od : Nat} {a_od : Option Addr} (F_od : Sl V.Cod.byte w D_od a_od c_od mm.da) (hD_od : ∀ k, D_od k → k < w.heap.size) {D_oc : Nat → Prop} {c_oc : Nat} {a_oc : Option Addr} (F_oc : Sl V.Cod.write w D_oc a_oc c_oc mm.c.ws) (hD_oc : ∀ k, D_oc k → k < w.heap.size) {D_op : Nat → Prop} {c_op : Nat} {a_op : Option Addr} (F_op : Sl (V.Cod.pair V.Cod.str V.Cod.str) w D_op a_op c_op mm.r.ps) (hD_op : ∀ k, D_op k → k < w.heap.size) {D_or : Nat → Prop} {c_or : Nat} {a_or : Option Addr} (F_or : Sl V.Cod.write w D_or a_or c_or mm.r.rc.ws) (hD_or : ∀ k, D_or k → k < w.heap.size)  (hz : SzM mm) :
    Meets Tryz.prog 28 [.agg #[.int .i64 mm.kd, .int .i64 mm.fr, .int .i64 mm.to, .int .i64 mm.rg, .int .i64 mm.te, .int .i64 mm.ix, .int .i64 mm.lt, .int .i64 mm.co, .bool mm.ok, .slice a_oe mm.es.length c_oe, .slice a_od mm.da.length c_od, .int .i64 mm.nw, .int .i64 mm.nl, .int .i64 mm.c.kd, .int .i64 mm.c.id, .int .i64 mm.c.le, .int .i64 mm.c.nd, .int .i64 mm.c.ti, .int .i64 mm.c.te, .string mm.c.an, .int .i64 mm.c.sw, .int .i64 mm.c.sl, .int .i64 mm.c.sq, .string mm.c.fr, .string mm.c.to, .string mm.c.va, .bool mm.c.go, .int .i64 mm.c.aw, .int .i64 mm.c.al, .int .i64 mm.c.lw, .int .i64 mm.c.ll, .bool mm.c.cm, .bool mm.c.st, .slice a_oc mm.c.ws.length c_oc, .int .i64 mm.c.pr, .int .i64 mm.r.er, .int .i64 mm.r.aw, .int .i64 mm.r.al, .slice a_op mm.r.ps.length c_op, .bool mm.r.fo, .int .i64 mm.r.ti, .int .i64 mm.r.te, .string mm.r.an, .int .i64 mm.r.sw, .int .i64 mm.r.sl, .int .i64 mm.r.rc.id, .int .i64 mm.r.rc.ep, .int .i64 mm.r.rc.st, .int .i64 mm.r.rc.aw, .int .i64 mm.r.rc.al, .int .i64 mm.r.rc.bw, .int .i64 mm.r.rc.bl, .slice a_or mm.r.rc.ws.length c_or]] w fun r w' => ∃ (ra74 : Option Addr) (rc74 : Nat), r = .tuple #[.slice ra74 (encM mm).length rc74, .int .i64 (encE mm)] ∧ V.Row V.Cod.byte 5 w' V.None' w.heap.size w'.heap.size ra74 rc74 (encM mm) ∧ Gr w w' := by
 have HG := V.Fr.refl [] w
 refine V.enter (n := 102) Tryz.func28 rfl rfl (by decide) rfl ?_
 refine V.sr ?_
 refine V.box rfl rfl rfl rfl ?_
 rintro k1 w3 s5 s6 G4 Fk2
 have z7 := V.Fr.size G4
 try simp only [V.cellsL, V.spliceL] at Fk2
 refine V.ru 2 ?_
 refine V.nt ?_
 refine V.seq ?_
 refine V.sr ?_
 refine V.loadO T_ok Fk2 rfl rfl rfl rfl rfl ?_
 replace F_oe := F_oe.gr G4
 replace F_od := F_od.gr G4
 replace F_oc := F_oc.gr G4
 replace F_op := F_op.gr G4
 replace F_or := F_or.gr G4
 refine V.call (mright_spec (mm := mm) F_oe (fun k hk => by have := hD_oe k hk; omega) F_od (fun k hk => by have := hD_od k hk; omega) F_oc (fun k hk => by have := hD_oc k hk; omega) F_op (fun k hk => by have := hD_op k hk; omega) F_or (fun k hk => by have := hD_or k hk; omega) (by first | (with_reducible assumption) | exact hz)) rfl rfl rfl ?_
 rintro _ w8 ⟨rfl, G9⟩
 have z10 := V.Fr.size G9
 refine V.ru 1 ?_
 refine V.nt ?_
 refine V.condT rfl (fun h1 => ?_) (fun h1 => ?_)
 ·
  try replace h1 := V.dec h1
  try simp only [V.mk] at h1
  refine V.sr ?_
  refine V.ru 2 ?_
  refine V.nt ?_
  refine V.ret ?_
  refine V.tR ?_
  refine V.done rfl ?_
  rw [show encM mm = [] from if_neg (by simp [*]), show encE mm = 181 from if_neg (by simp [*])]
  replace HG := HG.grow (G4.trans G9)
  exact ⟨none, 0, (by first | rfl | simp only [List.length_set]), V.Row.nil, HG⟩
 ·
  try replace h1 := V.dec h1
  try simp only [V.mk] at h1
  refine V.skip ?_
  refine V.tN ?_
  refine V.seq ?_
  have hmb : msgB mm = true := by simpa using h1
  have hsm := msg_small hmb
  have hel := hsm.el
  have hdl := hsm.dl
  have hml := msg_len hsm
  have hss := hsm.s
  have hzc := hz.c
  have hzr := hz.r
  obtain ⟨hm1, hm2, hm3, hm4, hm5⟩ := hml
  unfold stR at hss
  have hp1 : (mp1 mm).length = ((hdM mm).flatMap nb).length := rfl
  have hp3 : (mp3 mm).length = (mp2 mm).length + (mm.es.flatMap entb).length := by unfold mp3; rw [List.length_append]
  have hfo : (flagB mm.ok).length = 1 := rfl
  have hst := st_len (x := mm.nw) (y := mm.nl) (by omega) (by omega)
  have htd : (textB (V.S mm.da).data.toList).length ≤ 9 + mm.da.length := textB_len2 mm.da (by omega)
  refine V.region ?_
  refine V.ru 1 ?_
  refine V.nt ?_
  refine V.seq ?_
  refine V.sr ?_
  refine V.ru 1 ?_
  replace Fk2 := Fk2.gr G9
  refine V.loadO T_ok Fk2 rfl rfl rfl rfl rfl ?_
  refine V.ru 1 ?_
  refine V.loadO T_ok Fk2 rfl rfl rfl rfl rfl ?_
  refine V.ru 1 ?_
  refine V.loadO T_ok Fk2 rfl rfl rfl rfl rfl ?_
  refine V.ru 1 ?_
  refine V.loadO T_ok Fk2 rfl rfl rfl rfl rfl ?_
  refine V.ru 1 ?_
  refine V.loadO T_ok Fk2 rfl rfl rfl rfl rfl ?_
  refine V.ru 1 ?_
  refine V.loadO T_ok Fk2 rfl rfl rfl rfl rfl ?_
  refine V.ru 1 ?_
  refine V.loadO T_ok Fk2 rfl rfl rfl rfl rfl ?_
  refine V.ru 1 ?_
  refine V.loadO T_ok Fk2 rfl rfl rfl rfl rfl ?_
  refine V.mkSlice T_ok zero3 rfl rfl sz3 rfl rfl rfl rfl rfl rfl ?_
  rintro k11 w14 s16 s17 G15 Fk12
  have z18 := V.Fr.size G15
  have F13 := V.rowOfI (q := .i64) (xs := ([mm.kd, mm.fr, mm.to, mm.rg, mm.te, mm.ix, mm.lt, mm.co] : List Int)) Fk12 rfl rfl
  clear Fk12
  refine V.ru 2 ?_
  refine V.nt ?_
  refine V.block ?_
  have hlo : (([mm.kd, mm.fr, mm.to, mm.rg, mm.te, mm.ix, mm.lt, mm.co] : List Int)).length = 8 := rfl
  have hr19 : ([mm.kd, mm.fr, mm.to, mm.rg, mm.te, mm.ix, mm.lt, mm.co] : List Int) = hdM mm := rfl
  rw [hr19] at F13
  clear hr19
  have hlh : (hdM mm).length = 8 := rfl
  replace F_oe := F_oe.gr (G9.trans G15)
  replace F_od := F_od.gr (G9.trans G15)
  replace F_oc := F_oc.gr (G9.trans G15)
  replace F_op := F_op.gr (G9.trans G15)
  replace F_or := F_or.gr (G9.trans G15)
  replace Fk2 := Fk2.gr G15
  replace HG := HG.grow (G4.trans (G9.trans G15))
  refine V.loopM (fun m e v21 => Fr [] w v21 ∧ w14.heap.size ≤ v21.heap.size ∧ Sl V.Cod.ent v21 D_oe a_oe c_oe mm.es ∧ Sl V.Cod.byte v21 D_od a_od c_od mm.da ∧ Sl V.Cod.write v21 D_oc a_oc c_oc mm.c.ws ∧ Sl (V.Cod.pair V.Cod.str V.Cod.str) v21 D_op a_op c_op mm.r.ps ∧ Sl V.Cod.write v21 D_or a_or c_or mm.r.rc.ws ∧ Cells v21 k1 [.int .i64 mm.kd, .int .i64 mm.fr, .int .i64 mm.to, .int .i64 mm.rg, .int .i64 mm.te, .int .i64 mm.ix, .int .i64 mm.lt, .int .i64 mm.co, .bool mm.ok, .slice a_oe mm.es.length c_oe, .slice a_od mm.da.length c_od, .int .i64 mm.nw, .int .i64 mm.nl, .int .i64 mm.c.kd, .int .i64 mm.c.id, .int .i64 mm.c.le, .int .i64 mm.c.nd, .int .i64 mm.c.ti, .int .i64 mm.c.te, .string mm.c.an, .int .i64 mm.c.sw, .int .i64 mm.c.sl, .int .i64 mm.c.sq, .string mm.c.fr, .string mm.c.to, .string mm.c.va, .bool mm.c.go, .int .i64 mm.c.aw, .int .i64 mm.c.al, .int .i64 mm.c.lw, .int .i64 mm.c.ll, .bool mm.c.cm, .bool mm.c.st, .slice a_oc mm.c.ws.length c_oc, .int .i64 mm.c.pr, .int .i64 mm.r.er, .int .i64 mm.r.aw, .int .i64 mm.r.al, .slice a_op mm.r.ps.length c_op, .bool mm.r.fo, .int .i64 mm.r.ti, .int .i64 mm.r.te, .string mm.r.an, .int .i64 mm.r.sw, .int .i64 mm.r.sl, .int .i64 mm.r.rc.id, .int .i64 mm.r.rc.ep, .int .i64 mm.r.rc.st, .int .i64 mm.r.rc.aw, .int .i64 mm.r.rc.al, .int .i64 mm.r.rc.bw, .int .i64 mm.r.rc.bl, .slice a_or mm.r.rc.ws.length c_or] 50 ∧ V.Row (V.Cod.int .i64) 3 v21 V.None' k11 (k11 + 1) (some ⟨k11, 0, none⟩) (([mm.kd, mm.fr, mm.to, mm.rg, mm.te, mm.ix, mm.lt, mm.co] : List Int).length) (hdM mm) ∧ ∃ (i : Nat) (ra76 : Option Addr) (rc76 : Nat), m = (hdM mm).length - i ∧ i ≤ (hdM mm).length ∧ V.Row V.Cod.byte 5 v21 V.None' w.heap.size v21.heap.size ra76 rc76 (((hdM mm).take i).flatMap nb) ∧ e 1 = .pointer (some ⟨k1, 0, none⟩) ∧ e 4 = .slice ra76 (((hdM mm).take i).flatMap nb).length rc76 ∧ e 32 = .slice (some ⟨k11, 0, none⟩) 8 8 ∧ e 33 = .int .i64 (([mm.kd, mm.fr, mm.to, mm.rg, mm.te, mm.ix, mm.lt, mm.co] : List Int).length : Int) ∧ e 34 = .int .i64 (i : Int)) ?_ ?_
  ·
   exact ⟨_, HG, (by omega), F_oe, F_od, F_oc, F_op, F_or, Fk2, F13, (0), none, 0, rfl, (Nat.zero_le _), V.Row.nil, rfl, rfl, rfl, rfl, rfl⟩
  clear HG F_oe F_od F_oc F_op F_or Fk2 F13
  rintro _ e v21 ⟨HG, z22, F_oe, F_od, F_oc, F_op, F_or, Fk2, F13, i, ra76, rc76, rfl, hia, rF76, he0_1, he0_4, he0_32, he0_33, he0_34⟩
  have hta := fm_take_len (f := nb) (hdM mm) i
  refine V.knownC (t := 1) he0_1 ?_
  refine V.knownC (t := 4) he0_4 ?_
  refine V.knownC (t := 32) he0_32 ?_
  refine V.knownC (t := 33) he0_33 ?_
  refine V.knownC (t := 34) he0_34 ?_
  refine V.sr ?_
  refine V.ru 1 ?_
  refine V.nt ?_
  refine V.seq ?_
  refine V.condT rfl (fun h5 => ?_) (fun h5 => ?_)
  ·
   try replace h5 := V.dec h5
   try simp only [V.mk] at h5
   refine V.skip ?_
   refine V.tN ?_
   refine V.seq ?_
   refine V.block ?_
   refine V.sr ?_
   refine V.elem T_ok F13.sl rfl rfl sz3 rfl rfl rfl rfl V.lenA V.lenA ?_
   rintro b23 o24 cs25 hx26 hb27 hR30 hA28
   obtain ⟨x29, hx29⟩ : ∃ z', (hdM mm)[((i : Int)).toNat] = z' := ⟨_, rfl⟩
   rw [hx29] at hR30
   obtain rfl := hR30
   try simp only [Int.toNat_natCast] at hx29 hx26
   refine V.loadA T_ok (o0 := o24) (off := 0) hA28 rfl rfl rfl rfl rfl ?_
   refine V.ru 1 ?_
   refine V.nt ?_
   refine V.region ?_
   refine V.ru 2 ?_
   have hxl := hsm.h x29 (hx29 ▸ List.getElem_mem _)
   refine V.call (p_number (v := x29) rF76.sl (fun k hk => by have := hk.2; omega) V.lenA (by omega)) rfl rfl rfl ?_
   rintro _ w34 ⟨a31, c32, rfl, F33, G35⟩
   have z36 := V.Fr.size G35
   refine V.ru 1 ?_
   refine V.nil ?_
   refine V.bN ?_
   refine V.tN ?_
   refine V.region ?_
   refine V.addN rfl rfl rfl rfl rfl V.lenA V.lenA ?_
   refine V.ru 1 ?_
   refine V.nt ?_
   have hr37 : (((hdM mm).take i).flatMap nb) ++ numB x29.toNat = ((hdM mm).take (i + 1)).flatMap nb := (by exact fm_succ (by omega) hx29)
   rw [hr37] at F33 ⊢
   clear hr37
   
   replace F_oe := F_oe.gr G35
   replace F_od := F_od.gr G35
   replace F_oc := F_oc.gr G35
   replace F_op := F_op.gr G35
   replace F_or := F_or.gr G35
   replace Fk2 := Fk2.gr G35
   replace F13 := F13.gr G35
   replace HG := HG.grow G35
   exact ⟨_, (by omega), HG, (by omega), F_oe, F_od, F_oc, F_op, F_or, Fk2, F13, (i + 1), a31, c32, rfl, (by omega), F33.re, rfl, rfl, rfl, rfl, rfl⟩
  ·
   try replace h5 := V.dec h5
   try simp only [V.mk] at h5
   refine V.exit ?_
   refine V.tX ?_
   refine V.tX ?_
   refine V.bE ?_
   refine V.tN ?_
   refine V.seq ?_
   have hr38 : ((hdM mm).take i).flatMap nb = mp1 mm := (fm_all (by omega))
   rw [hr38] at rF76 ⊢
   clear hr38
   refine V.drawGT 7 (V.sel [(3, (fun v wz => ∃ (ra4 : Option Addr) (rc4 : Nat), v = .slice ra4 ((mp1 mm) ++ flagB mm.ok).length rc4 ∧ V.Row V.Cod.byte 5 wz V.None' v21.heap.size wz.heap.size ra4 rc4 ((mp1 mm) ++ flagB mm.ok)))]) mixed (by kernel_rfl) (V.mono_cons (by rintro v wz wz' g ⟨ra4, rc4, rfl, rF4⟩; exact ⟨ra4, rc4, rfl, (by first | exact (rF4.gr g).mono (V.In.sub (Nat.le_refl _) g.size) | exact rF4.gr g | exact (rF4.gr g).mono (fun _ h => h) (Nat.le_refl _) g.size | exact (rF4.gr g).mono (fun k h => ⟨h.1, Nat.lt_of_lt_of_le h.2 g.size⟩))⟩) V.mono_nil) ?_
   refine V.grun T_ok 2 rfl (V.sel_none rfl) ?_
   refine V.gloadO T_ok (fun w' h => Fk2.gr h.1) rfl rfl rfl rfl rfl rfl ?_
   refine V.gcall (fun w' h => (p_flag (v := mm.ok) (rF76.sl.gr h.1) (fun k hk => by have := Fr.size h.1; have := hk.2; omega) V.lenA).mono (by rintro v w'' ⟨ra4, rc4, rfl, rF4, G⟩; exact ⟨⟨ra4, rc4, rfl, (by first | exact rF4.mono (V.In.mono_l h.1.size) | exact rF4 | exact rF4.mono (fun _ h => h) h.1.size (Nat.le_refl _))⟩, G⟩)) rfl rfl rfl rfl ?_
   rintro _ w42 - - ⟨a39, c40, rfl, -⟩
   refine V.grun T_ok 1 rfl (V.sel_none rfl) ?_
   refine V.gloadO T_ok (fun w' h => Fk2.gr h.1) rfl rfl rfl rfl rfl rfl ?_
   refine V.grun T_ok 1 rfl (V.sel_none rfl) ?_
   refine V.gnil ?_
   rintro w43 G44 hH45
   have z46 := V.Fr.size G44
   have F41 : V.Row V.Cod.byte 5 w43 V.None' v21.heap.size w43.heap.size a39 c40 ((mp1 mm) ++ flagB mm.ok) := by
     obtain ⟨_, _, he, F0⟩ := (V.Hist.here (hH45 3))
     cases he
     exact F0
   clear hH45
   refine V.call (p_number (v := (mm.es.length : Int)) F41.sl (fun k hk => by have := hk.2; omega) V.lenA (by omega)) rfl rfl rfl ?_
   rintro _ w50 ⟨a47, c48, rfl, F49, G51⟩
   have z52 := V.Fr.size G51
   refine V.ru 1 ?_
   refine V.nt ?_
   refine V.seq ?_
   refine V.seq ?_
   have hr53 : ((mp1 mm) ++ flagB mm.ok) ++ numB (mm.es.length : Int).toNat = mp2 mm ++ (mm.es.take 0).flatMap entb := (by rw [List.take_zero, List.flatMap_nil, List.append_nil]; rfl)
   rw [hr53] at F49 ⊢
   clear hr53
   refine V.region ?_
   refine V.ru 1 ?_
   replace Fk2 := Fk2.gr (G44.trans G51)
   refine V.loadO T_ok Fk2 rfl rfl rfl rfl rfl ?_
   refine V.ru 2 ?_
   refine V.nt ?_
   refine V.block ?_
   replace F_oe := F_oe.gr (G44.trans G51)
   have hl63 := F_oe.len63
   replace F_od := F_od.gr (G44.trans G51)
   replace F_oc := F_oc.gr (G44.trans G51)
   replace F_op := F_op.gr (G44.trans G51)
   replace F_or := F_or.gr (G44.trans G51)
   replace F13 := F13.gr (G44.trans G51)
   replace rF76 := rF76.gr (G44.trans G51)
   replace F41 := F41.gr G51
   replace HG := HG.grow (G44.trans G51)
   refine V.loopM (fun m e v55 => Fr [] w v55 ∧ w50.heap.size ≤ v55.heap.size ∧ Sl V.Cod.ent v55 D_oe a_oe c_oe mm.es ∧ Sl V.Cod.byte v55 D_od a_od c_od mm.da ∧ Sl V.Cod.write v55 D_oc a_oc c_oc mm.c.ws ∧ Sl (V.Cod.pair V.Cod.str V.Cod.str) v55 D_op a_op c_op mm.r.ps ∧ Sl V.Cod.write v55 D_or a_or c_or mm.r.rc.ws ∧ Cells v55 k1 [.int .i64 mm.kd, .int .i64 mm.fr, .int .i64 mm.to, .int .i64 mm.rg, .int .i64 mm.te, .int .i64 mm.ix, .int .i64 mm.lt, .int .i64 mm.co, .bool mm.ok, .slice a_oe mm.es.length c_oe, .slice a_od mm.da.length c_od, .int .i64 mm.nw, .int .i64 mm.nl, .int .i64 mm.c.kd, .int .i64 mm.c.id, .int .i64 mm.c.le, .int .i64 mm.c.nd, .int .i64 mm.c.ti, .int .i64 mm.c.te, .string mm.c.an, .int .i64 mm.c.sw, .int .i64 mm.c.sl, .int .i64 mm.c.sq, .string mm.c.fr, .string mm.c.to, .string mm.c.va, .bool mm.c.go, .int .i64 mm.c.aw, .int .i64 mm.c.al, .int .i64 mm.c.lw, .int .i64 mm.c.ll, .bool mm.c.cm, .bool mm.c.st, .slice a_oc mm.c.ws.length c_oc, .int .i64 mm.c.pr, .int .i64 mm.r.er, .int .i64 mm.r.aw, .int .i64 mm.r.al, .slice a_op mm.r.ps.length c_op, .bool mm.r.fo, .int .i64 mm.r.ti, .int .i64 mm.r.te, .string mm.r.an, .int .i64 mm.r.sw, .int .i64 mm.r.sl, .int .i64 mm.r.rc.id, .int .i64 mm.r.rc.ep, .int .i64 mm.r.rc.st, .int .i64 mm.r.rc.aw, .int .i64 mm.r.rc.al, .int .i64 mm.r.rc.bw, .int .i64 mm.r.rc.bl, .slice a_or mm.r.rc.ws.length c_or] 50 ∧ V.Row (V.Cod.int .i64) 3 v55 V.None' k11 (k11 + 1) (some ⟨k11, 0, none⟩) (([mm.kd, mm.fr, mm.to, mm.rg, mm.te, mm.ix, mm.lt, mm.co] : List Int).length) (hdM mm) ∧ V.Row V.Cod.byte 5 v55 V.None' w.heap.size v21.heap.size ra76 rc76 (mp1 mm) ∧ V.Row V.Cod.byte 5 v55 V.None' v21.heap.size w43.heap.size a39 c40 ((mp1 mm) ++ flagB mm.ok) ∧ ∃ (i : Nat) (ra77 : Option Addr) (rc77 : Nat), m = (mm.es).length - i ∧ i ≤ (mm.es).length ∧ V.Row V.Cod.byte 5 v55 V.None' w.heap.size v55.heap.size ra77 rc77 (mp2 mm ++ ((mm.es).take i).flatMap entb) ∧ e 1 = .pointer (some ⟨k1, 0, none⟩) ∧ e 4 = .slice ra77 (mp2 mm ++ ((mm.es).take i).flatMap entb).length rc77 ∧ e 51 = .slice a_oe mm.es.length c_oe ∧ e 52 = .int .i64 (mm.es.length : Int) ∧ e 53 = .int .i64 (i : Int)) ?_ ?_
   ·
    exact ⟨_, HG, (by omega), F_oe, F_od, F_oc, F_op, F_or, Fk2, F13, rF76, F41, (0), a47, c48, rfl, (Nat.zero_le _), F49.re, rfl, rfl, rfl, rfl, rfl⟩
   try clear F49
   clear HG F_oe F_od F_oc F_op F_or Fk2 F13 rF76 F41
   rintro _ e v55 ⟨HG, z56, F_oe, F_od, F_oc, F_op, F_or, Fk2, F13, rF76, F41, i, ra77, rc77, rfl, hib, rF77, he1_1, he1_4, he1_51, he1_52, he1_53⟩
   have htb := fm_take_len (f := entb) (mm.es) i
   refine V.knownC (t := 1) he1_1 ?_
   refine V.knownC (t := 4) he1_4 ?_
   refine V.knownC (t := 51) he1_51 ?_
   refine V.knownC (t := 52) he1_52 ?_
   refine V.knownC (t := 53) he1_53 ?_
   refine V.sr ?_
   refine V.ru 1 ?_
   refine V.nt ?_
   refine V.seq ?_
   refine V.condT rfl (fun h11 => ?_) (fun h11 => ?_)
   ·
    try replace h11 := V.dec h11
    try simp only [V.mk] at h11
    refine V.skip ?_
    refine V.tN ?_
    refine V.seq ?_
    refine V.block ?_
    refine V.sr ?_
    refine V.elem T_ok F_oe rfl rfl sz74 rfl rfl rfl rfl V.lenA V.lenA ?_
    rintro b57 o58 cs59 hx60 hb61 hR67 hA62
    obtain ⟨x63, hx63⟩ : ∃ z', mm.es[((i : Int)).toNat] = z' := ⟨_, rfl⟩
    rw [hx63] at hR67
    obtain ⟨_, _, rfl, rfl, ⟨a64, c65, rfl, F66⟩⟩ := hR67
    try simp only [Int.toNat_natCast] at hx63 hx60
    refine V.loadA T_ok (o0 := o58) (off := 0) hA62 rfl rfl rfl rfl rfl ?_
    refine V.alloc zero74 rfl rfl rfl ?_
    rintro k68 w70 s72 s73 G71 Fk69
    have z74 := V.Fr.size G71
    try simp only [V.cellsL, V.spliceL] at Fk69
    refine V.storeO Fk69 rfl rfl rfl rfl sz74 rfl rfl rfl rfl ?_
    rintro w75 G76 z78 Fs77
    clear Fk69
    have z79 := V.Fr.size G76
    have Fk69 := Fs77; clear Fs77
    simp only [V.spliceL, V.cellsL] at Fk69
    refine V.nt ?_
    have hxw := hsm.ew x63 (hx63 ▸ List.getElem_mem _)
    have hxl : (textB (V.S x63.2).data.toList).length ≤ 9 + x63.2.length := textB_len2 x63.2 (by omega)
    have hxn := numB_len9 (v := x63.1) (by omega)
    refine V.drawGT 7 (V.sel [(3, (fun v wz => ∃ (ra2 : Option Addr) (rc2 : Nat), v = .slice ra2 ((mp2 mm ++ ((mm.es).take i).flatMap entb) ++ numB x63.1.toNat).length rc2 ∧ V.Row V.Cod.byte 5 wz V.None' w75.heap.size wz.heap.size ra2 rc2 ((mp2 mm ++ ((mm.es).take i).flatMap entb) ++ numB x63.1.toNat)))]) mixed (by kernel_rfl) (V.mono_cons (by rintro v wz wz' g ⟨ra2, rc2, rfl, rF2⟩; exact ⟨ra2, rc2, rfl, (by first | exact (rF2.gr g).mono (V.In.sub (Nat.le_refl _) g.size) | exact rF2.gr g | exact (rF2.gr g).mono (fun _ h => h) (Nat.le_refl _) g.size | exact (rF2.gr g).mono (fun k h => ⟨h.1, Nat.lt_of_lt_of_le h.2 g.size⟩))⟩) V.mono_nil) ?_
    refine V.grun T_ok 2 rfl (V.sel_none rfl) ?_
    refine V.gloadO T_ok (fun w' h => Fk69.gr h.1) rfl rfl rfl rfl rfl rfl ?_
    replace rF77 := rF77.gr G71
    replace rF77 := rF77.ma G76
    refine V.gcall (fun w' h => (p_number (v := x63.1) (rF77.sl.gr h.1) (fun k hk => by have := Fr.size h.1; have := hk.2; omega) V.lenA (by omega)).mono (by rintro v w'' ⟨ra2, rc2, rfl, rF2, G⟩; exact ⟨⟨ra2, rc2, rfl, (by first | exact rF2.mono (V.In.mono_l h.1.size) | exact rF2 | exact rF2.mono (fun _ h => h) h.1.size (Nat.le_refl _))⟩, G⟩)) rfl rfl rfl rfl ?_
    rintro _ w83 - - ⟨a80, c81, rfl, -⟩
    refine V.grun T_ok 1 rfl (V.sel_none rfl) ?_
    refine V.gloadO T_ok (fun w' h => Fk69.gr h.1) rfl rfl rfl rfl rfl rfl ?_
    replace F66 := F66.gr G71
    replace F66 := F66.mb G76 hD_oe
    refine V.gtoStr (fun w' h => F66.gr h.1) Tryz.underlying31 Tryz.underlying5 Tryz.underlying9 rfl rfl rfl rfl rfl ?_
    refine V.gnil ?_
    rintro w84 G85 hH86
    have z87 := V.Fr.size G85
    have F82 : V.Row V.Cod.byte 5 w84 V.None' w75.heap.size w84.heap.size a80 c81 ((mp2 mm ++ ((mm.es).take i).flatMap entb) ++ numB x63.1.toNat) := by
      obtain ⟨_, _, he, F0⟩ := (V.Hist.here (hH86 3))
      cases he
      exact F0
    clear hH86
    refine V.call (p_text (s := (V.S x63.2)) F82.sl (fun k hk => by have := hk.2; omega) V.lenA (by first | omega | decide | (simp only [V.S_size, List.length_cons, List.length_nil]; omega))) rfl rfl rfl ?_
    rintro _ w91 ⟨a88, c89, rfl, F90, G92⟩
    have z93 := V.Fr.size G92
    refine V.ru 1 ?_
    refine V.nil ?_
    refine V.bN ?_
    refine V.tN ?_
    refine V.region ?_
    refine V.addN rfl rfl rfl rfl rfl V.lenA V.lenA ?_
    refine V.ru 1 ?_
    refine V.nt ?_
    have hr94 : ((mp2 mm ++ ((mm.es).take i).flatMap entb) ++ numB x63.1.toNat) ++ textB (V.S x63.2).data.toList = mp2 mm ++ ((mm.es).take (i + 1)).flatMap entb := (by rw [← fm_succ (f := entb) (by omega) hx63]; simp [entb, nb, List.append_assoc])
    rw [hr94] at F90 ⊢
    clear hr94
    
    replace F_oe := F_oe.gr G71
    replace F_oe := F_oe.mb G76 hD_oe
    replace F_oe := F_oe.gr (G85.trans G92)
    replace F_od := F_od.gr G71
    replace F_od := F_od.mb G76 hD_od
    replace F_od := F_od.gr (G85.trans G92)
    replace F_oc := F_oc.gr G71
    replace F_oc := F_oc.mb G76 hD_oc
    replace F_oc := F_oc.gr (G85.trans G92)
    replace F_op := F_op.gr G71
    replace F_op := F_op.mb G76 hD_op
    replace F_op := F_op.gr (G85.trans G92)
    replace F_or := F_or.gr G71
    replace F_or := F_or.mb G76 hD_or
    replace F_or := F_or.gr (G85.trans G92)
    replace Fk2 := Fk2.gr G71
    replace Fk2 := Fk2.ma G76
    replace Fk2 := Fk2.gr (G85.trans G92)
    replace F13 := F13.gr G71
    replace F13 := F13.ma G76
    replace F13 := F13.gr (G85.trans G92)
    replace rF76 := rF76.gr G71
    replace rF76 := rF76.ma G76
    replace rF76 := rF76.gr (G85.trans G92)
    replace F41 := F41.gr G71
    replace F41 := F41.ma G76
    replace F41 := F41.gr (G85.trans G92)
    replace HG := HG.grow G71
    replace HG := HG.n1 G76
    replace HG := HG.grow (G85.trans G92)
    exact ⟨_, (by omega), HG, (by omega), F_oe, F_od, F_oc, F_op, F_or, Fk2, F13, rF76, F41, (i + 1), a88, c89, rfl, (by omega), F90.re, rfl, rfl, rfl, rfl, rfl⟩
   ·
    try replace h11 := V.dec h11
    try simp only [V.mk] at h11
    refine V.exit ?_
    refine V.tX ?_
    refine V.tX ?_
    refine V.bE ?_
    refine V.tN ?_
    refine V.seq ?_
    have hr95 : mp2 mm ++ ((mm.es).take i).flatMap entb = mp3 mm := (by rw [fm_all (by omega)]; rfl)
    rw [hr95] at rF77 ⊢
    clear hr95
    refine V.drawGT 7 (V.sel [(4, (fun v wz => ∃ (ra3 : Option Addr) (rc3 : Nat), v = .slice ra3 ((mp3 mm) ++ textB (V.S mm.da).data.toList).length rc3 ∧ V.Row V.Cod.byte 5 wz V.None' v55.heap.size wz.heap.size ra3 rc3 ((mp3 mm) ++ textB (V.S mm.da).data.toList)))]) mixed (by kernel_rfl) (V.mono_cons (by rintro v wz wz' g ⟨ra3, rc3, rfl, rF3⟩; exact ⟨ra3, rc3, rfl, (by first | exact (rF3.gr g).mono (V.In.sub (Nat.le_refl _) g.size) | exact rF3.gr g | exact (rF3.gr g).mono (fun _ h => h) (Nat.le_refl _) g.size | exact (rF3.gr g).mono (fun k h => ⟨h.1, Nat.lt_of_lt_of_le h.2 g.size⟩))⟩) V.mono_nil) ?_
    refine V.grun T_ok 2 rfl (V.sel_none rfl) ?_
    refine V.gloadO T_ok (fun w' h => Fk2.gr h.1) rfl rfl rfl rfl rfl rfl ?_
    refine V.gtoStr (fun w' h => F_od.gr h.1) Tryz.underlying31 Tryz.underlying5 Tryz.underlying9 rfl rfl rfl rfl rfl ?_
    refine V.gcall (fun w' h => (p_text (s := (V.S mm.da)) (rF77.sl.gr h.1) (fun k hk => by have := Fr.size h.1; have := hk.2; omega) V.lenA (by first | omega | decide | (simp only [V.S_size, List.length_cons, List.length_nil]; omega))).mono (by rintro v w'' ⟨ra3, rc3, rfl, rF3, G⟩; exact ⟨⟨ra3, rc3, rfl, (by first | exact rF3.mono (V.In.mono_l h.1.size) | exact rF3 | exact rF3.mono (fun _ h => h) h.1.size (Nat.le_refl _))⟩, G⟩)) rfl rfl rfl rfl ?_
    rintro _ w99 - - ⟨a96, c97, rfl, -⟩
    refine V.grun T_ok 1 rfl (V.sel_none rfl) ?_
    refine V.gloadO T_ok (fun w' h => Fk2.gr h.1) rfl rfl rfl rfl rfl rfl ?_
    refine V.gnil ?_
    rintro w100 G101 hH102
    have z103 := V.Fr.size G101
    have F98 : V.Row V.Cod.byte 5 w100 V.None' v55.heap.size w100.heap.size a96 c97 ((mp3 mm) ++ textB (V.S mm.da).data.toList) := by
      obtain ⟨_, _, he, F0⟩ := (V.Hist.here (hH102 4))
      cases he
      exact F0
    clear hH102
    refine V.call (sput_spec (a := mm.nw) (b := mm.nl) F98.sl (fun k hk => by have := hk.2; omega) V.lenA (by omega) (by omega)) rfl rfl rfl ?_
    rintro _ w107 ⟨a104, c105, rfl, F106, G108⟩
    have z109 := V.Fr.size G108
    refine V.ru 1 ?_
    refine V.nt ?_
    replace F_oe := F_oe.gr (G101.trans G108)
    replace F_od := F_od.gr (G101.trans G108)
    replace F_oc := F_oc.gr (G101.trans G108)
    replace F_op := F_op.gr (G101.trans G108)
    replace F_or := F_or.gr (G101.trans G108)
    replace Fk2 := Fk2.gr (G101.trans G108)
    replace F13 := F13.gr (G101.trans G108)
    replace rF76 := rF76.gr (G101.trans G108)
    replace F41 := F41.gr (G101.trans G108)
    replace rF77 := rF77.gr (G101.trans G108)
    replace F98 := F98.gr G108
    replace HG := HG.grow (G101.trans G108)
    refine V.seqJ (fun e v111 => Fr [] w v111 ∧ w107.heap.size ≤ v111.heap.size ∧ Sl V.Cod.ent v111 D_oe a_oe c_oe mm.es ∧ Sl V.Cod.byte v111 D_od a_od c_od mm.da ∧ Sl V.Cod.write v111 D_oc a_oc c_oc mm.c.ws ∧ Sl (V.Cod.pair V.Cod.str V.Cod.str) v111 D_op a_op c_op mm.r.ps ∧ Sl V.Cod.write v111 D_or a_or c_or mm.r.rc.ws ∧ Cells v111 k1 [.int .i64 mm.kd, .int .i64 mm.fr, .int .i64 mm.to, .int .i64 mm.rg, .int .i64 mm.te, .int .i64 mm.ix, .int .i64 mm.lt, .int .i64 mm.co, .bool mm.ok, .slice a_oe mm.es.length c_oe, .slice a_od mm.da.length c_od, .int .i64 mm.nw, .int .i64 mm.nl, .int .i64 mm.c.kd, .int .i64 mm.c.id, .int .i64 mm.c.le, .int .i64 mm.c.nd, .int .i64 mm.c.ti, .int .i64 mm.c.te, .string mm.c.an, .int .i64 mm.c.sw, .int .i64 mm.c.sl, .int .i64 mm.c.sq, .string mm.c.fr, .string mm.c.to, .string mm.c.va, .bool mm.c.go, .int .i64 mm.c.aw, .int .i64 mm.c.al, .int .i64 mm.c.lw, .int .i64 mm.c.ll, .bool mm.c.cm, .bool mm.c.st, .slice a_oc mm.c.ws.length c_oc, .int .i64 mm.c.pr, .int .i64 mm.r.er, .int .i64 mm.r.aw, .int .i64 mm.r.al, .slice a_op mm.r.ps.length c_op, .bool mm.r.fo, .int .i64 mm.r.ti, .int .i64 mm.r.te, .string mm.r.an, .int .i64 mm.r.sw, .int .i64 mm.r.sl, .int .i64 mm.r.rc.id, .int .i64 mm.r.rc.ep, .int .i64 mm.r.rc.st, .int .i64 mm.r.rc.aw, .int .i64 mm.r.rc.al, .int .i64 mm.r.rc.bw, .int .i64 mm.r.rc.bl, .slice a_or mm.r.rc.ws.length c_or] 50 ∧ V.Row (V.Cod.int .i64) 3 v111 V.None' k11 (k11 + 1) (some ⟨k11, 0, none⟩) (([mm.kd, mm.fr, mm.to, mm.rg, mm.te, mm.ix, mm.lt, mm.co] : List Int).length) (hdM mm) ∧ V.Row V.Cod.byte 5 v111 V.None' w.heap.size v21.heap.size ra76 rc76 (mp1 mm) ∧ V.Row V.Cod.byte 5 v111 V.None' v21.heap.size w43.heap.size a39 c40 ((mp1 mm) ++ flagB mm.ok) ∧ V.Row V.Cod.byte 5 v111 V.None' w.heap.size v55.heap.size ra77 rc77 (mp3 mm) ∧ V.Row V.Cod.byte 5 v111 V.None' v55.heap.size w100.heap.size a96 c97 ((mp3 mm) ++ textB (V.S mm.da).data.toList) ∧ V.Row V.Cod.byte 5 v111 V.None' w100.heap.size w107.heap.size a104 c105 (((mp3 mm) ++ textB (V.S mm.da).data.toList) ++ stB mm.nw mm.nl) ∧ ∃ (ra75 : Option Addr) (rc75 : Nat), V.Row V.Cod.byte 5 v111 V.None' w.heap.size v111.heap.size ra75 rc75 (bodyM mm) ∧ e 4 = .slice ra75 (bodyM mm).length rc75 ∧ True) ?_ ?_
    ·
     refine V.seq ?_
     have hr112 : ((mp3 mm) ++ textB (V.S mm.da).data.toList) ++ stB mm.nw mm.nl = mp4 mm := rfl
     rw [hr112] at F106 ⊢
     clear hr112
     refine V.region ?_
     refine V.ru 1 ?_
     refine V.loadO T_ok Fk2 rfl rfl rfl rfl rfl ?_
     refine V.nt ?_
     refine V.block ?_
     refine V.sr ?_
     refine V.ru 2 ?_
     refine V.nt ?_
     refine V.condT rfl (fun h17 => ?_) (fun h17 => ?_)
     ·
      try replace h17 := V.dec h17
      try simp only [V.mk] at h17
      refine V.seq ?_
      have hc6 := hsm.c h17
      have hle6 := enc_len hc6
      refine V.region ?_
      refine V.ru 1 ?_
      refine V.loadO T_ok Fk2 rfl rfl rfl rfl rfl ?_
      refine V.call (encode_spec (d := mm.c) F_oc (fun k hk => by have := hD_oc k hk; omega) (by first | (with_reducible assumption) | exact hz | (constructor <;> first | exact hz.an | exact hz.fr | exact hz.to | exact hz.va | exact hz.ws | exact (by decide : (S []).size ≤ 9223372036854775807) | exact (fun x hx => nomatch (show x ∈ ([] : List (ByteArray × Int)) from hx))))) rfl rfl rfl ?_
      rintro _ w116 ⟨a113, c114, rfl, F115, G117⟩
      have z118 := V.Fr.size G117
      refine V.ru 5 ?_
      refine V.nt ?_
      have hr119 : (if cmdB mm.c = true then encB mm.c else []) = encB mm.c := if_pos hc6
      rw [hr119] at F115 ⊢
      clear hr119
      refine V.region ?_
      refine V.ru 2 ?_
      refine V.toStr F115.sl Tryz.underlying31 Tryz.underlying5 Tryz.underlying9 rfl rfl rfl rfl ?_
      replace F106 := F106.gr G117
      refine V.call (p_text (s := (V.S (encB mm.c))) F106.sl (fun k hk => by have := hk.2; omega) V.lenA (by first | omega | decide | (simp only [V.S_size, List.length_cons, List.length_nil]; omega))) rfl rfl rfl ?_
      rintro _ w123 ⟨a120, c121, rfl, F122, G124⟩
      have z125 := V.Fr.size G124
      refine V.ru 1 ?_
      refine V.nil ?_
      refine V.bN ?_
      refine V.tN ?_
      have hr126 : (mp4 mm) ++ textB (V.S (encB mm.c)).data.toList = bodyM mm := (by unfold bodyM; rw [if_pos h17]; simp)
      rw [hr126] at F122 ⊢
      clear hr126
      replace F_oe := F_oe.gr (G117.trans G124)
      replace F_od := F_od.gr (G117.trans G124)
      replace F_oc := F_oc.gr (G117.trans G124)
      replace F_op := F_op.gr (G117.trans G124)
      replace F_or := F_or.gr (G117.trans G124)
      replace Fk2 := Fk2.gr (G117.trans G124)
      replace F13 := F13.gr (G117.trans G124)
      replace rF76 := rF76.gr (G117.trans G124)
      replace F41 := F41.gr (G117.trans G124)
      replace rF77 := rF77.gr (G117.trans G124)
      replace F98 := F98.gr (G117.trans G124)
      replace F106 := F106.gr G124
      replace HG := HG.grow (G117.trans G124)
      exact ⟨HG, (by omega), F_oe, F_od, F_oc, F_op, F_or, Fk2, F13, rF76, F41, rF77, F98, F106, a120, c121, F122.re, rfl, trivial⟩
     ·
      try replace h17 := V.dec h17
      try simp only [V.mk] at h17
      refine V.sr ?_
      refine V.ru 2 ?_
      refine V.nt ?_
      refine V.condT rfl (fun h20 => ?_) (fun h20 => ?_)
      ·
       try replace h20 := V.dec h20
       try simp only [V.mk] at h20
       have hr7 := res_small (hsm.r h20)
       refine V.region ?_
       refine V.ru 2 ?_
       refine V.loadO T_ok Fk2 rfl rfl rfl rfl rfl ?_
       refine V.call (putres_spec (x := mm.r) F106.sl (fun k hk => by have := hk.2; omega) F_op (fun k hk => by have := hD_op k hk; omega) F_or (fun k hk => by have := hD_or k hk; omega) V.lenA (by assumption)) rfl rfl rfl ?_
       rintro _ w130 ⟨a127, c128, rfl, F129, G131⟩
       have z132 := V.Fr.size G131
       refine V.ru 1 ?_
       refine V.nil ?_
       refine V.bN ?_
       refine V.tN ?_
       have hr133 : (mp4 mm) ++ resBy mm.r = bodyM mm := (by unfold bodyM; rw [if_neg (by omega), if_pos h20])
       rw [hr133] at F129 ⊢
       clear hr133
       replace F_oe := F_oe.gr G131
       replace F_od := F_od.gr G131
       replace F_oc := F_oc.gr G131
       replace F_op := F_op.gr G131
       replace F_or := F_or.gr G131
       replace Fk2 := Fk2.gr G131
       replace F13 := F13.gr G131
       replace rF76 := rF76.gr G131
       replace F41 := F41.gr G131
       replace rF77 := rF77.gr G131
       replace F98 := F98.gr G131
       replace F106 := F106.gr G131
       replace HG := HG.grow G131
       exact ⟨HG, (by omega), F_oe, F_od, F_oc, F_op, F_or, Fk2, F13, rF76, F41, rF77, F98, F106, a127, c128, F129.re, rfl, trivial⟩
      ·
       try replace h20 := V.dec h20
       try simp only [V.mk] at h20
       refine V.skip ?_
       refine V.bN ?_
       refine V.tN ?_
       have hr134 : mp4 mm = bodyM mm := (by unfold bodyM; rw [if_neg (by omega), if_neg (by omega)])
       rw [hr134] at F106 ⊢
       clear hr134
       exact ⟨HG, (by omega), F_oe, F_od, F_oc, F_op, F_or, Fk2, F13, rF76, F41, rF77, F98, F106, a104, c105, F106.re, rfl, trivial⟩
    clear HG F_oe F_od F_oc F_op F_or Fk2 F13 rF76 F41 rF77 F98 F106
    rintro e v111 ⟨HG, z135, F_oe, F_od, F_oc, F_op, F_or, Fk2, F13, rF76, F41, rF77, F98, F106, ra75, rc75, rF75, hjn110_4, -⟩
    refine V.knownC (t := 4) hjn110_4 ?_
    refine V.sr ?_
    refine V.ru 1 ?_
    refine V.call (frame_spec rF75.sl (fun k hk => by have := hk.2; omega)) rfl rfl rfl ?_
    rintro _ w139 ⟨a136, c137, rfl, F138, G140⟩
    have z141 := V.Fr.size G140
    refine V.ru 5 ?_
    refine V.nt ?_
    refine V.seq ?_
    refine V.sr ?_
    refine V.ru 2 ?_
    refine V.nt ?_
    refine V.condT rfl (fun h23 => ?_) (fun h23 => ?_)
    ·
     try replace h23 := V.dec h23
     try simp only [V.mk] at h23
     refine V.sr ?_
     refine V.ru 2 ?_
     refine V.nt ?_
     refine V.ret ?_
     refine V.tR ?_
     refine V.done rfl ?_
     rw [show encM mm = [] from if_neg (fun hq => h23 (frm_e0 hm5 hq.2)), show encE mm = 181 from if_neg (fun hq => h23 (frm_e0 hm5 hq.2))]
     replace HG := HG.grow G140
     exact ⟨none, 0, (by first | rfl | simp only [List.length_set]), V.Row.nil, HG⟩
    ·
     try replace h23 := V.dec h23
     try simp only [V.mk] at h23
     refine V.skip ?_
     refine V.tN ?_
     refine V.sr ?_
     refine V.ru 3 ?_
     refine V.nt ?_
     refine V.ret ?_
     refine V.done rfl ?_
     have hfl := frm_le h23
     rw [show encM mm = (frmB (bodyM mm)).1 from if_pos ⟨hmb, hfl⟩, show encE mm = 0 from if_pos ⟨hmb, hfl⟩]
     replace HG := HG.grow G140
     exact ⟨a136, c137, (by first | rfl | simp only [List.length_set]), F138.re, HG⟩

end Go.Proofs.YtmmgmkklakkooaaGreat
