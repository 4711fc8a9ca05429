/- Proved here: walks: what functions of this seat's program return and what they leave of memory, each as a contract. Conditions: stated at each theorem. -/
import Derived.Test.YtmmgmkklakkooaaGreatMrec2
namespace Go.Proofs.YtmmgmkklakkooaaGreat
set_option linter.unusedVariables false
set_option linter.unusedSimpArgs false
open Go
open V (Bytes Meets Env Sl Own Gr Fr Cells S)

def wrsB (ws : List (ByteArray × Int)) : List UInt8 := ws.flatMap fun x => textB x.1.data.toList ++ numB x.2.toNat
/-- a record's bytes -/
def recBy (d : RecV) : List UInt8 := numB d.id.toNat ++ (numB d.ep.toNat ++ (numB d.st.toNat ++ (stB d.aw d.al ++ (stB d.bw d.bl ++ (numB d.ws.length ++ wrsB d.ws)))))
theorem wrsB_succ {ws : List (ByteArray × Int)} {i : Nat} {x : ByteArray × Int} (hi : i < ws.length) (hx : ws[i] = x) : wrsB (ws.take i) ++ (textB x.1.data.toList ++ numB x.2.toNat) = wrsB (ws.take (i + 1)) := by
  subst hx; unfold wrsB; rw [List.take_succ_eq_append_getElem hi, List.flatMap_append]; simp
def small (ws : List (ByteArray × Int)) : Prop := ws.length ≤ 100 ∧ ∀ x ∈ ws, x.1.size ≤ 1000 ∧ x.2 ≤ 9223372036854775807
theorem wr_len {x : ByteArray × Int} (h : x.1.size ≤ 1000 ∧ x.2 ≤ 9223372036854775807) : (textB x.1.data.toList ++ numB x.2.toNat).length ≤ 1018 := by
  have h1 := numB_len9 h.2
  have h2 := numB_len9 (v := (x.1.size : Int)) (by omega)
  rw [Int.toNat_natCast] at h2
  rw [List.length_append, textB_len]; omega
theorem wrsB_len : ∀ {ws : List (ByteArray × Int)}, (∀ x ∈ ws, x.1.size ≤ 1000 ∧ x.2 ≤ 9223372036854775807) → (wrsB ws).length ≤ 1018 * ws.length
  | [], _ => by simp [wrsB]
  | x :: ws, h => by
    have h1 := wr_len (h x (by simp))
    have h2 := wrsB_len (ws := ws) (fun y hy => h y (by simp [hy]))
    have e : wrsB (x :: ws) = (textB x.1.data.toList ++ numB x.2.toNat) ++ wrsB ws := rfl
    rw [e, List.length_append, List.length_cons]; omega
theorem small_take {ws : List (ByteArray × Int)} (h : small ws) (i : Nat) : (wrsB (ws.take i)).length ≤ 101800 := by
  have := wrsB_len (ws := ws.take i) (fun x hx => h.2 x (List.mem_of_mem_take hx))
  have h1 := h.1
  have h2 : (ws.take i).length ≤ ws.length := by simp; omega
  omega
theorem stB_len {x y : Int} (hx : x ≤ 9223372036854775807) (hy : y ≤ 9223372036854775807) : (stB x y).length ≤ 18 := by
  have h1 := numB_len9 hx
  have h2 := numB_len9 hy
  rw [stB, List.length_append]; omega
/-- its numbers are the machine's -/
def inR64 (d : RecV) : Prop := d.id ≤ 9223372036854775807 ∧ d.ep ≤ 9223372036854775807 ∧ d.st ≤ 9223372036854775807 ∧ d.aw ≤ 9223372036854775807 ∧ d.al ≤ 9223372036854775807 ∧ d.bw ≤ 9223372036854775807 ∧ d.bl ≤ 9223372036854775807


theorem recBy_len {d : RecV} (hd : inR64 d) (h : small d.ws) : (recBy d).length ≤ 109000 := by
  obtain ⟨i1, i2, i3, i4, i5, i6, i7⟩ := hd
  have n1 := numB_len9 i1
  have n2 := numB_len9 i2
  have n3 := numB_len9 i3
  have n4 := stB_len i4 i5
  have n5 := stB_len i6 i7
  have n6 := numB_len9 (v := (d.ws.length : Int)) (by have := h.1; omega)
  rw [Int.toNat_natCast] at n6
  have n7 := wrsB_len h.2
  have := h.1
  simp only [recBy, List.length_append]; omega

set_option maxHeartbeats 900000 in
set_option maxRecDepth 10000 in
theorem rput_spec {w : World}  {D_b : Nat → Prop} {c_b : Nat} {a_b : Option Addr} {b : List UInt8} (F_b : Sl V.Cod.byte w D_b a_b c_b b) (hD_b : ∀ k, D_b k → k < w.heap.size) {d : RecV} {D_o : Nat → Prop} {c_o : Nat} {a_o : Option Addr} (F_o : Sl V.Cod.write w D_o a_o c_o d.ws) (hD_o : ∀ k, D_o k → k < w.heap.size) (hl : b.length ≤ 1099511627776) (hd : inR64 d) (hs : small d.ws) :
    Meets Tryz.prog 84 [.slice a_b b.length c_b, .agg #[.int .i64 d.id, .int .i64 d.ep, .int .i64 d.st, .int .i64 d.aw, .int .i64 d.al, .int .i64 d.bw, .int .i64 d.bl, .slice a_o d.ws.length c_o]] w fun r w' => ∃ (ra33 : Option Addr) (rc33 : Nat), r = .slice ra33 (b ++ recBy d).length rc33 ∧ V.Row V.Cod.byte 5 w' V.None' w.heap.size w'.heap.size ra33 rc33 (b ++ recBy d) ∧ Gr w w' := by
 obtain ⟨i1, i2, i3, i4, i5, i6, i7⟩ := hd
 obtain ⟨s1, s2⟩ := hs
 have n1 := numB_len9 i1
 have n2 := numB_len9 i2
 have n3 := numB_len9 i3
 have n4 := stB_len i4 i5
 have n5 := stB_len i6 i7
 have n6 := numB_len9 (v := (d.ws.length : Int)) (by omega)
 rw [Int.toNat_natCast] at n6
 have HG := V.Fr.refl [] w
 refine V.enter (n := 44) Tryz.func84 rfl rfl (by decide) rfl ?_
 refine V.sr ?_
 refine V.box rfl rfl rfl rfl ?_
 rintro k1 w3 s5 s6 G4 Fk2
 have z7 := V.Fr.size G4
 try simp only [V.cellsL, V.spliceL] at Fk2
 refine V.ru 1 ?_
 refine V.nt ?_
 refine V.seq ?_
 refine V.drawGT 9 (V.sel [(3, (fun v wz => ∃ (ra2 : Option Addr) (rc2 : Nat), v = .slice ra2 (b ++ numB d.id.toNat).length rc2 ∧ V.Row V.Cod.byte 5 wz V.None' w3.heap.size wz.heap.size ra2 rc2 (b ++ numB d.id.toNat))), (6, (fun v wz => ∃ (ra2 : Option Addr) (rc2 : Nat), v = .slice ra2 ((b ++ numB d.id.toNat) ++ numB d.ep.toNat).length rc2 ∧ V.Row V.Cod.byte 5 wz V.None' w3.heap.size wz.heap.size ra2 rc2 ((b ++ numB d.id.toNat) ++ numB d.ep.toNat)))]) mixed (by kernel_rfl) (V.mono_cons (by rintro v wz wz' g ⟨ra2, rc2, rfl, rF2⟩; exact ⟨ra2, rc2, rfl, (by first | exact (rF2.gr g).mono (V.In.sub (Nat.le_refl _) g.size) | exact rF2.gr g | exact (rF2.gr g).mono (fun _ h => h) (Nat.le_refl _) g.size | exact (rF2.gr g).mono (fun k h => ⟨h.1, Nat.lt_of_lt_of_le h.2 g.size⟩))⟩) (V.mono_cons (by rintro v wz wz' g ⟨ra2, rc2, rfl, rF2⟩; exact ⟨ra2, rc2, rfl, (by first | exact (rF2.gr g).mono (V.In.sub (Nat.le_refl _) g.size) | exact rF2.gr g | exact (rF2.gr g).mono (fun _ h => h) (Nat.le_refl _) g.size | exact (rF2.gr g).mono (fun k h => ⟨h.1, Nat.lt_of_lt_of_le h.2 g.size⟩))⟩) V.mono_nil)) ?_
 refine V.grun T_ok 2 rfl (V.sel_none rfl) ?_
 refine V.gloadO T_ok (fun w' h => Fk2.gr h.1) rfl rfl rfl rfl rfl rfl ?_
 replace F_b := F_b.gr G4
 refine V.gcall (fun w' h => (p_number (v := d.id) (F_b.gr h.1) (fun k hk => by have := Fr.size h.1; have := hD_b k hk; omega) V.lenA (by omega)).mono (by rintro v w'' ⟨ra2, rc2, rfl, rF2, G⟩; exact ⟨⟨ra2, rc2, rfl, (by first | exact rF2.mono (V.In.mono_l h.1.size) | exact rF2 | exact rF2.mono (fun _ h => h) h.1.size (Nat.le_refl _))⟩, G⟩)) rfl rfl rfl rfl ?_
 rintro _ w11 - - ⟨a8, c9, rfl, -⟩
 refine V.grun T_ok 1 rfl (V.sel_none rfl) ?_
 refine V.gloadO T_ok (fun w' h => Fk2.gr h.1) rfl rfl rfl rfl rfl rfl ?_
 refine V.gcall (fun w' h => (p_number (v := d.ep) (by obtain ⟨_, _, he, F0⟩ := (V.Hist.here (h.get (i := 3) rfl)); cases he; exact F0.sl) (fun k hk => by have := Fr.size h.1; have := hk.2; omega) V.lenA (by omega)).mono (by rintro v w'' ⟨ra2, rc2, rfl, rF2, G⟩; exact ⟨⟨ra2, rc2, rfl, (by first | exact rF2.mono (V.In.mono_l h.1.size) | exact rF2 | exact rF2.mono (fun _ h => h) h.1.size (Nat.le_refl _))⟩, G⟩)) rfl rfl rfl rfl ?_
 rintro _ w15 - - ⟨a12, c13, rfl, -⟩
 refine V.grun T_ok 1 rfl (V.sel_none rfl) ?_
 refine V.gloadO T_ok (fun w' h => Fk2.gr h.1) rfl rfl rfl rfl rfl rfl ?_
 refine V.gnil ?_
 rintro w16 G17 hH18
 have z19 := V.Fr.size G17
 have F10 : V.Row V.Cod.byte 5 w16 V.None' w3.heap.size w16.heap.size a8 c9 (b ++ numB d.id.toNat) := by
   obtain ⟨_, _, he, F0⟩ := (V.Hist.here (V.Hist.old (hH18 3)))
   cases he
   exact F0
 have F14 : V.Row V.Cod.byte 5 w16 V.None' w3.heap.size w16.heap.size a12 c13 ((b ++ numB d.id.toNat) ++ numB d.ep.toNat) := by
   obtain ⟨_, _, he, F0⟩ := (V.Hist.here (hH18 6))
   cases he
   exact F0
 clear hH18
 refine V.call (p_number (v := d.st) F14.sl (fun k hk => by have := hk.2; omega) V.lenA (by omega)) rfl rfl rfl ?_
 rintro _ w23 ⟨a20, c21, rfl, F22, G24⟩
 have z25 := V.Fr.size G24
 refine V.ru 1 ?_
 refine V.nt ?_
 refine V.seq ?_
 refine V.drawGT 10 (V.sel [(3, (fun v wz => ∃ (ra19 : Option Addr) (rc19 : Nat), v = .slice ra19 ((((b ++ numB d.id.toNat) ++ numB d.ep.toNat) ++ numB d.st.toNat) ++ stB d.aw d.al).length rc19 ∧ V.Row V.Cod.byte 5 wz V.None' w23.heap.size wz.heap.size ra19 rc19 ((((b ++ numB d.id.toNat) ++ numB d.ep.toNat) ++ numB d.st.toNat) ++ stB d.aw d.al))), (6, (fun v wz => ∃ (ra19 : Option Addr) (rc19 : Nat), v = .slice ra19 (((((b ++ numB d.id.toNat) ++ numB d.ep.toNat) ++ numB d.st.toNat) ++ stB d.aw d.al) ++ stB d.bw d.bl).length rc19 ∧ V.Row V.Cod.byte 5 wz V.None' w23.heap.size wz.heap.size ra19 rc19 (((((b ++ numB d.id.toNat) ++ numB d.ep.toNat) ++ numB d.st.toNat) ++ stB d.aw d.al) ++ stB d.bw d.bl)))]) mixed (by kernel_rfl) (V.mono_cons (by rintro v wz wz' g ⟨ra19, rc19, rfl, rF19⟩; exact ⟨ra19, rc19, rfl, (by first | exact (rF19.gr g).mono (V.In.sub (Nat.le_refl _) g.size) | exact rF19.gr g | exact (rF19.gr g).mono (fun _ h => h) (Nat.le_refl _) g.size | exact (rF19.gr g).mono (fun k h => ⟨h.1, Nat.lt_of_lt_of_le h.2 g.size⟩))⟩) (V.mono_cons (by rintro v wz wz' g ⟨ra19, rc19, rfl, rF19⟩; exact ⟨ra19, rc19, rfl, (by first | exact (rF19.gr g).mono (V.In.sub (Nat.le_refl _) g.size) | exact rF19.gr g | exact (rF19.gr g).mono (fun _ h => h) (Nat.le_refl _) g.size | exact (rF19.gr g).mono (fun k h => ⟨h.1, Nat.lt_of_lt_of_le h.2 g.size⟩))⟩) V.mono_nil)) ?_
 refine V.grun T_ok 2 rfl (V.sel_none rfl) ?_
 replace Fk2 := Fk2.gr (G17.trans G24)
 refine V.gloadO T_ok (fun w' h => Fk2.gr h.1) rfl rfl rfl rfl rfl rfl ?_
 refine V.gcall (fun w' h => (sput_spec (a := d.aw) (b := d.al) (F22.sl.gr h.1) (fun k hk => by have := Fr.size h.1; have := hk.2; omega) V.lenA (by omega) (by omega)).mono (by rintro v w'' ⟨ra19, rc19, rfl, rF19, G⟩; exact ⟨⟨ra19, rc19, rfl, (by first | exact rF19.mono (V.In.mono_l h.1.size) | exact rF19 | exact rF19.mono (fun _ h => h) h.1.size (Nat.le_refl _))⟩, G⟩)) rfl rfl rfl rfl ?_
 rintro _ w29 - - ⟨a26, c27, rfl, -⟩
 refine V.grun T_ok 1 rfl (V.sel_none rfl) ?_
 refine V.gloadO T_ok (fun w' h => Fk2.gr h.1) rfl rfl rfl rfl rfl rfl ?_
 refine V.gcall (fun w' h => (sput_spec (a := d.bw) (b := d.bl) (by obtain ⟨_, _, he, F0⟩ := (V.Hist.here (h.get (i := 3) rfl)); cases he; exact F0.sl) (fun k hk => by have := Fr.size h.1; have := hk.2; omega) V.lenA (by omega) (by omega)).mono (by rintro v w'' ⟨ra19, rc19, rfl, rF19, G⟩; exact ⟨⟨ra19, rc19, rfl, (by first | exact rF19.mono (V.In.mono_l h.1.size) | exact rF19 | exact rF19.mono (fun _ h => h) h.1.size (Nat.le_refl _))⟩, G⟩)) rfl rfl rfl rfl ?_
 rintro _ w33 - - ⟨a30, c31, rfl, -⟩
 refine V.grun T_ok 1 rfl (V.sel_none rfl) ?_
 refine V.gloadO T_ok (fun w' h => Fk2.gr h.1) rfl rfl rfl rfl rfl rfl ?_
 refine V.grun T_ok 1 rfl (V.sel_none rfl) ?_
 refine V.gnil ?_
 rintro w34 G35 hH36
 have z37 := V.Fr.size G35
 have F28 : V.Row V.Cod.byte 5 w34 V.None' w23.heap.size w34.heap.size a26 c27 ((((b ++ numB d.id.toNat) ++ numB d.ep.toNat) ++ numB d.st.toNat) ++ stB d.aw d.al) := by
   obtain ⟨_, _, he, F0⟩ := (V.Hist.here (V.Hist.old (hH36 3)))
   cases he
   exact F0
 have F32 : V.Row V.Cod.byte 5 w34 V.None' w23.heap.size w34.heap.size a30 c31 (((((b ++ numB d.id.toNat) ++ numB d.ep.toNat) ++ numB d.st.toNat) ++ stB d.aw d.al) ++ stB d.bw d.bl) := by
   obtain ⟨_, _, he, F0⟩ := (V.Hist.here (hH36 6))
   cases he
   exact F0
 clear hH36
 refine V.call (p_number (v := (d.ws.length : Int)) F32.sl (fun k hk => by have := hk.2; omega) V.lenA (by omega)) rfl rfl rfl ?_
 rintro _ w41 ⟨a38, c39, rfl, F40, G42⟩
 have z43 := V.Fr.size G42
 refine V.ru 1 ?_
 refine V.nt ?_
 refine V.seq ?_
 refine V.seq ?_
 have hr44 : (((((b ++ numB d.id.toNat) ++ numB d.ep.toNat) ++ numB d.st.toNat) ++ stB d.aw d.al) ++ stB d.bw d.bl) ++ numB (d.ws.length : Int).toNat = b ++ numB d.id.toNat ++ numB d.ep.toNat ++ numB d.st.toNat ++ stB d.aw d.al ++ stB d.bw d.bl ++ numB d.ws.length ++ wrsB (d.ws.take 0) := by simp [wrsB]
 rw [hr44] at F40 ⊢
 clear hr44
 refine V.region ?_
 refine V.ru 1 ?_
 replace Fk2 := Fk2.gr (G35.trans G42)
 refine V.loadO T_ok Fk2 rfl rfl rfl rfl rfl ?_
 refine V.ru 2 ?_
 refine V.nt ?_
 refine V.block ?_
 replace F_o := F_o.gr (G4.trans (G17.trans (G24.trans (G35.trans G42))))
 have hl63 := F_o.len63
 replace F_b := F_b.gr (G17.trans (G24.trans (G35.trans G42)))
 replace F10 := F10.gr (G24.trans (G35.trans G42))
 replace F14 := F14.gr (G24.trans (G35.trans G42))
 replace F22 := F22.gr (G35.trans G42)
 replace F28 := F28.gr G42
 replace F32 := F32.gr G42
 replace HG := HG.grow (G4.trans (G17.trans (G24.trans (G35.trans G42))))
 refine V.loopM (fun m e v46 => Fr [] w v46 ∧ w41.heap.size ≤ v46.heap.size ∧ Sl V.Cod.byte v46 D_b a_b c_b b ∧ Sl V.Cod.write v46 D_o a_o c_o d.ws ∧ Cells v46 k1 [.int .i64 d.id, .int .i64 d.ep, .int .i64 d.st, .int .i64 d.aw, .int .i64 d.al, .int .i64 d.bw, .int .i64 d.bl, .slice a_o d.ws.length c_o] 46 ∧ V.Row V.Cod.byte 5 v46 V.None' w3.heap.size w16.heap.size a8 c9 (b ++ numB d.id.toNat) ∧ V.Row V.Cod.byte 5 v46 V.None' w3.heap.size w16.heap.size a12 c13 ((b ++ numB d.id.toNat) ++ numB d.ep.toNat) ∧ V.Row V.Cod.byte 5 v46 V.None' w16.heap.size w23.heap.size a20 c21 (((b ++ numB d.id.toNat) ++ numB d.ep.toNat) ++ numB d.st.toNat) ∧ V.Row V.Cod.byte 5 v46 V.None' w23.heap.size w34.heap.size a26 c27 ((((b ++ numB d.id.toNat) ++ numB d.ep.toNat) ++ numB d.st.toNat) ++ stB d.aw d.al) ∧ V.Row V.Cod.byte 5 v46 V.None' w23.heap.size w34.heap.size a30 c31 (((((b ++ numB d.id.toNat) ++ numB d.ep.toNat) ++ numB d.st.toNat) ++ stB d.aw d.al) ++ stB d.bw d.bl) ∧ ∃ (i : Nat) (ra34 : Option Addr) (rc34 : Nat), m = d.ws.length - i ∧ i ≤ d.ws.length ∧ V.Row V.Cod.byte 5 v46 V.None' w34.heap.size v46.heap.size ra34 rc34 (b ++ numB d.id.toNat ++ numB d.ep.toNat ++ numB d.st.toNat ++ stB d.aw d.al ++ stB d.bw d.bl ++ numB d.ws.length ++ wrsB (d.ws.take i)) ∧ e 0 = .slice ra34 (b ++ numB d.id.toNat ++ numB d.ep.toNat ++ numB d.st.toNat ++ stB d.aw d.al ++ stB d.bw d.bl ++ numB d.ws.length ++ wrsB (d.ws.take i)).length rc34 ∧ e 29 = .slice a_o d.ws.length c_o ∧ e 30 = .int .i64 (d.ws.length : Int) ∧ e 31 = .int .i64 (i : Int)) ?_ ?_
 ·
  exact ⟨_, HG, (by omega), F_b, F_o, Fk2, F10, F14, F22, F28, F32, (0), a38, c39, rfl, (by omega), F40.re, rfl, rfl, rfl, rfl⟩
 try clear F40
 clear HG F_b F_o Fk2 F10 F14 F22 F28 F32
 rintro _ e v46 ⟨HG, z47, F_b, F_o, Fk2, F10, F14, F22, F28, F32, i, ra34, rc34, rfl, hi, rF34, he0_0, he0_29, he0_30, he0_31⟩
 refine V.knownC (t := 0) he0_0 ?_
 refine V.knownC (t := 29) he0_29 ?_
 refine V.knownC (t := 30) he0_30 ?_
 refine V.knownC (t := 31) he0_31 ?_
 refine V.sr ?_
 refine V.ru 1 ?_
 refine V.nt ?_
 refine V.seq ?_
 refine V.condT rfl (fun h4 => ?_) (fun h4 => ?_)
 ·
  try replace h4 := V.dec h4
  try simp only [V.mk] at h4
  refine V.skip ?_
  refine V.tN ?_
  refine V.seq ?_
  refine V.block ?_
  refine V.sr ?_
  refine V.elem T_ok F_o rfl rfl sz78 rfl rfl rfl rfl V.lenA V.lenA ?_
  rintro b48 o49 cs50 hx51 hb52 hR55 hA53
  obtain ⟨x54, hx54⟩ : ∃ z', d.ws[((i : Int)).toNat] = z' := ⟨_, rfl⟩
  rw [hx54] at hR55
  obtain ⟨_, _, rfl, rfl, rfl⟩ := hR55
  try simp only [Int.toNat_natCast] at hx54 hx51
  refine V.loadA T_ok (o0 := o49) (off := 0) hA53 rfl rfl rfl rfl rfl ?_
  refine V.alloc zero78 rfl rfl rfl ?_
  rintro k56 w58 s60 s61 G59 Fk57
  have z62 := V.Fr.size G59
  try simp only [V.cellsL, V.spliceL] at Fk57
  refine V.storeO Fk57 rfl rfl rfl rfl sz78 rfl rfl rfl rfl ?_
  rintro w63 G64 z66 Fs65
  clear Fk57
  have z67 := V.Fr.size G64
  have Fk57 := Fs65; clear Fs65
  simp only [V.spliceL, V.cellsL] at Fk57
  refine V.nt ?_
  have hsx := s2 x54 (by rw [← hx54]; exact List.getElem_mem _)
  have hst := small_take ⟨s1, s2⟩ i
  have hwl := wr_len hsx
  rw [List.length_append] at hwl
  refine V.drawGT 6 (V.sel [(3, (fun v wz => ∃ (ra3 : Option Addr) (rc3 : Nat), v = .slice ra3 ((b ++ numB d.id.toNat ++ numB d.ep.toNat ++ numB d.st.toNat ++ stB d.aw d.al ++ stB d.bw d.bl ++ numB d.ws.length ++ wrsB (d.ws.take i)) ++ textB x54.1.data.toList).length rc3 ∧ V.Row V.Cod.byte 5 wz V.None' w63.heap.size wz.heap.size ra3 rc3 ((b ++ numB d.id.toNat ++ numB d.ep.toNat ++ numB d.st.toNat ++ stB d.aw d.al ++ stB d.bw d.bl ++ numB d.ws.length ++ wrsB (d.ws.take i)) ++ textB x54.1.data.toList)))]) mixed (by kernel_rfl) (V.mono_cons (by rintro v wz wz' g ⟨ra3, rc3, rfl, rF3⟩; exact ⟨ra3, rc3, rfl, (by first | exact (rF3.gr g).mono (V.In.sub (Nat.le_refl _) g.size) | exact rF3.gr g | exact (rF3.gr g).mono (fun _ h => h) (Nat.le_refl _) g.size | exact (rF3.gr g).mono (fun k h => ⟨h.1, Nat.lt_of_lt_of_le h.2 g.size⟩))⟩) V.mono_nil) ?_
  refine V.grun T_ok 2 rfl (V.sel_none rfl) ?_
  refine V.gloadO T_ok (fun w' h => Fk57.gr h.1) rfl rfl rfl rfl rfl rfl ?_
  replace rF34 := rF34.gr G59
  replace rF34 := rF34.ma G64
  refine V.gcall (fun w' h => (p_text (s := x54.1) (rF34.sl.gr h.1) (fun k hk => by have := Fr.size h.1; have := hk.2; omega) V.lenA (by first | omega | decide | (simp only [V.S_size, List.length_cons, List.length_nil]; omega))).mono (by rintro v w'' ⟨ra3, rc3, rfl, rF3, G⟩; exact ⟨⟨ra3, rc3, rfl, (by first | exact rF3.mono (V.In.mono_l h.1.size) | exact rF3 | exact rF3.mono (fun _ h => h) h.1.size (Nat.le_refl _))⟩, G⟩)) rfl rfl rfl rfl ?_
  rintro _ w71 - - ⟨a68, c69, rfl, -⟩
  refine V.grun T_ok 1 rfl (V.sel_none rfl) ?_
  refine V.gloadO T_ok (fun w' h => Fk57.gr h.1) rfl rfl rfl rfl rfl rfl ?_
  refine V.gnil ?_
  rintro w72 G73 hH74
  have z75 := V.Fr.size G73
  have F70 : V.Row V.Cod.byte 5 w72 V.None' w63.heap.size w72.heap.size a68 c69 ((b ++ numB d.id.toNat ++ numB d.ep.toNat ++ numB d.st.toNat ++ stB d.aw d.al ++ stB d.bw d.bl ++ numB d.ws.length ++ wrsB (d.ws.take i)) ++ textB x54.1.data.toList) := by
    obtain ⟨_, _, he, F0⟩ := (V.Hist.here (hH74 3))
    cases he
    exact F0
  clear hH74
  refine V.call (p_number (v := x54.2) F70.sl (fun k hk => by have := hk.2; omega) V.lenA (by omega)) rfl rfl rfl ?_
  rintro _ w79 ⟨a76, c77, rfl, F78, G80⟩
  have z81 := V.Fr.size G80
  refine V.ru 1 ?_
  refine V.nil ?_
  refine V.bN ?_
  refine V.tN ?_
  refine V.region ?_
  refine V.addN rfl rfl rfl rfl rfl V.lenA V.lenA ?_
  refine V.ru 1 ?_
  refine V.nt ?_
  have hr82 : ((b ++ numB d.id.toNat ++ numB d.ep.toNat ++ numB d.st.toNat ++ stB d.aw d.al ++ stB d.bw d.bl ++ numB d.ws.length ++ wrsB (d.ws.take i)) ++ textB x54.1.data.toList) ++ numB x54.2.toNat = b ++ numB d.id.toNat ++ numB d.ep.toNat ++ numB d.st.toNat ++ stB d.aw d.al ++ stB d.bw d.bl ++ numB d.ws.length ++ wrsB (d.ws.take (i + 1)) := by rw [← wrsB_succ (by omega) hx54]; simp [List.append_assoc]
  rw [hr82] at F78 ⊢
  clear hr82
  
  replace F_b := F_b.gr G59
  replace F_b := F_b.mb G64 hD_b
  replace F_b := F_b.gr (G73.trans G80)
  replace F_o := F_o.gr G59
  replace F_o := F_o.mb G64 hD_o
  replace F_o := F_o.gr (G73.trans G80)
  replace Fk2 := Fk2.gr G59
  replace Fk2 := Fk2.ma G64
  replace Fk2 := Fk2.gr (G73.trans G80)
  replace F10 := F10.gr G59
  replace F10 := F10.ma G64
  replace F10 := F10.gr (G73.trans G80)
  replace F14 := F14.gr G59
  replace F14 := F14.ma G64
  replace F14 := F14.gr (G73.trans G80)
  replace F22 := F22.gr G59
  replace F22 := F22.ma G64
  replace F22 := F22.gr (G73.trans G80)
  replace F28 := F28.gr G59
  replace F28 := F28.ma G64
  replace F28 := F28.gr (G73.trans G80)
  replace F32 := F32.gr G59
  replace F32 := F32.ma G64
  replace F32 := F32.gr (G73.trans G80)
  replace HG := HG.grow G59
  replace HG := HG.n1 G64
  replace HG := HG.grow (G73.trans G80)
  exact ⟨_, (by omega), HG, (by omega), F_b, F_o, Fk2, F10, F14, F22, F28, F32, (i + 1), a76, c77, rfl, (by omega), F78.re, rfl, rfl, rfl, rfl⟩
 ·
  try replace h4 := V.dec h4
  try simp only [V.mk] at h4
  refine V.exit ?_
  refine V.tX ?_
  refine V.tX ?_
  refine V.bE ?_
  refine V.tN ?_
  refine V.seq ?_
  have hr83 : b ++ numB d.id.toNat ++ numB d.ep.toNat ++ numB d.st.toNat ++ stB d.aw d.al ++ stB d.bw d.bl ++ numB d.ws.length ++ wrsB (d.ws.take i) = b ++ recBy d := by rw [List.take_of_length_le (by omega)]; simp [recBy]
  rw [hr83] at rF34 ⊢
  clear hr83
  refine V.region ?_
  refine V.ru 2 ?_
  refine V.nt ?_
  refine V.ret ?_
  refine V.done rfl ?_
  exact ⟨ra34, rc34, (by first | rfl | simp only [List.length_set]), rF34.re, HG⟩

end Go.Proofs.YtmmgmkklakkooaaGreat
