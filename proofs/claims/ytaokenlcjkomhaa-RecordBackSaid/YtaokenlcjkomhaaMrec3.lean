/- Proved here: walks: what functions of this seat's program return and what they leave of memory, each as a contract. Conditions: stated at each theorem. -/
import Derived.Test.YtaokenlcjkomhaaMlr
namespace Go.Proofs.Ytaokenlcjkomhaa
set_option linter.unusedVariables false
set_option linter.unusedSimpArgs false
open Go
open V (Bytes Meets Env Sl Own Gr Fr Cells S)

def wrsB (ws : List (ByteArray × Int)) : List UInt8 := ws.flatMap fun x => textB x.1.data.toList ++ numB x.2.toNat
/-- a record's bytes -/
def recBy (d : RecV) : List UInt8 := numB d.id.toNat ++ (numB d.ep.toNat ++ (numB d.st.toNat ++ (stB d.aw d.al ++ (stB d.bw d.bl ++ (numB d.ws.length ++ wrsB d.ws)))))
theorem wrsB_succ {ws : List (ByteArray × Int)} {i : Nat} {x : ByteArray × Int} (hi : i < ws.length) (hx : ws[i] = x) : wrsB (ws.take i) ++ (textB x.1.data.toList ++ numB x.2.toNat) = wrsB (ws.take (i + 1)) := by
  subst hx; unfold wrsB; rw [List.take_succ_eq_append_getElem hi, List.flatMap_append]; simp
def small (ws : List (ByteArray × Int)) : Prop := ws.length ≤ 100 ∧ ∀ x ∈ ws, x.1.size ≤ 1000 ∧ x.2 ≤ 9223372036854775807
theorem wr_len {x : ByteArray × Int} (h : x.1.size ≤ 1000 ∧ x.2 ≤ 9223372036854775807) : (textB x.1.data.toList ++ numB x.2.toNat).length ≤ 1018 := by
  have h1 := numB_len9 h.2
  have h2 := numB_len9 (v := (x.1.size : Int)) (by omega)
  rw [Int.toNat_natCast] at h2
  rw [List.length_append, textB_len]; omega
theorem wrsB_len : ∀ {ws : List (ByteArray × Int)}, (∀ x ∈ ws, x.1.size ≤ 1000 ∧ x.2 ≤ 9223372036854775807) → (wrsB ws).length ≤ 1018 * ws.length
  | [], _ => by simp [wrsB]
  | x :: ws, h => by
    have h1 := wr_len (h x (by simp))
    have h2 := wrsB_len (ws := ws) (fun y hy => h y (by simp [hy]))
    have e : wrsB (x :: ws) = (textB x.1.data.toList ++ numB x.2.toNat) ++ wrsB ws := rfl
    rw [e, List.length_append, List.length_cons]; omega
theorem small_take {ws : List (ByteArray × Int)} (h : small ws) (i : Nat) : (wrsB (ws.take i)).length ≤ 101800 := by
  have := wrsB_len (ws := ws.take i) (fun x hx => h.2 x (List.mem_of_mem_take hx))
  have h1 := h.1
  have h2 : (ws.take i).length ≤ ws.length := by simp; omega
  omega
theorem stB_len {x y : Int} (hx : x ≤ 9223372036854775807) (hy : y ≤ 9223372036854775807) : (stB x y).length ≤ 18 := by
  have h1 := numB_len9 hx
  have h2 := numB_len9 hy
  rw [stB, List.length_append]; omega
/-- its numbers are the machine's -/
def inR64 (d : RecV) : Prop := d.id ≤ 9223372036854775807 ∧ d.ep ≤ 9223372036854775807 ∧ d.st ≤ 9223372036854775807 ∧ d.aw ≤ 9223372036854775807 ∧ d.al ≤ 9223372036854775807 ∧ d.bw ≤ 9223372036854775807 ∧ d.bl ≤ 9223372036854775807


theorem recBy_len {d : RecV} (hd : inR64 d) (h : small d.ws) : (recBy d).length ≤ 109000 := by
  obtain ⟨i1, i2, i3, i4, i5, i6, i7⟩ := hd
  have n1 := numB_len9 i1
  have n2 := numB_len9 i2
  have n3 := numB_len9 i3
  have n4 := stB_len i4 i5
  have n5 := stB_len i6 i7
  have n6 := numB_len9 (v := (d.ws.length : Int)) (by have := h.1; omega)
  rw [Int.toNat_natCast] at n6
  have n7 := wrsB_len h.2
  have := h.1
  simp only [recBy, List.length_append]; omega

set_option maxHeartbeats 4000000 in
set_option maxRecDepth 10000 in
theorem rput_spec {w : World}  {D_b : Nat → Prop} {c_b : Nat} {a_b : Option Addr} {b : List UInt8} (F_b : Sl V.Cod.byte w D_b a_b c_b b) (hD_b : ∀ k, D_b k → k < w.heap.size) {d : RecV} {D_o : Nat → Prop} {c_o : Nat} {a_o : Option Addr} (F_o : Sl V.Cod.write w D_o a_o c_o d.ws) (hD_o : ∀ k, D_o k → k < w.heap.size) (hl : b.length ≤ 1099511627776) (hd : inR64 d) (hs : small d.ws) :
    Meets Try.prog 24 [.slice a_b b.length c_b, .agg #[.int .i64 d.id, .int .i64 d.ep, .int .i64 d.st, .int .i64 d.aw, .int .i64 d.al, .int .i64 d.bw, .int .i64 d.bl, .slice a_o d.ws.length c_o]] w fun r w' => ∃ (ra31 : Option Addr) (rc31 : Nat), r = .slice ra31 (b ++ recBy d).length rc31 ∧ V.Row V.Cod.byte 5 w' V.None' w.heap.size w'.heap.size ra31 rc31 (b ++ recBy d) ∧ Gr w w' := by
 obtain ⟨i1, i2, i3, i4, i5, i6, i7⟩ := hd
 obtain ⟨s1, s2⟩ := hs
 have n1 := numB_len9 i1
 have n2 := numB_len9 i2
 have n3 := numB_len9 i3
 have n4 := stB_len i4 i5
 have n5 := stB_len i6 i7
 have n6 := numB_len9 (v := (d.ws.length : Int)) (by omega)
 rw [Int.toNat_natCast] at n6
 have HG := V.Fr.refl [] w
 refine V.enter (n := 44) Try.func24 rfl rfl (by decide) rfl ?_
 refine V.seq ?_
 refine V.region ?_
 refine V.box rfl rfl rfl rfl ?_
 rintro k1 w3 s5 s6 G4 Fk2
 have z7 := V.Fr.size G4
 try replace F_b := F_b.gr G4
 try replace F_o := F_o.gr G4
 replace HG := HG.grow G4
 clear G4
 try simp only [V.cellsL, V.spliceL] at Fk2
 refine V.run T_ok 1 rfl ?_
 refine V.nil ?_
 refine V.tN ?_
 refine V.seq ?_
 refine V.drawGT 9 (V.sel [(3, (fun v wz => ∃ (ra2 : Option Addr) (rc2 : Nat), v = .slice ra2 (b ++ numB d.id.toNat).length rc2 ∧ V.Row V.Cod.byte 5 wz V.None' w3.heap.size wz.heap.size ra2 rc2 (b ++ numB d.id.toNat))), (6, (fun v wz => ∃ (ra2 : Option Addr) (rc2 : Nat), v = .slice ra2 ((b ++ numB d.id.toNat) ++ numB d.ep.toNat).length rc2 ∧ V.Row V.Cod.byte 5 wz V.None' w3.heap.size wz.heap.size ra2 rc2 ((b ++ numB d.id.toNat) ++ numB d.ep.toNat)))]) mixed (by kernel_rfl) (V.mono_cons (by rintro v wz wz' g ⟨ra2, rc2, rfl, rF2⟩; exact ⟨ra2, rc2, rfl, (by first | exact (rF2.gr g).mono (V.In.sub (Nat.le_refl _) g.size) | exact rF2.gr g | exact (rF2.gr g).mono (fun _ h => h) (Nat.le_refl _) g.size | exact (rF2.gr g).mono (fun k h => ⟨h.1, Nat.lt_of_lt_of_le h.2 g.size⟩))⟩) (V.mono_cons (by rintro v wz wz' g ⟨ra2, rc2, rfl, rF2⟩; exact ⟨ra2, rc2, rfl, (by first | exact (rF2.gr g).mono (V.In.sub (Nat.le_refl _) g.size) | exact rF2.gr g | exact (rF2.gr g).mono (fun _ h => h) (Nat.le_refl _) g.size | exact (rF2.gr g).mono (fun k h => ⟨h.1, Nat.lt_of_lt_of_le h.2 g.size⟩))⟩) V.mono_nil)) ?_
 refine V.grun T_ok 2 rfl (V.sel_none rfl) ?_
 refine V.gloadO T_ok (fun w' h => Fk2.gr h.1) rfl rfl rfl rfl rfl rfl ?_
 refine V.gcall (fun w' h => (p_number (v := d.id) (F_b.gr h.1) (fun k hk => by have := Fr.size h.1; have := hD_b k hk; omega) (by first | omega | (simp only [List.length_take, List.length_drop, List.length_append, List.length_cons, List.length_nil, List.length_replicate, List.length_set, V.length_data, V.S_size]; omega)) (by omega)).mono (by rintro v w'' ⟨ra2, rc2, rfl, rF2, G⟩; exact ⟨⟨ra2, rc2, rfl, (by first | exact rF2.mono (V.In.mono_l h.1.size) | exact rF2 | exact rF2.mono (fun _ h => h) h.1.size (Nat.le_refl _))⟩, G⟩)) rfl rfl rfl rfl ?_
 rintro _ w11 - - ⟨a8, c9, rfl, -⟩
 refine V.grun T_ok 1 rfl (V.sel_none rfl) ?_
 refine V.gloadO T_ok (fun w' h => Fk2.gr h.1) rfl rfl rfl rfl rfl rfl ?_
 refine V.gcall (fun w' h => (p_number (v := d.ep) (by obtain ⟨_, _, he, F0⟩ := (V.Hist.here (h.get (i := 3) rfl)); cases he; exact F0.sl) (fun k hk => by have := Fr.size h.1; have := hk.2; omega) (by first | omega | (simp only [List.length_take, List.length_drop, List.length_append, List.length_cons, List.length_nil, List.length_replicate, List.length_set, V.length_data, V.S_size]; omega)) (by omega)).mono (by rintro v w'' ⟨ra2, rc2, rfl, rF2, G⟩; exact ⟨⟨ra2, rc2, rfl, (by first | exact rF2.mono (V.In.mono_l h.1.size) | exact rF2 | exact rF2.mono (fun _ h => h) h.1.size (Nat.le_refl _))⟩, G⟩)) rfl rfl rfl rfl ?_
 rintro _ w15 - - ⟨a12, c13, rfl, -⟩
 refine V.grun T_ok 1 rfl (V.sel_none rfl) ?_
 refine V.gloadO T_ok (fun w' h => Fk2.gr h.1) rfl rfl rfl rfl rfl rfl ?_
 refine V.gnil ?_
 rintro w16 G17 hH18
 have z19 := V.Fr.size G17
 try replace F_b := F_b.gr G17
 try replace F_o := F_o.gr G17
 try replace Fk2 := Fk2.gr G17
 replace HG := HG.grow G17
 clear G17
 have F10 : V.Row V.Cod.byte 5 w16 V.None' w3.heap.size w16.heap.size a8 c9 (b ++ numB d.id.toNat) := by
   obtain ⟨_, _, he, F0⟩ := (V.Hist.here (V.Hist.old (hH18 3)))
   cases he
   exact F0
 have F14 : V.Row V.Cod.byte 5 w16 V.None' w3.heap.size w16.heap.size a12 c13 ((b ++ numB d.id.toNat) ++ numB d.ep.toNat) := by
   obtain ⟨_, _, he, F0⟩ := (V.Hist.here (hH18 6))
   cases he
   exact F0
 clear hH18
 refine V.call (p_number (v := d.st) F14.sl (fun k hk => by have := hk.2; omega) (by first | omega | (simp only [List.length_take, List.length_drop, List.length_append, List.length_cons, List.length_nil, List.length_replicate, List.length_set, V.length_data, V.S_size]; omega)) (by omega)) rfl rfl rfl ?_
 rintro _ w23 ⟨a20, c21, rfl, F22, G24⟩
 have z25 := V.Fr.size G24
 try replace F_b := F_b.gr G24
 try replace F_o := F_o.gr G24
 try replace Fk2 := Fk2.gr G24
 try replace F10 := F10.gr G24
 try replace F14 := F14.gr G24
 replace HG := HG.grow G24
 clear G24
 refine V.run T_ok 1 rfl ?_
 refine V.nil ?_
 refine V.tN ?_
 refine V.seq ?_
 refine V.drawGT 10 (V.sel [(3, (fun v wz => ∃ (ra14 : Option Addr) (rc14 : Nat), v = .slice ra14 ((((b ++ numB d.id.toNat) ++ numB d.ep.toNat) ++ numB d.st.toNat) ++ stB d.aw d.al).length rc14 ∧ V.Row V.Cod.byte 5 wz V.None' w23.heap.size wz.heap.size ra14 rc14 ((((b ++ numB d.id.toNat) ++ numB d.ep.toNat) ++ numB d.st.toNat) ++ stB d.aw d.al))), (6, (fun v wz => ∃ (ra14 : Option Addr) (rc14 : Nat), v = .slice ra14 (((((b ++ numB d.id.toNat) ++ numB d.ep.toNat) ++ numB d.st.toNat) ++ stB d.aw d.al) ++ stB d.bw d.bl).length rc14 ∧ V.Row V.Cod.byte 5 wz V.None' w23.heap.size wz.heap.size ra14 rc14 (((((b ++ numB d.id.toNat) ++ numB d.ep.toNat) ++ numB d.st.toNat) ++ stB d.aw d.al) ++ stB d.bw d.bl)))]) mixed (by kernel_rfl) (V.mono_cons (by rintro v wz wz' g ⟨ra14, rc14, rfl, rF14⟩; exact ⟨ra14, rc14, rfl, (by first | exact (rF14.gr g).mono (V.In.sub (Nat.le_refl _) g.size) | exact rF14.gr g | exact (rF14.gr g).mono (fun _ h => h) (Nat.le_refl _) g.size | exact (rF14.gr g).mono (fun k h => ⟨h.1, Nat.lt_of_lt_of_le h.2 g.size⟩))⟩) (V.mono_cons (by rintro v wz wz' g ⟨ra14, rc14, rfl, rF14⟩; exact ⟨ra14, rc14, rfl, (by first | exact (rF14.gr g).mono (V.In.sub (Nat.le_refl _) g.size) | exact rF14.gr g | exact (rF14.gr g).mono (fun _ h => h) (Nat.le_refl _) g.size | exact (rF14.gr g).mono (fun k h => ⟨h.1, Nat.lt_of_lt_of_le h.2 g.size⟩))⟩) V.mono_nil)) ?_
 refine V.grun T_ok 2 rfl (V.sel_none rfl) ?_
 refine V.gloadO T_ok (fun w' h => Fk2.gr h.1) rfl rfl rfl rfl rfl rfl ?_
 refine V.gcall (fun w' h => (sput_spec (a := d.aw) (b := d.al) (F22.sl.gr h.1) (fun k hk => by have := Fr.size h.1; have := hk.2; omega) (by first | omega | (simp only [List.length_take, List.length_drop, List.length_append, List.length_cons, List.length_nil, List.length_replicate, List.length_set, V.length_data, V.S_size]; omega)) (by omega) (by omega)).mono (by rintro v w'' ⟨ra14, rc14, rfl, rF14, G⟩; exact ⟨⟨ra14, rc14, rfl, (by first | exact rF14.mono (V.In.mono_l h.1.size) | exact rF14 | exact rF14.mono (fun _ h => h) h.1.size (Nat.le_refl _))⟩, G⟩)) rfl rfl rfl rfl ?_
 rintro _ w29 - - ⟨a26, c27, rfl, -⟩
 refine V.grun T_ok 1 rfl (V.sel_none rfl) ?_
 refine V.gloadO T_ok (fun w' h => Fk2.gr h.1) rfl rfl rfl rfl rfl rfl ?_
 refine V.gcall (fun w' h => (sput_spec (a := d.bw) (b := d.bl) (by obtain ⟨_, _, he, F0⟩ := (V.Hist.here (h.get (i := 3) rfl)); cases he; exact F0.sl) (fun k hk => by have := Fr.size h.1; have := hk.2; omega) (by first | omega | (simp only [List.length_take, List.length_drop, List.length_append, List.length_cons, List.length_nil, List.length_replicate, List.length_set, V.length_data, V.S_size]; omega)) (by omega) (by omega)).mono (by rintro v w'' ⟨ra14, rc14, rfl, rF14, G⟩; exact ⟨⟨ra14, rc14, rfl, (by first | exact rF14.mono (V.In.mono_l h.1.size) | exact rF14 | exact rF14.mono (fun _ h => h) h.1.size (Nat.le_refl _))⟩, G⟩)) rfl rfl rfl rfl ?_
 rintro _ w33 - - ⟨a30, c31, rfl, -⟩
 refine V.grun T_ok 1 rfl (V.sel_none rfl) ?_
 refine V.gloadO T_ok (fun w' h => Fk2.gr h.1) rfl rfl rfl rfl rfl rfl ?_
 refine V.grun T_ok 1 rfl (V.sel_none rfl) ?_
 refine V.gnil ?_
 rintro w34 G35 hH36
 have z37 := V.Fr.size G35
 try replace F_b := F_b.gr G35
 try replace F_o := F_o.gr G35
 try replace Fk2 := Fk2.gr G35
 try replace F10 := F10.gr G35
 try replace F14 := F14.gr G35
 try replace F22 := F22.gr G35
 replace HG := HG.grow G35
 clear G35
 have F28 : V.Row V.Cod.byte 5 w34 V.None' w23.heap.size w34.heap.size a26 c27 ((((b ++ numB d.id.toNat) ++ numB d.ep.toNat) ++ numB d.st.toNat) ++ stB d.aw d.al) := by
   obtain ⟨_, _, he, F0⟩ := (V.Hist.here (V.Hist.old (hH36 3)))
   cases he
   exact F0
 have F32 : V.Row V.Cod.byte 5 w34 V.None' w23.heap.size w34.heap.size a30 c31 (((((b ++ numB d.id.toNat) ++ numB d.ep.toNat) ++ numB d.st.toNat) ++ stB d.aw d.al) ++ stB d.bw d.bl) := by
   obtain ⟨_, _, he, F0⟩ := (V.Hist.here (hH36 6))
   cases he
   exact F0
 clear hH36
 refine V.call (p_number (v := (d.ws.length : Int)) F32.sl (fun k hk => by have := hk.2; omega) (by first | omega | (simp only [List.length_take, List.length_drop, List.length_append, List.length_cons, List.length_nil, List.length_replicate, List.length_set, V.length_data, V.S_size]; omega)) (by omega)) rfl rfl rfl ?_
 rintro _ w41 ⟨a38, c39, rfl, F40, G42⟩
 have z43 := V.Fr.size G42
 try replace F_b := F_b.gr G42
 try replace F_o := F_o.gr G42
 try replace Fk2 := Fk2.gr G42
 try replace F10 := F10.gr G42
 try replace F14 := F14.gr G42
 try replace F22 := F22.gr G42
 try replace F28 := F28.gr G42
 try replace F32 := F32.gr G42
 replace HG := HG.grow G42
 clear G42
 refine V.run T_ok 1 rfl ?_
 refine V.nil ?_
 refine V.tN ?_
 refine V.seq ?_
 refine V.seq ?_
 have hr44 : (((((b ++ numB d.id.toNat) ++ numB d.ep.toNat) ++ numB d.st.toNat) ++ stB d.aw d.al) ++ stB d.bw d.bl) ++ numB (d.ws.length : Int).toNat = b ++ numB d.id.toNat ++ numB d.ep.toNat ++ numB d.st.toNat ++ stB d.aw d.al ++ stB d.bw d.bl ++ numB d.ws.length ++ wrsB (d.ws.take 0) := by simp [wrsB]
 rw [hr44] at F40 ⊢
 clear hr44
 refine V.region ?_
 refine V.run T_ok 1 rfl ?_
 refine V.loadO T_ok Fk2 rfl rfl rfl rfl rfl ?_
 refine V.run T_ok 2 rfl ?_
 refine V.nil ?_
 refine V.tN ?_
 refine V.block ?_
 have hl63 := F_o.len63
 refine V.loopM (fun m e v46 => Fr [] w v46 ∧ w41.heap.size ≤ v46.heap.size ∧ Sl V.Cod.byte v46 D_b a_b c_b b ∧ Sl V.Cod.write v46 D_o a_o c_o d.ws ∧ Cells v46 k1 [.int .i64 d.id, .int .i64 d.ep, .int .i64 d.st, .int .i64 d.aw, .int .i64 d.al, .int .i64 d.bw, .int .i64 d.bl, .slice a_o d.ws.length c_o] 27 ∧ V.Row V.Cod.byte 5 v46 V.None' w3.heap.size w16.heap.size a8 c9 (b ++ numB d.id.toNat) ∧ V.Row V.Cod.byte 5 v46 V.None' w3.heap.size w16.heap.size a12 c13 ((b ++ numB d.id.toNat) ++ numB d.ep.toNat) ∧ V.Row V.Cod.byte 5 v46 V.None' w16.heap.size w23.heap.size a20 c21 (((b ++ numB d.id.toNat) ++ numB d.ep.toNat) ++ numB d.st.toNat) ∧ V.Row V.Cod.byte 5 v46 V.None' w23.heap.size w34.heap.size a26 c27 ((((b ++ numB d.id.toNat) ++ numB d.ep.toNat) ++ numB d.st.toNat) ++ stB d.aw d.al) ∧ V.Row V.Cod.byte 5 v46 V.None' w23.heap.size w34.heap.size a30 c31 (((((b ++ numB d.id.toNat) ++ numB d.ep.toNat) ++ numB d.st.toNat) ++ stB d.aw d.al) ++ stB d.bw d.bl) ∧ ∃ (i : Nat) (ra32 : Option Addr) (rc32 : Nat), m = d.ws.length - i ∧ i ≤ d.ws.length ∧ V.Row V.Cod.byte 5 v46 V.None' w34.heap.size v46.heap.size ra32 rc32 (b ++ numB d.id.toNat ++ numB d.ep.toNat ++ numB d.st.toNat ++ stB d.aw d.al ++ stB d.bw d.bl ++ numB d.ws.length ++ wrsB (d.ws.take i)) ∧ e 0 = .slice ra32 (b ++ numB d.id.toNat ++ numB d.ep.toNat ++ numB d.st.toNat ++ stB d.aw d.al ++ stB d.bw d.bl ++ numB d.ws.length ++ wrsB (d.ws.take i)).length rc32 ∧ e 29 = .slice a_o d.ws.length c_o ∧ e 30 = .int .i64 (d.ws.length : Int) ∧ e 31 = .int .i64 (i : Int)) ?_ ?_
 ·
  exact ⟨_, HG, (by omega), F_b, F_o, Fk2, F10, F14, F22, F28, F32, (0), a38, c39, rfl, (by omega), F40.re, rfl, rfl, rfl, rfl⟩
 try clear F40
 clear HG F_b F_o Fk2 F10 F14 F22 F28 F32
 rintro _ e v46 ⟨HG, z47, F_b, F_o, Fk2, F10, F14, F22, F28, F32, i, ra32, rc32, rfl, hi, rF32, he0_0, he0_29, he0_30, he0_31⟩
 refine V.knownC (t := 0) he0_0 ?_
 refine V.knownC (t := 29) he0_29 ?_
 refine V.knownC (t := 30) he0_30 ?_
 refine V.knownC (t := 31) he0_31 ?_
 refine V.seq ?_
 refine V.region ?_
 refine V.run T_ok 1 rfl ?_
 refine V.nil ?_
 refine V.tN ?_
 refine V.seq ?_
 refine V.condT rfl (fun h4 => ?_) (fun h4 => ?_)
 ·
  try replace h4 := V.dec h4
  try simp only [V.mk0, V.mk1, V.mk2, V.mk3] at h4
  refine V.skip ?_
  refine V.tN ?_
  refine V.seq ?_
  refine V.block ?_
  refine V.seq ?_
  refine V.region ?_
  refine V.elem T_ok F_o rfl rfl sz49 rfl rfl rfl rfl (by first | omega | (simp only [List.length_take, List.length_drop, List.length_append, List.length_cons, List.length_nil, List.length_replicate, List.length_set, V.length_data, V.S_size]; omega)) (by first | omega | (simp only [List.length_take, List.length_drop, List.length_append, List.length_cons, List.length_nil, List.length_replicate, List.length_set, V.length_data, V.S_size]; omega)) ?_
  rintro b48 o49 cs50 hx51 hb52 hR55 hA53
  obtain ⟨x54, hx54⟩ : ∃ z', d.ws[((i : Int)).toNat] = z' := ⟨_, rfl⟩
  rw [hx54] at hR55
  obtain ⟨_, _, rfl, rfl, rfl⟩ := hR55
  try simp only [Int.toNat_natCast] at hx54 hx51
  refine V.loadA T_ok (o0 := o49) (off := 0) hA53 rfl rfl rfl rfl rfl ?_
  refine V.alloc zero49 rfl rfl rfl ?_
  rintro k56 w58 s60 s61 G59 Fk57
  have z62 := V.Fr.size G59
  try replace F_b := F_b.gr G59
  try replace F_o := F_o.gr G59
  try replace Fk2 := Fk2.gr G59
  try replace F10 := F10.gr G59
  try replace F14 := F14.gr G59
  try replace F22 := F22.gr G59
  try replace F28 := F28.gr G59
  try replace F32 := F32.gr G59
  try replace rF32 := rF32.gr G59
  replace HG := HG.grow G59
  clear G59
  try simp only [V.cellsL, V.spliceL] at Fk57
  refine V.storeO Fk57 rfl rfl rfl rfl sz49 rfl rfl rfl rfl ?_
  rintro w63 G64 z66 Fs65
  clear Fk57
  have z67 := V.Fr.size G64
  first | replace F_b := F_b.mb G64 hD_b | clear F_b | skip
  first | replace F_o := F_o.mb G64 hD_o | clear F_o | skip
  first | replace Fk2 := Fk2.mv1 G64 (by omega) | clear Fk2 | skip
  first | replace F10 := F10.ma G64 | clear F10 | skip
  first | replace F14 := F14.ma G64 | clear F14 | skip
  first | replace F22 := F22.ma G64 | clear F22 | skip
  first | replace F28 := F28.ma G64 | clear F28 | skip
  first | replace F32 := F32.ma G64 | clear F32 | skip
  first | replace rF32 := rF32.ma G64 | clear rF32 | skip
  replace HG := HG.n1 G64
  clear G64
  have Fk57 := Fs65; clear Fs65
  simp only [V.spliceL, V.cellsL] at Fk57
  refine V.nil ?_
  refine V.tN ?_
  have hsx := s2 x54 (by rw [← hx54]; exact List.getElem_mem _)
  have hst := small_take ⟨s1, s2⟩ i
  have hwl := wr_len hsx
  rw [List.length_append] at hwl
  refine V.drawGT 6 (V.sel [(3, (fun v wz => ∃ (ra3 : Option Addr) (rc3 : Nat), v = .slice ra3 ((b ++ numB d.id.toNat ++ numB d.ep.toNat ++ numB d.st.toNat ++ stB d.aw d.al ++ stB d.bw d.bl ++ numB d.ws.length ++ wrsB (d.ws.take i)) ++ textB x54.1.data.toList).length rc3 ∧ V.Row V.Cod.byte 5 wz V.None' w63.heap.size wz.heap.size ra3 rc3 ((b ++ numB d.id.toNat ++ numB d.ep.toNat ++ numB d.st.toNat ++ stB d.aw d.al ++ stB d.bw d.bl ++ numB d.ws.length ++ wrsB (d.ws.take i)) ++ textB x54.1.data.toList)))]) mixed (by kernel_rfl) (V.mono_cons (by rintro v wz wz' g ⟨ra3, rc3, rfl, rF3⟩; exact ⟨ra3, rc3, rfl, (by first | exact (rF3.gr g).mono (V.In.sub (Nat.le_refl _) g.size) | exact rF3.gr g | exact (rF3.gr g).mono (fun _ h => h) (Nat.le_refl _) g.size | exact (rF3.gr g).mono (fun k h => ⟨h.1, Nat.lt_of_lt_of_le h.2 g.size⟩))⟩) V.mono_nil) ?_
  refine V.grun T_ok 2 rfl (V.sel_none rfl) ?_
  refine V.gloadO T_ok (fun w' h => Fk57.gr h.1) rfl rfl rfl rfl rfl rfl ?_
  refine V.gcall (fun w' h => (p_text (s := x54.1) (rF32.sl.gr h.1) (fun k hk => by have := Fr.size h.1; have := hk.2; omega) (by first | omega | (simp only [List.length_take, List.length_drop, List.length_append, List.length_cons, List.length_nil, List.length_replicate, List.length_set, V.length_data, V.S_size]; omega)) (by first | omega | decide | (simp only [V.S_size, List.length_cons, List.length_nil]; omega))).mono (by rintro v w'' ⟨ra3, rc3, rfl, rF3, G⟩; exact ⟨⟨ra3, rc3, rfl, (by first | exact rF3.mono (V.In.mono_l h.1.size) | exact rF3 | exact rF3.mono (fun _ h => h) h.1.size (Nat.le_refl _))⟩, G⟩)) rfl rfl rfl rfl ?_
  rintro _ w71 - - ⟨a68, c69, rfl, -⟩
  refine V.grun T_ok 1 rfl (V.sel_none rfl) ?_
  refine V.gloadO T_ok (fun w' h => Fk57.gr h.1) rfl rfl rfl rfl rfl rfl ?_
  refine V.gnil ?_
  rintro w72 G73 hH74
  have z75 := V.Fr.size G73
  try replace F_b := F_b.gr G73
  try replace F_o := F_o.gr G73
  try replace Fk2 := Fk2.gr G73
  try replace F10 := F10.gr G73
  try replace F14 := F14.gr G73
  try replace F22 := F22.gr G73
  try replace F28 := F28.gr G73
  try replace F32 := F32.gr G73
  try replace rF32 := rF32.gr G73
  try replace Fk57 := Fk57.gr G73
  replace HG := HG.grow G73
  clear G73
  have F70 : V.Row V.Cod.byte 5 w72 V.None' w63.heap.size w72.heap.size a68 c69 ((b ++ numB d.id.toNat ++ numB d.ep.toNat ++ numB d.st.toNat ++ stB d.aw d.al ++ stB d.bw d.bl ++ numB d.ws.length ++ wrsB (d.ws.take i)) ++ textB x54.1.data.toList) := by
    obtain ⟨_, _, he, F0⟩ := (V.Hist.here (hH74 3))
    cases he
    exact F0
  clear hH74
  refine V.call (p_number (v := x54.2) F70.sl (fun k hk => by have := hk.2; omega) (by first | omega | (simp only [List.length_take, List.length_drop, List.length_append, List.length_cons, List.length_nil, List.length_replicate, List.length_set, V.length_data, V.S_size]; omega)) (by omega)) rfl rfl rfl ?_
  rintro _ w79 ⟨a76, c77, rfl, F78, G80⟩
  have z81 := V.Fr.size G80
  try replace F_b := F_b.gr G80
  try replace F_o := F_o.gr G80
  try replace Fk2 := Fk2.gr G80
  try replace F10 := F10.gr G80
  try replace F14 := F14.gr G80
  try replace F22 := F22.gr G80
  try replace F28 := F28.gr G80
  try replace F32 := F32.gr G80
  try replace rF32 := rF32.gr G80
  try replace Fk57 := Fk57.gr G80
  try replace F70 := F70.gr G80
  replace HG := HG.grow G80
  clear G80
  refine V.run T_ok 1 rfl ?_
  refine V.nil ?_
  refine V.bN ?_
  refine V.tN ?_
  refine V.region ?_
  refine V.addN rfl rfl rfl rfl rfl (by first | omega | (simp only [List.length_take, List.length_drop, List.length_append, List.length_cons, List.length_nil, List.length_replicate, List.length_set, V.length_data, V.S_size]; omega)) (by first | omega | (simp only [List.length_take, List.length_drop, List.length_append, List.length_cons, List.length_nil, List.length_replicate, List.length_set, V.length_data, V.S_size]; omega)) ?_
  refine V.run T_ok 1 rfl ?_
  refine V.nil ?_
  refine V.tN ?_
  have hr82 : ((b ++ numB d.id.toNat ++ numB d.ep.toNat ++ numB d.st.toNat ++ stB d.aw d.al ++ stB d.bw d.bl ++ numB d.ws.length ++ wrsB (d.ws.take i)) ++ textB x54.1.data.toList) ++ numB x54.2.toNat = b ++ numB d.id.toNat ++ numB d.ep.toNat ++ numB d.st.toNat ++ stB d.aw d.al ++ stB d.bw d.bl ++ numB d.ws.length ++ wrsB (d.ws.take (i + 1)) := by rw [← wrsB_succ (by omega) hx54]; simp [List.append_assoc]
  rw [hr82] at F78 ⊢
  clear hr82
  
  exact ⟨_, (by omega), HG, (by omega), F_b, F_o, Fk2, F10, F14, F22, F28, F32, (i + 1), a76, c77, rfl, (by omega), F78.re, rfl, rfl, rfl, rfl⟩
 ·
  try replace h4 := V.dec h4
  try simp only [V.mk0, V.mk1, V.mk2, V.mk3] at h4
  refine V.exit ?_
  refine V.tX ?_
  refine V.tX ?_
  refine V.bE ?_
  refine V.tN ?_
  refine V.seq ?_
  have hr83 : b ++ numB d.id.toNat ++ numB d.ep.toNat ++ numB d.st.toNat ++ stB d.aw d.al ++ stB d.bw d.bl ++ numB d.ws.length ++ wrsB (d.ws.take i) = b ++ recBy d := by rw [List.take_of_length_le (by omega)]; simp [recBy]
  rw [hr83] at rF32 ⊢
  clear hr83
  refine V.region ?_
  refine V.run T_ok 2 rfl ?_
  refine V.nil ?_
  refine V.tN ?_
  refine V.ret ?_
  refine V.done rfl ?_
  exact ⟨ra32, rc32, (by first | rfl | simp only [List.length_set]), rF32.re, HG⟩

set_option maxHeartbeats 4000000 in
set_option maxRecDepth 10000 in
theorem rlist_spec {w : World}  {D_ws : Nat → Prop} {c_ws : Nat} {a_ws : Option Addr} {ws : List (ByteArray × Int)} (F_ws : Sl V.Cod.write w D_ws a_ws c_ws ws) (hD_ws : ∀ k, D_ws k → k < w.heap.size) (hs : small ws) :
    Meets Try.prog 52 [.slice a_ws ws.length c_ws] w fun r w' => ∃ (ra33 : Option Addr) (rc33 : Nat), r = .slice ra33 (numB ws.length ++ wrsB ws).length rc33 ∧ V.Row V.Cod.byte 5 w' V.None' w.heap.size w'.heap.size ra33 rc33 (numB ws.length ++ wrsB ws) ∧ Gr w w' := by
 obtain ⟨s1, s2⟩ := hs
 have n6 := numB_len9 (v := (ws.length : Int)) (by omega)
 rw [Int.toNat_natCast] at n6
 have HG := V.Fr.refl [] w
 refine V.enter (n := 31) Try.func52 rfl rfl (by decide) rfl ?_
 refine V.seq ?_
 refine V.region ?_
 refine V.run T_ok 1 rfl ?_
 refine V.nil ?_
 refine V.tN ?_
 refine V.seq ?_
 refine V.region ?_
 refine V.run T_ok 2 rfl ?_
 refine V.call (rp_number (v := (ws.length : Int)) (by omega)) rfl rfl rfl ?_
 rintro _ w4 ⟨a1, c2, rfl, F3, G5⟩
 have z6 := V.Fr.size G5
 try replace F_ws := F_ws.gr G5
 replace HG := HG.grow G5
 clear G5
 refine V.run T_ok 1 rfl ?_
 refine V.nil ?_
 refine V.tN ?_
 refine V.seq ?_
 refine V.seq ?_
 have hr7 : numB (ws.length : Int).toNat = numB ws.length ++ wrsB (ws.take 0) := by simp [wrsB]
 rw [hr7] at F3 ⊢
 clear hr7
 refine V.region ?_
 refine V.run T_ok 1 rfl ?_
 refine V.nil ?_
 refine V.tN ?_
 refine V.block ?_
 have hl63 := F_ws.len63
 refine V.loopM (fun m e v9 => Fr [] w v9 ∧ w4.heap.size ≤ v9.heap.size ∧ Sl V.Cod.write v9 D_ws a_ws c_ws ws ∧ ∃ (i : Nat) (ra34 : Option Addr) (rc34 : Nat), m = ws.length - i ∧ i ≤ ws.length ∧ V.Row V.Cod.byte 5 v9 V.None' w.heap.size v9.heap.size ra34 rc34 (numB ws.length ++ wrsB (ws.take i)) ∧ e 0 = .slice a_ws ws.length c_ws ∧ e 3 = .slice ra34 (numB ws.length ++ wrsB (ws.take i)).length rc34 ∧ e 4 = .int .i64 (i : Int)) ?_ ?_
 ·
  exact ⟨_, HG, (by omega), F_ws, (0), a1, c2, rfl, (by omega), F3.re, rfl, rfl, rfl⟩
 try clear F3
 clear HG F_ws
 rintro _ e v9 ⟨HG, z10, F_ws, i, ra34, rc34, rfl, hi, rF34, he0_0, he0_3, he0_4⟩
 refine V.knownC (t := 0) he0_0 ?_
 refine V.knownC (t := 3) he0_3 ?_
 refine V.knownC (t := 4) he0_4 ?_
 refine V.seq ?_
 refine V.seq ?_
 refine V.region ?_
 refine V.run T_ok 4 rfl ?_
 refine V.nil ?_
 refine V.tN ?_
 refine V.condT rfl (fun h3 => ?_) (fun h3 => ?_)
 ·
  try replace h3 := V.dec h3
  try simp only [V.mk0, V.mk1, V.mk2, V.mk3] at h3
  refine V.skip ?_
  refine V.tN ?_
  refine V.seq ?_
  refine V.block ?_
  refine V.seq ?_
  refine V.region ?_
  refine V.run T_ok 3 rfl ?_
  refine V.elem T_ok F_ws rfl rfl sz49 rfl rfl rfl rfl (by first | omega | (simp only [List.length_take, List.length_drop, List.length_append, List.length_cons, List.length_nil, List.length_replicate, List.length_set, V.length_data, V.S_size]; omega)) (by first | omega | (simp only [List.length_take, List.length_drop, List.length_append, List.length_cons, List.length_nil, List.length_replicate, List.length_set, V.length_data, V.S_size]; omega)) ?_
  rintro b11 o12 cs13 hx14 hb15 hR18 hA16
  obtain ⟨x17, hx17⟩ : ∃ z', ws[((i : Int)).toNat] = z' := ⟨_, rfl⟩
  rw [hx17] at hR18
  obtain ⟨_, _, rfl, rfl, rfl⟩ := hR18
  try simp only [Int.toNat_natCast] at hx17 hx14
  refine V.run T_ok 1 rfl ?_
  refine V.loadA T_ok (o0 := o12) (off := 0) hA16 rfl rfl rfl rfl rfl ?_
  have hsx := s2 x17 (by rw [← hx17]; exact List.getElem_mem _)
  have hst := small_take ⟨s1, s2⟩ i
  have hwl := wr_len hsx
  rw [List.length_append] at hwl
  refine V.call (rp_text (s := x17.1) (by first | omega | decide | (simp only [V.S_size, List.length_cons, List.length_nil]; omega))) rfl rfl rfl ?_
  rintro _ w22 ⟨a19, c20, rfl, F21, G23⟩
  have z24 := V.Fr.size G23
  try replace F_ws := F_ws.gr G23
  try replace rF34 := rF34.gr G23
  replace HG := HG.grow G23
  clear G23
  refine V.appendR (rF34) (V.From.flat V.flat_byte (D' := V.None') (F21.sl.from Try.underlying47)) elT47_47 rfl rfl rfl rfl rfl (by first | omega | (simp only [List.length_take, List.length_drop, List.length_append, List.length_cons, List.length_nil, List.length_replicate, List.length_set, V.length_data, V.S_size]; omega)) (by unfold maxLen; first | omega | (simp only [List.length_take, List.length_drop, List.length_append, List.length_cons, List.length_nil, List.length_replicate, List.length_set, V.length_data, V.S_size]; omega)) (by omega) (by omega) (fun _ h => h.elim) (fun _ h => h.elim) ?_
  rintro a25 c26 w28 G29 s30 F27
  clear rF34
  have z31 := Go.RowKit.Below.size G29
  first | replace F_ws := V.Sl.bl F_ws G29 (by first | exact (fun _ h => by have := h.2; omega) | (intro k h; have := hD_ws k h; omega)) | clear F_ws | skip
  first | replace F21 := V.Row.bl F21 G29 (by first | exact ⟨fun _ h => h.elim, by omega⟩ | exact ⟨fun _ h => by have := h.2; omega, by omega⟩) | clear F21 | skip
  replace HG := HG.bl (Go.RowKit.Below.mono G29 (by omega))
  clear G29
  refine V.run T_ok 1 rfl ?_
  refine V.nil ?_
  refine V.tN ?_
  refine V.region ?_
  refine V.run T_ok 3 rfl ?_
  refine V.elem T_ok F_ws rfl rfl sz49 rfl rfl rfl rfl (by first | omega | (simp only [List.length_take, List.length_drop, List.length_append, List.length_cons, List.length_nil, List.length_replicate, List.length_set, V.length_data, V.S_size]; omega)) (by first | omega | (simp only [List.length_take, List.length_drop, List.length_append, List.length_cons, List.length_nil, List.length_replicate, List.length_set, V.length_data, V.S_size]; omega)) ?_
  rintro b32 o33 cs34 hx35 hb36 hR39 hA37
  obtain ⟨x38, hx38⟩ : ∃ z', ws[((i : Int)).toNat] = z' := ⟨_, rfl⟩
  rw [hx38] at hR39
  obtain ⟨_, _, rfl, rfl, rfl⟩ := hR39
  try simp only [Int.toNat_natCast] at hx38 hx35
  obtain rfl : x17 = x38 := hx17.symm.trans hx38
  refine V.run T_ok 1 rfl ?_
  refine V.loadA T_ok (o0 := o33) (off := 1) hA37 rfl rfl rfl rfl rfl ?_
  refine V.call (rp_number (v := x17.2) (by omega)) rfl rfl rfl ?_
  rintro _ w43 ⟨a40, c41, rfl, F42, G44⟩
  have z45 := V.Fr.size G44
  try replace F_ws := F_ws.gr G44
  try replace F21 := F21.gr G44
  try replace F27 := F27.gr G44
  replace HG := HG.grow G44
  clear G44
  refine V.appendR (F27) (V.From.flat V.flat_byte (D' := V.None') (F42.sl.from Try.underlying47)) elT47_47 rfl rfl rfl rfl rfl (by first | omega | (simp only [List.length_take, List.length_drop, List.length_append, List.length_cons, List.length_nil, List.length_replicate, List.length_set, V.length_data, V.S_size]; omega)) (by unfold maxLen; first | omega | (simp only [List.length_take, List.length_drop, List.length_append, List.length_cons, List.length_nil, List.length_replicate, List.length_set, V.length_data, V.S_size]; omega)) (by omega) (by omega) (fun _ h => h.elim) (fun _ h => h.elim) ?_
  rintro a46 c47 w49 G50 s51 F48
  clear F27
  have z52 := Go.RowKit.Below.size G50
  first | replace F_ws := V.Sl.bl F_ws G50 (by first | exact (fun _ h => by have := h.2; omega) | (intro k h; have := hD_ws k h; omega)) | clear F_ws | skip
  first | replace F21 := V.Row.bl F21 G50 (by first | exact ⟨fun _ h => h.elim, by omega⟩ | exact ⟨fun _ h => by have := h.2; omega, by omega⟩) | clear F21 | skip
  first | replace F42 := V.Row.bl F42 G50 (by first | exact ⟨fun _ h => h.elim, by omega⟩ | exact ⟨fun _ h => by have := h.2; omega, by omega⟩) | clear F42 | skip
  replace HG := HG.bl (Go.RowKit.Below.mono G50 (by omega))
  clear G50
  refine V.run T_ok 1 rfl ?_
  refine V.nil ?_
  refine V.bN ?_
  refine V.tN ?_
  refine V.region ?_
  refine V.run T_ok 1 rfl ?_
  refine V.addN rfl rfl rfl rfl rfl (by first | omega | (simp only [List.length_take, List.length_drop, List.length_append, List.length_cons, List.length_nil, List.length_replicate, List.length_set, V.length_data, V.S_size]; omega)) (by first | omega | (simp only [List.length_take, List.length_drop, List.length_append, List.length_cons, List.length_nil, List.length_replicate, List.length_set, V.length_data, V.S_size]; omega)) ?_
  refine V.run T_ok 1 rfl ?_
  refine V.nil ?_
  refine V.tN ?_
  have hr53 : ((numB ws.length ++ wrsB (ws.take i)) ++ (textB x17.1.data.toList)) ++ (numB x17.2.toNat) = numB ws.length ++ wrsB (ws.take (i + 1)) := by rw [← wrsB_succ (by omega) hx17]; simp [List.append_assoc]
  rw [hr53] at F48 ⊢
  clear hr53
  
  exact ⟨_, (by omega), HG, (by omega), F_ws, (i + 1), a46, c47, rfl, (by omega), F48.re, rfl, rfl, rfl⟩
 ·
  try replace h3 := V.dec h3
  try simp only [V.mk0, V.mk1, V.mk2, V.mk3] at h3
  refine V.exit ?_
  refine V.tX ?_
  refine V.tX ?_
  refine V.bE ?_
  refine V.tN ?_
  refine V.seq ?_
  have hr54 : numB ws.length ++ wrsB (ws.take i) = numB ws.length ++ wrsB ws := by rw [List.take_of_length_le (by omega)]
  rw [hr54] at rF34 ⊢
  clear hr54
  refine V.region ?_
  refine V.run T_ok 2 rfl ?_
  refine V.nil ?_
  refine V.tN ?_
  refine V.ret ?_
  refine V.done rfl ?_
  exact ⟨ra34, rc34, (by first | rfl | simp only [List.length_set]), rF34.re, HG⟩

set_option maxHeartbeats 4000000 in
set_option maxRecDepth 10000 in
theorem rbytes_spec {w : World} {d : RecV} {D_o : Nat → Prop} {c_o : Nat} {a_o : Option Addr} (F_o : Sl V.Cod.write w D_o a_o c_o d.ws) (hD_o : ∀ k, D_o k → k < w.heap.size)  (hd : inR64 d) (hs : small d.ws) :
    Meets Try.prog 25 [.agg #[.int .i64 d.id, .int .i64 d.ep, .int .i64 d.st, .int .i64 d.aw, .int .i64 d.al, .int .i64 d.bw, .int .i64 d.bl, .slice a_o d.ws.length c_o]] w fun r w' => ∃ (ra35 : Option Addr) (rc35 : Nat), r = .slice ra35 (recBy d).length rc35 ∧ V.Row V.Cod.byte 5 w' V.None' w.heap.size w'.heap.size ra35 rc35 (recBy d) ∧ Gr w w' := by
 obtain ⟨i1, i2, i3, i4, i5, i6, i7⟩ := hd
 obtain ⟨s1, s2⟩ := hs
 have n1 := numB_len9 i1
 have n2 := numB_len9 i2
 have n3 := numB_len9 i3
 have n4 := stB_len i4 i5
 have n5 := stB_len i6 i7
 have n6 := numB_len9 (v := (d.ws.length : Int)) (by omega)
 rw [Int.toNat_natCast] at n6
 have n7 := wrsB_len s2
 have HG := V.Fr.refl [] w
 refine V.enter (n := 31) Try.func25 rfl rfl (by decide) rfl ?_
 refine V.seq ?_
 refine V.region ?_
 refine V.box rfl rfl rfl rfl ?_
 rintro k1 w3 s5 s6 G4 Fk2
 have z7 := V.Fr.size G4
 try replace F_o := F_o.gr G4
 replace HG := HG.grow G4
 clear G4
 try simp only [V.cellsL, V.spliceL] at Fk2
 refine V.run T_ok 1 rfl ?_
 refine V.nil ?_
 refine V.tN ?_
 refine V.seq ?_
 refine V.drawGT 5 (V.sel [(2, (fun v wz => ∃ (ra7 : Option Addr) (rc7 : Nat), v = .slice ra7 (numB d.id.toNat).length rc7 ∧ V.Row V.Cod.byte 5 wz V.None' w3.heap.size wz.heap.size ra7 rc7 (numB d.id.toNat)))]) mixed (by kernel_rfl) (V.mono_cons (by rintro v wz wz' g ⟨ra7, rc7, rfl, rF7⟩; exact ⟨ra7, rc7, rfl, (by first | exact (rF7.gr g).mono (V.In.sub (Nat.le_refl _) g.size) | exact rF7.gr g | exact (rF7.gr g).mono (fun _ h => h) (Nat.le_refl _) g.size | exact (rF7.gr g).mono (fun k h => ⟨h.1, Nat.lt_of_lt_of_le h.2 g.size⟩))⟩) V.mono_nil) ?_
 refine V.grun T_ok 1 rfl (V.sel_none rfl) ?_
 refine V.gloadO T_ok (fun w' h => Fk2.gr h.1) rfl rfl rfl rfl rfl rfl ?_
 refine V.gcall (fun w' h => (rp_number (v := d.id) (by omega)).mono (by rintro v w'' ⟨ra7, rc7, rfl, rF7, G⟩; exact ⟨⟨ra7, rc7, rfl, (by first | exact rF7.mono (V.In.mono_l h.1.size) | exact rF7 | exact rF7.mono (fun _ h => h) h.1.size (Nat.le_refl _))⟩, G⟩)) rfl rfl rfl rfl ?_
 rintro _ w11 - - ⟨a8, c9, rfl, -⟩
 refine V.grun T_ok 1 rfl (V.sel_none rfl) ?_
 refine V.gloadO T_ok (fun w' h => Fk2.gr h.1) rfl rfl rfl rfl rfl rfl ?_
 refine V.gnil ?_
 rintro w12 G13 hH14
 have z15 := V.Fr.size G13
 try replace F_o := F_o.gr G13
 try replace Fk2 := Fk2.gr G13
 replace HG := HG.grow G13
 clear G13
 have F10 : V.Row V.Cod.byte 5 w12 V.None' w3.heap.size w12.heap.size a8 c9 (numB d.id.toNat) := by
   obtain ⟨_, _, he, F0⟩ := (V.Hist.here (hH14 2))
   cases he
   exact F0
 clear hH14
 refine V.call (rp_number (v := d.ep) (by omega)) rfl rfl rfl ?_
 rintro _ w19 ⟨a16, c17, rfl, F18, G20⟩
 have z21 := V.Fr.size G20
 try replace F_o := F_o.gr G20
 try replace Fk2 := Fk2.gr G20
 try replace F10 := F10.gr G20
 replace HG := HG.grow G20
 clear G20
 refine V.appendR (F10) (V.From.flat V.flat_byte (D' := V.None') (F18.sl.from Try.underlying47)) elT47_47 rfl rfl rfl rfl rfl (by first | omega | (simp only [List.length_take, List.length_drop, List.length_append, List.length_cons, List.length_nil, List.length_replicate, List.length_set, V.length_data, V.S_size]; omega)) (by unfold maxLen; first | omega | (simp only [List.length_take, List.length_drop, List.length_append, List.length_cons, List.length_nil, List.length_replicate, List.length_set, V.length_data, V.S_size]; omega)) (by omega) (by omega) (fun _ h => h.elim) (fun _ h => h.elim) ?_
 rintro a22 c23 w25 G26 s27 F24
 clear F10
 have z28 := Go.RowKit.Below.size G26
 first | replace F_o := V.Sl.bl F_o G26 (by first | exact (fun _ h => by have := h.2; omega) | (intro k h; have := hD_o k h; omega)) | clear F_o | skip
 first | replace Fk2 := V.Cells.bl Fk2 G26 (by omega) | clear Fk2 | skip
 first | replace F18 := V.Row.bl F18 G26 (by first | exact ⟨fun _ h => h.elim, by omega⟩ | exact ⟨fun _ h => by have := h.2; omega, by omega⟩) | clear F18 | skip
 replace HG := HG.bl (Go.RowKit.Below.mono G26 (by omega))
 clear G26
 refine V.run T_ok 1 rfl ?_
 refine V.nil ?_
 refine V.tN ?_
 refine V.seq ?_
 refine V.region ?_
 refine V.run T_ok 2 rfl ?_
 refine V.loadO T_ok Fk2 rfl rfl rfl rfl rfl ?_
 refine V.call (rp_number (v := d.st) (by omega)) rfl rfl rfl ?_
 rintro _ w32 ⟨a29, c30, rfl, F31, G33⟩
 have z34 := V.Fr.size G33
 try replace F_o := F_o.gr G33
 try replace Fk2 := Fk2.gr G33
 try replace F18 := F18.gr G33
 try replace F24 := F24.gr G33
 replace HG := HG.grow G33
 clear G33
 refine V.appendR (F24) (V.From.flat V.flat_byte (D' := V.None') (F31.sl.from Try.underlying47)) elT47_47 rfl rfl rfl rfl rfl (by first | omega | (simp only [List.length_take, List.length_drop, List.length_append, List.length_cons, List.length_nil, List.length_replicate, List.length_set, V.length_data, V.S_size]; omega)) (by unfold maxLen; first | omega | (simp only [List.length_take, List.length_drop, List.length_append, List.length_cons, List.length_nil, List.length_replicate, List.length_set, V.length_data, V.S_size]; omega)) (by omega) (by omega) (fun _ h => h.elim) (fun _ h => h.elim) ?_
 rintro a35 c36 w38 G39 s40 F37
 clear F24
 have z41 := Go.RowKit.Below.size G39
 first | replace F_o := V.Sl.bl F_o G39 (by first | exact (fun _ h => by have := h.2; omega) | (intro k h; have := hD_o k h; omega)) | clear F_o | skip
 first | replace Fk2 := V.Cells.bl Fk2 G39 (by omega) | clear Fk2 | skip
 first | replace F18 := V.Row.bl F18 G39 (by first | exact ⟨fun _ h => h.elim, by omega⟩ | exact ⟨fun _ h => by have := h.2; omega, by omega⟩) | clear F18 | skip
 first | replace F31 := V.Row.bl F31 G39 (by first | exact ⟨fun _ h => h.elim, by omega⟩ | exact ⟨fun _ h => by have := h.2; omega, by omega⟩) | clear F31 | skip
 replace HG := HG.bl (Go.RowKit.Below.mono G39 (by omega))
 clear G39
 refine V.run T_ok 1 rfl ?_
 refine V.nil ?_
 refine V.tN ?_
 refine V.seq ?_
 refine V.region ?_
 refine V.run T_ok 2 rfl ?_
 refine V.loadO T_ok Fk2 rfl rfl rfl rfl rfl ?_
 refine V.call (rsput_spec (a := d.aw) (b := d.al) (by omega) (by omega)) rfl rfl rfl ?_
 rintro _ w45 ⟨a42, c43, rfl, F44, G46⟩
 have z47 := V.Fr.size G46
 try replace F_o := F_o.gr G46
 try replace Fk2 := Fk2.gr G46
 try replace F18 := F18.gr G46
 try replace F31 := F31.gr G46
 try replace F37 := F37.gr G46
 replace HG := HG.grow G46
 clear G46
 refine V.appendR (F37) (V.From.flat V.flat_byte (D' := V.None') (F44.sl.from Try.underlying47)) elT47_47 rfl rfl rfl rfl rfl (by first | omega | (simp only [List.length_take, List.length_drop, List.length_append, List.length_cons, List.length_nil, List.length_replicate, List.length_set, V.length_data, V.S_size]; omega)) (by unfold maxLen; first | omega | (simp only [List.length_take, List.length_drop, List.length_append, List.length_cons, List.length_nil, List.length_replicate, List.length_set, V.length_data, V.S_size]; omega)) (by omega) (by omega) (fun _ h => h.elim) (fun _ h => h.elim) ?_
 rintro a48 c49 w51 G52 s53 F50
 clear F37
 have z54 := Go.RowKit.Below.size G52
 first | replace F_o := V.Sl.bl F_o G52 (by first | exact (fun _ h => by have := h.2; omega) | (intro k h; have := hD_o k h; omega)) | clear F_o | skip
 first | replace Fk2 := V.Cells.bl Fk2 G52 (by omega) | clear Fk2 | skip
 first | replace F18 := V.Row.bl F18 G52 (by first | exact ⟨fun _ h => h.elim, by omega⟩ | exact ⟨fun _ h => by have := h.2; omega, by omega⟩) | clear F18 | skip
 first | replace F31 := V.Row.bl F31 G52 (by first | exact ⟨fun _ h => h.elim, by omega⟩ | exact ⟨fun _ h => by have := h.2; omega, by omega⟩) | clear F31 | skip
 first | replace F44 := V.Row.bl F44 G52 (by first | exact ⟨fun _ h => h.elim, by omega⟩ | exact ⟨fun _ h => by have := h.2; omega, by omega⟩) | clear F44 | skip
 replace HG := HG.bl (Go.RowKit.Below.mono G52 (by omega))
 clear G52
 refine V.run T_ok 1 rfl ?_
 refine V.nil ?_
 refine V.tN ?_
 refine V.seq ?_
 refine V.region ?_
 refine V.run T_ok 2 rfl ?_
 refine V.loadO T_ok Fk2 rfl rfl rfl rfl rfl ?_
 refine V.call (rsput_spec (a := d.bw) (b := d.bl) (by omega) (by omega)) rfl rfl rfl ?_
 rintro _ w58 ⟨a55, c56, rfl, F57, G59⟩
 have z60 := V.Fr.size G59
 try replace F_o := F_o.gr G59
 try replace Fk2 := Fk2.gr G59
 try replace F18 := F18.gr G59
 try replace F31 := F31.gr G59
 try replace F44 := F44.gr G59
 try replace F50 := F50.gr G59
 replace HG := HG.grow G59
 clear G59
 refine V.appendR (F50) (V.From.flat V.flat_byte (D' := V.None') (F57.sl.from Try.underlying47)) elT47_47 rfl rfl rfl rfl rfl (by first | omega | (simp only [List.length_take, List.length_drop, List.length_append, List.length_cons, List.length_nil, List.length_replicate, List.length_set, V.length_data, V.S_size]; omega)) (by unfold maxLen; first | omega | (simp only [List.length_take, List.length_drop, List.length_append, List.length_cons, List.length_nil, List.length_replicate, List.length_set, V.length_data, V.S_size]; omega)) (by omega) (by omega) (fun _ h => h.elim) (fun _ h => h.elim) ?_
 rintro a61 c62 w64 G65 s66 F63
 clear F50
 have z67 := Go.RowKit.Below.size G65
 first | replace F_o := V.Sl.bl F_o G65 (by first | exact (fun _ h => by have := h.2; omega) | (intro k h; have := hD_o k h; omega)) | clear F_o | skip
 first | replace Fk2 := V.Cells.bl Fk2 G65 (by omega) | clear Fk2 | skip
 first | replace F18 := V.Row.bl F18 G65 (by first | exact ⟨fun _ h => h.elim, by omega⟩ | exact ⟨fun _ h => by have := h.2; omega, by omega⟩) | clear F18 | skip
 first | replace F31 := V.Row.bl F31 G65 (by first | exact ⟨fun _ h => h.elim, by omega⟩ | exact ⟨fun _ h => by have := h.2; omega, by omega⟩) | clear F31 | skip
 first | replace F44 := V.Row.bl F44 G65 (by first | exact ⟨fun _ h => h.elim, by omega⟩ | exact ⟨fun _ h => by have := h.2; omega, by omega⟩) | clear F44 | skip
 first | replace F57 := V.Row.bl F57 G65 (by first | exact ⟨fun _ h => h.elim, by omega⟩ | exact ⟨fun _ h => by have := h.2; omega, by omega⟩) | clear F57 | skip
 replace HG := HG.bl (Go.RowKit.Below.mono G65 (by omega))
 clear G65
 refine V.run T_ok 1 rfl ?_
 refine V.nil ?_
 refine V.tN ?_
 refine V.seq ?_
 have n8 : (numB d.ws.length ++ wrsB d.ws).length ≤ 109 + 1018 * d.ws.length := by rw [List.length_append]; omega
 refine V.region ?_
 refine V.run T_ok 2 rfl ?_
 refine V.loadO T_ok Fk2 rfl rfl rfl rfl rfl ?_
 refine V.call (rlist_spec F_o (fun k hk => by have := hD_o k hk; omega) (by first | assumption | exact ⟨s1, s2⟩)) rfl rfl rfl ?_
 rintro _ w71 ⟨a68, c69, rfl, F70, G72⟩
 have z73 := V.Fr.size G72
 try replace F_o := F_o.gr G72
 try replace Fk2 := Fk2.gr G72
 try replace F18 := F18.gr G72
 try replace F31 := F31.gr G72
 try replace F44 := F44.gr G72
 try replace F57 := F57.gr G72
 try replace F63 := F63.gr G72
 replace HG := HG.grow G72
 clear G72
 refine V.appendR (F63) (V.From.flat V.flat_byte (D' := V.None') (F70.sl.from Try.underlying47)) elT47_47 rfl rfl rfl rfl rfl (by first | omega | (simp only [List.length_take, List.length_drop, List.length_append, List.length_cons, List.length_nil, List.length_replicate, List.length_set, V.length_data, V.S_size]; omega)) (by unfold maxLen; first | omega | (simp only [List.length_take, List.length_drop, List.length_append, List.length_cons, List.length_nil, List.length_replicate, List.length_set, V.length_data, V.S_size]; omega)) (by omega) (by omega) (fun _ h => h.elim) (fun _ h => h.elim) ?_
 rintro a74 c75 w77 G78 s79 F76
 clear F63
 have z80 := Go.RowKit.Below.size G78
 first | replace F_o := V.Sl.bl F_o G78 (by first | exact (fun _ h => by have := h.2; omega) | (intro k h; have := hD_o k h; omega)) | clear F_o | skip
 first | replace Fk2 := V.Cells.bl Fk2 G78 (by omega) | clear Fk2 | skip
 first | replace F18 := V.Row.bl F18 G78 (by first | exact ⟨fun _ h => h.elim, by omega⟩ | exact ⟨fun _ h => by have := h.2; omega, by omega⟩) | clear F18 | skip
 first | replace F31 := V.Row.bl F31 G78 (by first | exact ⟨fun _ h => h.elim, by omega⟩ | exact ⟨fun _ h => by have := h.2; omega, by omega⟩) | clear F31 | skip
 first | replace F44 := V.Row.bl F44 G78 (by first | exact ⟨fun _ h => h.elim, by omega⟩ | exact ⟨fun _ h => by have := h.2; omega, by omega⟩) | clear F44 | skip
 first | replace F57 := V.Row.bl F57 G78 (by first | exact ⟨fun _ h => h.elim, by omega⟩ | exact ⟨fun _ h => by have := h.2; omega, by omega⟩) | clear F57 | skip
 first | replace F70 := V.Row.bl F70 G78 (by first | exact ⟨fun _ h => h.elim, by omega⟩ | exact ⟨fun _ h => by have := h.2; omega, by omega⟩) | clear F70 | skip
 replace HG := HG.bl (Go.RowKit.Below.mono G78 (by omega))
 clear G78
 refine V.run T_ok 1 rfl ?_
 refine V.nil ?_
 refine V.tN ?_
 refine V.ret ?_
 refine V.done rfl ?_
 rw [show recBy d = numB d.id.toNat ++ numB d.ep.toNat ++ numB d.st.toNat ++ stB d.aw d.al ++ stB d.bw d.bl ++ (numB d.ws.length ++ wrsB d.ws) by simp [recBy]]
 exact ⟨a74, c75, (by first | rfl | simp only [List.length_set]), F76.re, HG⟩

end Go.Proofs.Ytaokenlcjkomhaa
