/- Proved here: walks: what functions of this seat's program return and what they leave of memory, each as a contract. Conditions: stated at each theorem. -/
import Derived.Test.YtaokenlcjkomhaaMrecg
namespace Go.Proofs.Ytaokenlcjkomhaa
set_option linter.unusedVariables false
set_option linter.unusedSimpArgs false
open Go
open V (Bytes Meets Env Sl Own Gr Fr Cells S)

def rfWr : Nat → RfV → List (ByteArray × Int) × RfV
  | 0, d => ([], d)
  | n + 1, d => if d.bad = true then ([], d) else
    ((S (rdT (d.bs.drop d.i) 8).1.1, (rdN ((rfT d 8).bs.drop (rfT d 8).i) 1099511627776).1.1) :: (rfWr n (rfN (rfT d 8) 1099511627776)).1, (rfWr n (rfN (rfT d 8) 1099511627776)).2)
theorem rfWr_stop {n : Nat} {d : RfV} (h : n = 0 ∨ d.bad = true) : rfWr n d = ([], d) := by
  cases n with
  | zero => rfl
  | succ n => rcases h with h | h; omega; simp [rfWr, h]
theorem rfWr_step {n : Nat} {d : RfV} (h : d.bad = false) (acc : List (ByteArray × Int)) : acc ++ (rfWr (n + 1) d).1 = (acc ++ [(S (rdT (d.bs.drop d.i) 8).1.1, (rdN ((rfT d 8).bs.drop (rfT d 8).i) 1099511627776).1.1)]) ++ (rfWr n (rfN (rfT d 8) 1099511627776)).1 ∧ (rfWr (n + 1) d).2 = (rfWr n (rfN (rfT d 8) 1099511627776)).2 := by
  simp [rfWr, h]
theorem rdT_le8 (d : List UInt8) : (rdT d 8).1.1.length ≤ 8 := by
  unfold rdT
  split
  · simp
  · simp only [List.length_take]; omega
theorem rfWr_keys : ∀ (n : Nat) (d : RfV), keysOk (rfWr n d).1
  | 0, _ => keysOk.nil
  | n + 1, d => by
    unfold rfWr
    split
    · exact keysOk.nil
    · intro y hy
      rcases List.mem_cons.1 hy with rfl | h1
      · have := rdT_le8 (d.bs.drop d.i)
        rw [V.S_size]; omega
      · exact rfWr_keys n _ y h1
theorem rdN_rng0 (d : List UInt8) {m : Int} (hm : 0 ≤ m) : 0 ≤ (rdN d m).1.1 ∧ (rdN d m).1.1 ≤ m := by
  unfold rdN
  split
  · simp; exact hm
  · simp only; omega
/-- the writes that come next -/
def rfWrs (d : RfV) : List (ByteArray × Int) × RfV := rfWr (rdN (d.bs.drop d.i) 8).1.1.toNat (rfN d 8)
def rf1 (d : RfV) : RfV := rfN d 1099511627776
def rf2 (d : RfV) : RfV := rfN (rf1 d) 1099511627776
def rf3 (d : RfV) : RfV := rfN (rf2 d) 4
def rf4 (d : RfV) : RfV := rfS (rf3 d)
def rf5 (d : RfV) : RfV := rfS (rf4 d)
def rfV (d : RfV) : RecV := ⟨(rdN (d.bs.drop d.i) 1099511627776).1.1, (rdN ((rf1 d).bs.drop (rf1 d).i) 1099511627776).1.1, (rdN ((rf2 d).bs.drop (rf2 d).i) 4).1.1, (rdS ((rf3 d).bs.drop (rf3 d).i)).1.1.1, (rdS ((rf3 d).bs.drop (rf3 d).i)).1.1.2, (rdS ((rf4 d).bs.drop (rf4 d).i)).1.1.1, (rdS ((rf4 d).bs.drop (rf4 d).i)).1.1.2, (rfWrs (rf5 d)).1⟩
def rfG (d : RfV) : RfV := if recB (rfV d) = true then (rfWrs (rf5 d)).2 else ⟨(rfWrs (rf5 d)).2.bs, (rfWrs (rf5 d)).2.i, true⟩

set_option maxHeartbeats 4000000 in
set_option maxRecDepth 10000 in
theorem rwr_spec {w : World} {k : Nat} {D : Nat → Prop} {d : RfV} (FX : Rf w k D d)   :
    Meets Try.prog 65 [.pointer (some ⟨k, 0, none⟩)] w fun r w' => ∃ (ra48 : Option Addr) (rc48 : Nat), r = .slice ra48 ((rfWrs d).1).length rc48 ∧ V.Row V.Cod.write 49 w' V.None' w.heap.size w'.heap.size ra48 rc48 ((rfWrs d).1) ∧ Rf w' k D ((rfWrs d).2) ∧ Fr [k] w w' := by
 have hkl := FX.lt
 have hnk := FX.nk
 replace FX := FX.flb
 have HG := V.Fr.refl [k] w
 refine V.enter (n := 33) Try.func65 rfl rfl (by decide) rfl ?_
 refine V.seq ?_
 refine V.region ?_
 refine V.run T_ok 1 rfl ?_
 refine V.nil ?_
 refine V.tN ?_
 refine V.seq ?_
 refine V.region ?_
 refine V.run T_ok 1 rfl ?_
 refine V.nil ?_
 refine V.tN ?_
 refine V.seq ?_
 refine V.region ?_
 refine V.run T_ok 1 rfl ?_
 refine V.call (rf_n (most := 8) FX) rfl rfl rfl ?_
 rintro _ w2 ⟨rfl, F1, G3⟩
 have z4 := V.Fr.size G3
 first | replace FX := FX.mv1 G3 (by first | exact ⟨by omega, by assumption⟩ | exact ⟨by omega, fun h => absurd h.1 (by assumption)⟩ | exact ⟨by omega, fun h => absurd h.1.1 (by assumption)⟩ | exact ⟨by omega, fun h => by first | (have h2 := h.1; have h3 := h.2; omega) | (have h2 := h; dsimp only at h2; omega)⟩ | first | omega | exact fun h => h | exact ⟨by omega, fun h => h⟩ | (intro h; first | (have := hD _ h; omega)) | (refine ⟨by omega, ?_⟩; intro h; first | (have := hD _ h; omega))) | clear FX | skip
 replace HG := HG.n1 G3
 clear G3
 refine V.run T_ok 1 rfl ?_
 refine V.nil ?_
 refine V.tN ?_
 refine V.seq ?_
 refine V.seq ?_
 refine V.region ?_
 refine V.run T_ok 1 rfl ?_
 refine V.nil ?_
 refine V.tN ?_
 refine V.block ?_
 have hn8 := rdN_rng0 (d.bs.drop d.i) (m := 8) (by decide)
 refine V.loopM (fun m e v7 => Fr [k] w v7 ∧ w2.heap.size ≤ v7.heap.size ∧ ∃ (i : Nat) (cur : RfV) (acc : List (ByteArray × Int)) (ra50 : Option Addr) (rc50 : Nat), m = ((rdN (d.bs.drop d.i) 8).1.1).toNat - i ∧ i ≤ ((rdN (d.bs.drop d.i) 8).1.1).toNat ∧ acc ++ (rfWr (((rdN (d.bs.drop d.i) 8).1.1).toNat - i) cur).1 = (rfWrs d).1 ∧ (rfWr (((rdN (d.bs.drop d.i) 8).1.1).toNat - i) cur).2 = (rfWrs d).2 ∧ acc.length ≤ i ∧ Rf v7 k (fun j => D j ∧ j < w.heap.size) (cur) ∧ V.Row V.Cod.write 49 v7 V.None' w2.heap.size v7.heap.size ra50 rc50 acc ∧ e 0 = .pointer (some ⟨k, 0, none⟩) ∧ e 3 = .slice ra50 acc.length rc50 ∧ e 4 = .int .i64 ((rdN (d.bs.drop d.i) 8).1.1) ∧ e 5 = .int .i64 (i : Int)) ?_ ?_
 ·
  exact ⟨_, HG, (by omega), (0), (rfN d 8), ([]), none, 0, rfl, (by omega), (by rw [Nat.sub_zero, List.nil_append]; rfl), (by rw [Nat.sub_zero]; rfl), (Nat.le_refl 0), (by first | exact F1 | exact F1.mono (fun _ h => h.1) (by intro h; omega)), V.Row.nil, rfl, rfl, rfl, rfl⟩
 try clear F1
 clear HG
 rintro _ e v7 ⟨HG, z8, i, cur, acc, ra50, rc50, rfl, hi, hinv, hinv2, hal, F5, rF50, he0_0, he0_3, he0_4, he0_5⟩
 refine V.knownC (t := 0) he0_0 ?_
 refine V.knownC (t := 3) he0_3 ?_
 refine V.knownC (t := 4) he0_4 ?_
 refine V.knownC (t := 5) he0_5 ?_
 refine V.seq ?_
 refine V.seq ?_
 obtain ⟨a9, c10, F12, F11⟩ := F5.ex
 refine V.region ?_
 refine V.run T_ok 4 rfl ?_
 refine V.split (j := 3) (t := 13) rfl rfl (fun g4_3 => ?_) (fun g4_3 => ?_)
 ·
  try replace g4_3 := V.dec g4_3
  try simp only [V.mk0, V.mk1, V.mk2, V.mk3] at g4_3
  refine V.run T_ok 3 rfl ?_
  refine V.yes rfl rfl rfl ?_
  refine V.loadO T_ok F12 rfl rfl rfl rfl rfl ?_
  refine V.run T_ok 2 rfl ?_
  refine V.nil ?_
  refine V.tN ?_
  refine V.condT rfl (fun h4 => ?_) (fun h4 => ?_)
  ·
   try replace h4 := V.dec h4
   try simp only [V.mk0, V.mk1, V.mk2, V.mk3] at h4
   refine V.skip ?_
   refine V.tN ?_
   refine V.seq ?_
   refine V.block ?_
   refine V.seq ?_
   refine V.region ?_
   refine V.run T_ok 1 rfl ?_
   refine V.call (rf_t (most := 8) F5) rfl rfl rfl ?_
   rintro _ w14 ⟨rfl, F13, G15⟩
   have z16 := V.Fr.size G15
   first | replace F5 := F5.mv1 G15 (by first | exact ⟨by omega, by assumption⟩ | exact ⟨by omega, fun h => absurd h.1 (by assumption)⟩ | exact ⟨by omega, fun h => absurd h.1.1 (by assumption)⟩ | exact ⟨by omega, fun h => by first | (have h2 := h.1; have h3 := h.2; omega) | (have h2 := h; dsimp only at h2; omega)⟩ | first | omega | exact fun h => h | exact ⟨by omega, fun h => h⟩ | (intro h; first | (have := hD _ h; omega)) | (refine ⟨by omega, ?_⟩; intro h; first | (have := hD _ h; omega))) | clear F5 | skip
   first | replace rF50 := rF50.ma G15 | clear rF50 | skip
   first | replace F11 := F11.ma G15 | clear F11 | skip
   first | replace F12 := F12.mv1 G15 (by omega) | clear F12 | skip
   replace HG := HG.n1 G15
   clear G15
   refine V.run T_ok 1 rfl ?_
   refine V.nil ?_
   refine V.tN ?_
   refine V.seq ?_
   refine V.region ?_
   refine V.run T_ok 1 rfl ?_
   refine V.call (rf_n (most := 1099511627776) F13) rfl rfl rfl ?_
   rintro _ w18 ⟨rfl, F17, G19⟩
   have z20 := V.Fr.size G19
   first | replace rF50 := rF50.ma G19 | clear rF50 | skip
   first | replace F11 := F11.ma G19 | clear F11 | skip
   first | replace F12 := F12.mv1 G19 (by omega) | clear F12 | skip
   first | replace F13 := F13.mv1 G19 (by first | exact ⟨by omega, by assumption⟩ | exact ⟨by omega, fun h => absurd h.1 (by assumption)⟩ | exact ⟨by omega, fun h => absurd h.1.1 (by assumption)⟩ | exact ⟨by omega, fun h => by first | (have h2 := h.1; have h3 := h.2; omega) | (have h2 := h; dsimp only at h2; omega)⟩ | first | omega | exact fun h => h | exact ⟨by omega, fun h => h⟩ | (intro h; first | (have := hD _ h; omega)) | (refine ⟨by omega, ?_⟩; intro h; first | (have := hD _ h; omega))) | clear F13 | skip
   replace HG := HG.n1 G19
   clear G19
   refine V.run T_ok 1 rfl ?_
   refine V.nil ?_
   refine V.tN ?_
   refine V.region ?_
   refine V.run T_ok 3 rfl ?_
   refine V.mkStruct T_ok zero49 rfl rfl rfl rfl rfl ?_
   refine V.mkSlice T_ok zero49 rfl rfl sz49 rfl rfl rfl rfl rfl rfl ?_
   rintro k21 w24 s26 s27 G25 Fk22
   have z28 := V.Fr.size G25
   try replace rF50 := rF50.gr G25
   try replace F11 := F11.gr G25
   try replace F12 := F12.gr G25
   try replace F17 := F17.gr G25
   replace HG := HG.grow G25
   clear G25
   have F23 := V.rowOfC (xs := ([(S (rdT (cur.bs.drop cur.i) 8).1.1, (rdN ((rfT cur 8).bs.drop (rfT cur 8).i) 1099511627776).1.1)] : List (ByteArray × Int))) Fk22 (C := V.Cod.write) (V.reps_cons (x := (S (rdT (cur.bs.drop cur.i) 8).1.1, (rdN ((rfT cur 8).bs.drop (rfT cur 8).i) 1099511627776).1.1)) ⟨_, _, rfl, rfl, rfl⟩ rfl rfl) rfl
   clear Fk22
   refine V.appendR (rF50) (V.From.flat V.flat_write (D' := V.None') (F23.sl.from Try.underlying25)) elT25_25 rfl rfl rfl rfl rfl (by first | omega | (simp only [List.length_take, List.length_drop, List.length_append, List.length_cons, List.length_nil, List.length_replicate, List.length_set, V.length_data, V.S_size]; omega)) (by unfold maxLen; first | omega | (simp only [List.length_take, List.length_drop, List.length_append, List.length_cons, List.length_nil, List.length_replicate, List.length_set, V.length_data, V.S_size]; omega)) (by omega) (by omega) (fun _ h => h.elim) (fun _ h => h.elim) ?_
   rintro a29 c30 w32 G33 s34 F31
   clear rF50
   clear F23
   have z35 := Go.RowKit.Below.size G33
   first | replace F11 := V.Sl.bl F11 G33 (by first | exact (fun _ h => by have := h.2; omega) | (intro k h; have := hD k h; omega)) | clear F11 | skip
   first | replace F12 := V.Cells.bl F12 G33 (by omega) | clear F12 | skip
   first | replace F17 := F17.bl G33 (by first | exact ⟨by omega, fun j h => by have := h.2; omega⟩ | (first | omega | exact fun h => h | exact ⟨by omega, fun h => h⟩ | (intro h; first | (have := hD _ h; omega)) | (refine ⟨by omega, ?_⟩; intro h; first | (have := hD _ h; omega)))) | clear F17 | skip
   replace HG := HG.bl (Go.RowKit.Below.mono G33 (by omega))
   clear G33
   refine V.run T_ok 1 rfl ?_
   refine V.nil ?_
   refine V.bN ?_
   refine V.tN ?_
   refine V.region ?_
   refine V.run T_ok 1 rfl ?_
   refine V.addN rfl rfl rfl rfl rfl (by first | omega | (simp only [List.length_take, List.length_drop, List.length_append, List.length_cons, List.length_nil, List.length_replicate, List.length_set, V.length_data, V.S_size]; omega)) (by first | omega | (simp only [List.length_take, List.length_drop, List.length_append, List.length_cons, List.length_nil, List.length_replicate, List.length_set, V.length_data, V.S_size]; omega)) ?_
   refine V.run T_ok 1 rfl ?_
   refine V.nil ?_
   refine V.tN ?_
   exact ⟨_, (by omega), HG, (by omega), (i + 1), (rfN (rfT cur 8) 1099511627776), (acc ++ ([(S (rdT (cur.bs.drop cur.i) 8).1.1, (rdN ((rfT cur 8).bs.drop (rfT cur 8).i) 1099511627776).1.1)] : List (ByteArray × Int))), a29, c30, rfl, (by omega), (by rw [← hinv, show ((rdN (d.bs.drop d.i) 8).1.1).toNat - i = (((rdN (d.bs.drop d.i) 8).1.1).toNat - (i + 1)) + 1 by omega, (rfWr_step h4 acc).1]), (by rw [← hinv2, show ((rdN (d.bs.drop d.i) 8).1.1).toNat - i = (((rdN (d.bs.drop d.i) 8).1.1).toNat - (i + 1)) + 1 by omega, (rfWr_step h4 acc).2]), (by rw [List.length_append]; simp; omega), (by first | exact F17 | exact F17.mono (fun _ h => h.1) (by intro h; omega)), F31.re, rfl, rfl, rfl, rfl⟩
  ·
   try replace h4 := V.dec h4
   try simp only [V.mk0, V.mk1, V.mk2, V.mk3] at h4
   refine V.exit ?_
   refine V.tX ?_
   refine V.tX ?_
   refine V.bE ?_
   refine V.tN ?_
   refine V.seq ?_
   refine V.region ?_
   refine V.run T_ok 2 rfl ?_
   refine V.nil ?_
   refine V.tN ?_
   refine V.ret ?_
   refine V.done rfl ?_
   have hst := rfWr_stop (n := ((rdN (d.bs.drop d.i) 8).1.1).toNat - i) (d := cur) (by first | exact .inr h4 | exact .inl (by omega))
   rw [hst] at hinv hinv2
   rw [← hinv, ← hinv2, List.append_nil]
   exact ⟨ra50, rc50, (by first | rfl | simp only [List.length_set]), rF50.re, (F5.mono (fun _ h => h.1) hnk), HG⟩
 ·
  try replace g4_3 := V.dec g4_3
  try simp only [V.mk0, V.mk1, V.mk2, V.mk3] at g4_3
  refine V.run T_ok 6 rfl ?_
  refine V.nil ?_
  refine V.tN ?_
  refine V.condN rfl rfl ?_
  refine V.exit ?_
  refine V.tX ?_
  refine V.tX ?_
  refine V.bE ?_
  refine V.tN ?_
  refine V.seq ?_
  refine V.region ?_
  refine V.run T_ok 2 rfl ?_
  refine V.nil ?_
  refine V.tN ?_
  refine V.ret ?_
  refine V.done rfl ?_
  have hst := rfWr_stop (n := ((rdN (d.bs.drop d.i) 8).1.1).toNat - i) (d := cur) (by first | exact .inr h4 | exact .inl (by omega))
  rw [hst] at hinv hinv2
  rw [← hinv, ← hinv2, List.append_nil]
  exact ⟨ra50, rc50, (by first | rfl | simp only [List.length_set]), rF50.re, (F5.mono (fun _ h => h.1) hnk), HG⟩

set_option maxHeartbeats 4000000 in
set_option maxRecDepth 10000 in
theorem rget_spec {w : World} {k : Nat} {D : Nat → Prop} {d : RfV} (FX : Rf w k D d)   :
    Meets Try.prog 29 [.pointer (some ⟨k, 0, none⟩)] w fun r w' => ∃ (ra51 : Option Addr) (rc51 : Nat), r = .agg #[.int .i64 ((rfV d).id), .int .i64 ((rfV d).ep), .int .i64 ((rfV d).st), .int .i64 ((rfV d).aw), .int .i64 ((rfV d).al), .int .i64 ((rfV d).bw), .int .i64 ((rfV d).bl), .slice ra51 ((rfV d).ws).length rc51] ∧ Sl V.Cod.write w' (V.In w.heap.size w'.heap.size) ra51 rc51 ((rfV d).ws) ∧ Rf w' k D (rfG d) ∧ Fr [k] w w' := by
 have hkl := FX.lt
 have hnk := FX.nk
 replace FX := FX.flb
 have HG := V.Fr.refl [k] w
 refine V.enter (n := 31) Try.func29 rfl rfl (by decide) rfl ?_
 refine V.seq ?_
 refine V.region ?_
 refine V.alloc zero27 rfl rfl rfl ?_
 rintro k1 w3 s5 s6 G4 Fk2
 have z7 := V.Fr.size G4
 try replace FX := FX.gr G4
 replace HG := HG.grow G4
 clear G4
 try simp only [V.cellsL, V.spliceL] at Fk2
 refine V.nil ?_
 refine V.tN ?_
 refine V.seq ?_
 refine V.region ?_
 refine V.alloc zero27 rfl rfl rfl ?_
 rintro k8 w10 s12 s13 G11 Fk9
 have z14 := V.Fr.size G11
 try replace FX := FX.gr G11
 try replace Fk2 := Fk2.gr G11
 replace HG := HG.grow G11
 clear G11
 try simp only [V.cellsL, V.spliceL] at Fk9
 refine V.nil ?_
 refine V.tN ?_
 refine V.seq ?_
 refine V.region ?_
 refine V.run T_ok 1 rfl ?_
 refine V.call (rf_n (most := 1099511627776) FX) rfl rfl rfl ?_
 rintro _ w16 ⟨rfl, F15, G17⟩
 have z18 := V.Fr.size G17
 first | replace FX := FX.mv1 G17 (by first | exact ⟨by omega, by assumption⟩ | exact ⟨by omega, fun h => absurd h.1 (by assumption)⟩ | exact ⟨by omega, fun h => absurd h.1.1 (by assumption)⟩ | exact ⟨by omega, fun h => by first | (have h2 := h.1; have h3 := h.2; omega) | (have h2 := h; dsimp only at h2; omega)⟩ | first | omega | exact fun h => h | exact ⟨by omega, fun h => h⟩ | (intro h; first | (have := hD _ h; omega)) | (refine ⟨by omega, ?_⟩; intro h; first | (have := hD _ h; omega))) | clear FX | skip
 first | replace Fk2 := Fk2.mv1 G17 (by omega) | clear Fk2 | skip
 first | replace Fk9 := Fk9.mv1 G17 (by omega) | clear Fk9 | skip
 replace HG := HG.n1 G17
 clear G17
 refine V.run T_ok 1 rfl ?_
 refine V.storeO Fk9 rfl rfl rfl rfl sz3 rfl rfl rfl rfl ?_
 rintro w19 G20 z22 Fs21
 clear Fk9
 have z23 := V.Fr.size G20
 first | replace Fk2 := Fk2.mv1 G20 (by omega) | clear Fk2 | skip
 first | replace F15 := F15.mv1 G20 (by first | exact ⟨by omega, by assumption⟩ | exact ⟨by omega, fun h => absurd h.1 (by assumption)⟩ | exact ⟨by omega, fun h => absurd h.1.1 (by assumption)⟩ | exact ⟨by omega, fun h => by first | (have h2 := h.1; have h3 := h.2; omega) | (have h2 := h; dsimp only at h2; omega)⟩ | first | omega | exact fun h => h | exact ⟨by omega, fun h => h⟩ | (intro h; first | (have := hD _ h; omega)) | (refine ⟨by omega, ?_⟩; intro h; first | (have := hD _ h; omega))) | clear F15 | skip
 replace HG := HG.n1 G20
 clear G20
 have Fk9 := Fs21; clear Fs21
 simp only [V.spliceL, V.cellsL] at Fk9
 refine V.nil ?_
 refine V.tN ?_
 refine V.seq ?_
 refine V.region ?_
 refine V.run T_ok 1 rfl ?_
 refine V.call (rf_n (most := 1099511627776) F15) rfl rfl rfl ?_
 rintro _ w25 ⟨rfl, F24, G26⟩
 have z27 := V.Fr.size G26
 first | replace Fk2 := Fk2.mv1 G26 (by omega) | clear Fk2 | skip
 first | replace F15 := F15.mv1 G26 (by first | exact ⟨by omega, by assumption⟩ | exact ⟨by omega, fun h => absurd h.1 (by assumption)⟩ | exact ⟨by omega, fun h => absurd h.1.1 (by assumption)⟩ | exact ⟨by omega, fun h => by first | (have h2 := h.1; have h3 := h.2; omega) | (have h2 := h; dsimp only at h2; omega)⟩ | first | omega | exact fun h => h | exact ⟨by omega, fun h => h⟩ | (intro h; first | (have := hD _ h; omega)) | (refine ⟨by omega, ?_⟩; intro h; first | (have := hD _ h; omega))) | clear F15 | skip
 first | replace Fk9 := Fk9.mv1 G26 (by omega) | clear Fk9 | skip
 replace HG := HG.n1 G26
 clear G26
 refine V.run T_ok 1 rfl ?_
 refine V.storeO Fk9 rfl rfl rfl rfl sz3 rfl rfl rfl rfl ?_
 rintro w28 G29 z31 Fs30
 clear Fk9
 have z32 := V.Fr.size G29
 first | replace Fk2 := Fk2.mv1 G29 (by omega) | clear Fk2 | skip
 first | replace F24 := F24.mv1 G29 (by first | exact ⟨by omega, by assumption⟩ | exact ⟨by omega, fun h => absurd h.1 (by assumption)⟩ | exact ⟨by omega, fun h => absurd h.1.1 (by assumption)⟩ | exact ⟨by omega, fun h => by first | (have h2 := h.1; have h3 := h.2; omega) | (have h2 := h; dsimp only at h2; omega)⟩ | first | omega | exact fun h => h | exact ⟨by omega, fun h => h⟩ | (intro h; first | (have := hD _ h; omega)) | (refine ⟨by omega, ?_⟩; intro h; first | (have := hD _ h; omega))) | clear F24 | skip
 replace HG := HG.n1 G29
 clear G29
 have Fk9 := Fs30; clear Fs30
 simp only [V.spliceL, V.cellsL] at Fk9
 refine V.nil ?_
 refine V.tN ?_
 refine V.seq ?_
 refine V.region ?_
 refine V.run T_ok 1 rfl ?_
 refine V.call (rf_n (most := 4) F24) rfl rfl rfl ?_
 rintro _ w34 ⟨rfl, F33, G35⟩
 have z36 := V.Fr.size G35
 first | replace Fk2 := Fk2.mv1 G35 (by omega) | clear Fk2 | skip
 first | replace F24 := F24.mv1 G35 (by first | exact ⟨by omega, by assumption⟩ | exact ⟨by omega, fun h => absurd h.1 (by assumption)⟩ | exact ⟨by omega, fun h => absurd h.1.1 (by assumption)⟩ | exact ⟨by omega, fun h => by first | (have h2 := h.1; have h3 := h.2; omega) | (have h2 := h; dsimp only at h2; omega)⟩ | first | omega | exact fun h => h | exact ⟨by omega, fun h => h⟩ | (intro h; first | (have := hD _ h; omega)) | (refine ⟨by omega, ?_⟩; intro h; first | (have := hD _ h; omega))) | clear F24 | skip
 first | replace Fk9 := Fk9.mv1 G35 (by omega) | clear Fk9 | skip
 replace HG := HG.n1 G35
 clear G35
 refine V.run T_ok 1 rfl ?_
 refine V.storeO Fk9 rfl rfl rfl rfl sz22 rfl rfl rfl rfl ?_
 rintro w37 G38 z40 Fs39
 clear Fk9
 have z41 := V.Fr.size G38
 first | replace Fk2 := Fk2.mv1 G38 (by omega) | clear Fk2 | skip
 first | replace F33 := F33.mv1 G38 (by first | exact ⟨by omega, by assumption⟩ | exact ⟨by omega, fun h => absurd h.1 (by assumption)⟩ | exact ⟨by omega, fun h => absurd h.1.1 (by assumption)⟩ | exact ⟨by omega, fun h => by first | (have h2 := h.1; have h3 := h.2; omega) | (have h2 := h; dsimp only at h2; omega)⟩ | first | omega | exact fun h => h | exact ⟨by omega, fun h => h⟩ | (intro h; first | (have := hD _ h; omega)) | (refine ⟨by omega, ?_⟩; intro h; first | (have := hD _ h; omega))) | clear F33 | skip
 replace HG := HG.n1 G38
 clear G38
 have Fk9 := Fs39; clear Fs39
 simp only [V.spliceL, V.cellsL] at Fk9
 refine V.nil ?_
 refine V.tN ?_
 refine V.seq ?_
 refine V.region ?_
 refine V.run T_ok 1 rfl ?_
 refine V.call (rsg_spec F33) rfl rfl rfl ?_
 rintro _ w43 ⟨rfl, F42, G44⟩
 have z45 := V.Fr.size G44
 first | replace Fk2 := Fk2.mv1 G44 (by omega) | clear Fk2 | skip
 first | replace F33 := F33.mv1 G44 (by first | exact ⟨by omega, by assumption⟩ | exact ⟨by omega, fun h => absurd h.1 (by assumption)⟩ | exact ⟨by omega, fun h => absurd h.1.1 (by assumption)⟩ | exact ⟨by omega, fun h => by first | (have h2 := h.1; have h3 := h.2; omega) | (have h2 := h; dsimp only at h2; omega)⟩ | first | omega | exact fun h => h | exact ⟨by omega, fun h => h⟩ | (intro h; first | (have := hD _ h; omega)) | (refine ⟨by omega, ?_⟩; intro h; first | (have := hD _ h; omega))) | clear F33 | skip
 first | replace Fk9 := Fk9.mv1 G44 (by omega) | clear Fk9 | skip
 replace HG := HG.n1 G44
 clear G44
 refine V.run T_ok 1 rfl ?_
 refine V.storeO Fk9 rfl rfl rfl rfl sz24 rfl rfl rfl rfl ?_
 rintro w46 G47 z49 Fs48
 clear Fk9
 have z50 := V.Fr.size G47
 first | replace Fk2 := Fk2.mv1 G47 (by omega) | clear Fk2 | skip
 first | replace F42 := F42.mv1 G47 (by first | exact ⟨by omega, by assumption⟩ | exact ⟨by omega, fun h => absurd h.1 (by assumption)⟩ | exact ⟨by omega, fun h => absurd h.1.1 (by assumption)⟩ | exact ⟨by omega, fun h => by first | (have h2 := h.1; have h3 := h.2; omega) | (have h2 := h; dsimp only at h2; omega)⟩ | first | omega | exact fun h => h | exact ⟨by omega, fun h => h⟩ | (intro h; first | (have := hD _ h; omega)) | (refine ⟨by omega, ?_⟩; intro h; first | (have := hD _ h; omega))) | clear F42 | skip
 replace HG := HG.n1 G47
 clear G47
 have Fk9 := Fs48; clear Fs48
 simp only [V.spliceL, V.cellsL] at Fk9
 refine V.nil ?_
 refine V.tN ?_
 refine V.seq ?_
 refine V.region ?_
 refine V.run T_ok 1 rfl ?_
 refine V.call (rsg_spec F42) rfl rfl rfl ?_
 rintro _ w52 ⟨rfl, F51, G53⟩
 have z54 := V.Fr.size G53
 first | replace Fk2 := Fk2.mv1 G53 (by omega) | clear Fk2 | skip
 first | replace F42 := F42.mv1 G53 (by first | exact ⟨by omega, by assumption⟩ | exact ⟨by omega, fun h => absurd h.1 (by assumption)⟩ | exact ⟨by omega, fun h => absurd h.1.1 (by assumption)⟩ | exact ⟨by omega, fun h => by first | (have h2 := h.1; have h3 := h.2; omega) | (have h2 := h; dsimp only at h2; omega)⟩ | first | omega | exact fun h => h | exact ⟨by omega, fun h => h⟩ | (intro h; first | (have := hD _ h; omega)) | (refine ⟨by omega, ?_⟩; intro h; first | (have := hD _ h; omega))) | clear F42 | skip
 first | replace Fk9 := Fk9.mv1 G53 (by omega) | clear Fk9 | skip
 replace HG := HG.n1 G53
 clear G53
 refine V.run T_ok 1 rfl ?_
 refine V.storeO Fk9 rfl rfl rfl rfl sz24 rfl rfl rfl rfl ?_
 rintro w55 G56 z58 Fs57
 clear Fk9
 have z59 := V.Fr.size G56
 first | replace Fk2 := Fk2.mv1 G56 (by omega) | clear Fk2 | skip
 first | replace F51 := F51.mv1 G56 (by first | exact ⟨by omega, by assumption⟩ | exact ⟨by omega, fun h => absurd h.1 (by assumption)⟩ | exact ⟨by omega, fun h => absurd h.1.1 (by assumption)⟩ | exact ⟨by omega, fun h => by first | (have h2 := h.1; have h3 := h.2; omega) | (have h2 := h; dsimp only at h2; omega)⟩ | first | omega | exact fun h => h | exact ⟨by omega, fun h => h⟩ | (intro h; first | (have := hD _ h; omega)) | (refine ⟨by omega, ?_⟩; intro h; first | (have := hD _ h; omega))) | clear F51 | skip
 replace HG := HG.n1 G56
 clear G56
 have Fk9 := Fs57; clear Fs57
 simp only [V.spliceL, V.cellsL] at Fk9
 refine V.nil ?_
 refine V.tN ?_
 refine V.seq ?_
 refine V.region ?_
 refine V.run T_ok 1 rfl ?_
 refine V.call (rwr_spec F51) rfl rfl rfl ?_
 rintro _ w64 ⟨a60, c61, rfl, F62, F63, G65⟩
 have z66 := V.Fr.size G65
 first | replace Fk2 := Fk2.mv1 G65 (by omega) | clear Fk2 | skip
 first | replace F51 := F51.mv1 G65 (by first | exact ⟨by omega, by assumption⟩ | exact ⟨by omega, fun h => absurd h.1 (by assumption)⟩ | exact ⟨by omega, fun h => absurd h.1.1 (by assumption)⟩ | exact ⟨by omega, fun h => by first | (have h2 := h.1; have h3 := h.2; omega) | (have h2 := h; dsimp only at h2; omega)⟩ | first | omega | exact fun h => h | exact ⟨by omega, fun h => h⟩ | (intro h; first | (have := hD _ h; omega)) | (refine ⟨by omega, ?_⟩; intro h; first | (have := hD _ h; omega))) | clear F51 | skip
 first | replace Fk9 := Fk9.mv1 G65 (by omega) | clear Fk9 | skip
 replace HG := HG.n1 G65
 clear G65
 refine V.run T_ok 1 rfl ?_
 refine V.storeO Fk9 rfl rfl rfl rfl sz25 rfl rfl rfl rfl ?_
 rintro w67 G68 z70 Fs69
 clear Fk9
 have z71 := V.Fr.size G68
 first | replace Fk2 := Fk2.mv1 G68 (by omega) | clear Fk2 | skip
 first | replace F62 := F62.ma G68 | clear F62 | skip
 first | replace F63 := F63.mv1 G68 (by first | exact ⟨by omega, by assumption⟩ | exact ⟨by omega, fun h => absurd h.1 (by assumption)⟩ | exact ⟨by omega, fun h => absurd h.1.1 (by assumption)⟩ | exact ⟨by omega, fun h => by first | (have h2 := h.1; have h3 := h.2; omega) | (have h2 := h; dsimp only at h2; omega)⟩ | first | omega | exact fun h => h | exact ⟨by omega, fun h => h⟩ | (intro h; first | (have := hD _ h; omega)) | (refine ⟨by omega, ?_⟩; intro h; first | (have := hD _ h; omega))) | clear F63 | skip
 replace HG := HG.n1 G68
 clear G68
 have Fk9 := Fs69; clear Fs69
 simp only [V.spliceL, V.cellsL] at Fk9
 refine V.nil ?_
 refine V.tN ?_
 refine V.seq ?_
 refine V.region ?_
 have hko : keysOk ((rfWrs (rfS (rfS (rfN (rfN (rfN d 1099511627776) 1099511627776) 4)))).1) := rfWr_keys _ _
 generalize e0 : (rdN (d.bs.drop d.i) 1099511627776).1.1 = q0 at Fk9 ⊢
 generalize e1 : (rdN ((rfN d 1099511627776).bs.drop (rfN d 1099511627776).i) 1099511627776).1.1 = q1 at Fk9 ⊢
 generalize e2 : (rdN ((rfN (rfN d 1099511627776) 1099511627776).bs.drop (rfN (rfN d 1099511627776) 1099511627776).i) 4).1.1 = q2 at Fk9 ⊢
 generalize e3 : ((rdS ((rfN (rfN (rfN d 1099511627776) 1099511627776) 4).bs.drop (rfN (rfN (rfN d 1099511627776) 1099511627776) 4).i)).1.1).1 = q3 at Fk9 ⊢
 generalize e4 : ((rdS ((rfN (rfN (rfN d 1099511627776) 1099511627776) 4).bs.drop (rfN (rfN (rfN d 1099511627776) 1099511627776) 4).i)).1.1).2 = q4 at Fk9 ⊢
 generalize e5 : ((rdS ((rfS (rfN (rfN (rfN d 1099511627776) 1099511627776) 4)).bs.drop (rfS (rfN (rfN (rfN d 1099511627776) 1099511627776) 4)).i)).1.1).1 = q5 at Fk9 ⊢
 generalize e6 : ((rdS ((rfS (rfN (rfN (rfN d 1099511627776) 1099511627776) 4)).bs.drop (rfS (rfN (rfN (rfN d 1099511627776) 1099511627776) 4)).i)).1.1).2 = q6 at Fk9 ⊢
 generalize e7 : (rfWrs (rfS (rfS (rfN (rfN (rfN d 1099511627776) 1099511627776) 4)))).1 = q7 at F62 Fk9 hko ⊢
 generalize e8 : (rfWrs (rfS (rfS (rfN (rfN (rfN d 1099511627776) 1099511627776) 4)))).2 = q8 at F63
 refine V.loadO T_ok Fk9 rfl rfl rfl rfl rfl ?_
 have hq73 := rrecR_spec (d := (⟨q0, q1, q2, q3, q4, q5, q6, q7⟩ : RecV)) F62.sl (fun k hk => by have := hk.2; omega) (by first | assumption | (unfold keysOk; decide))
 try dsimp only at hq73
 refine V.call hq73 rfl rfl rfl ?_
 clear hq73
 rintro _ w72 ⟨rfl, G74⟩
 have z75 := V.Fr.size G74
 try replace Fk2 := Fk2.gr G74
 try replace F62 := F62.gr G74
 try replace F63 := F63.gr G74
 try replace Fk9 := Fk9.gr G74
 replace HG := HG.grow G74
 clear G74
 refine V.run T_ok 1 rfl ?_
 refine V.nil ?_
 refine V.tN ?_
 refine V.seq ?_
 refine V.seq ?_
 refine V.region ?_
 refine V.run T_ok 2 rfl ?_
 refine V.nil ?_
 refine V.tN ?_
 refine V.condT rfl (fun h9 => ?_) (fun h9 => ?_)
 ·
  try replace h9 := V.dec h9
  try simp only [V.mk0, V.mk1, V.mk2, V.mk3] at h9
  have hle := F63.le
  obtain ⟨a76, c77, F79, F78⟩ := F63.ex
  refine V.region ?_
  refine V.run T_ok 3 rfl ?_
  refine V.storeO F79 rfl rfl rfl rfl sz4 rfl rfl rfl rfl ?_
  rintro w80 G81 z83 Fs82
  clear F79
  have z84 := V.Fr.size G81
  first | replace Fk2 := Fk2.mv1 G81 (by omega) | clear Fk2 | skip
  first | replace F62 := F62.ma G81 | clear F62 | skip
  first | replace F63 := F63.mv1 G81 (by first | exact ⟨by omega, by assumption⟩ | exact ⟨by omega, fun h => absurd h.1 (by assumption)⟩ | exact ⟨by omega, fun h => absurd h.1.1 (by assumption)⟩ | exact ⟨by omega, fun h => by first | (have h2 := h.1; have h3 := h.2; omega) | (have h2 := h; dsimp only at h2; omega)⟩ | first | omega | exact fun h => h | exact ⟨by omega, fun h => h⟩ | (intro h; first | (have := hD _ h; omega)) | (refine ⟨by omega, ?_⟩; intro h; first | (have := hD _ h; omega))) | clear F63 | skip
  first | replace Fk9 := Fk9.mv1 G81 (by omega) | clear Fk9 | skip
  first | replace F78 := F78.ma G81 | clear F78 | skip
  replace HG := HG.n1 G81
  clear G81
  have F79 := Fs82; clear Fs82
  simp only [V.spliceL, V.cellsL] at F79
  refine V.nil ?_
  refine V.tN ?_
  refine V.seq ?_
  refine V.region ?_
  refine V.loadO T_ok Fk9 rfl rfl rfl rfl rfl ?_
  refine V.storeO Fk2 rfl rfl rfl rfl sz27 rfl rfl rfl rfl ?_
  rintro w85 G86 z88 Fs87
  clear Fk2
  have z89 := V.Fr.size G86
  first | replace F62 := F62.ma G86 | clear F62 | skip
  first | replace F63 := F63.mv1 G86 (by first | exact ⟨by omega, by assumption⟩ | exact ⟨by omega, fun h => absurd h.1 (by assumption)⟩ | exact ⟨by omega, fun h => absurd h.1.1 (by assumption)⟩ | exact ⟨by omega, fun h => by first | (have h2 := h.1; have h3 := h.2; omega) | (have h2 := h; dsimp only at h2; omega)⟩ | first | omega | exact fun h => h | exact ⟨by omega, fun h => h⟩ | (intro h; first | (have := hD _ h; omega)) | (refine ⟨by omega, ?_⟩; intro h; first | (have := hD _ h; omega))) | clear F63 | skip
  first | replace Fk9 := Fk9.mv1 G86 (by omega) | clear Fk9 | skip
  first | replace F78 := F78.ma G86 | clear F78 | skip
  first | replace F79 := F79.mv1 G86 (by omega) | clear F79 | skip
  replace HG := HG.n1 G86
  clear G86
  have Fk2 := Fs87; clear Fs87
  simp only [V.spliceL, V.cellsL] at Fk2
  refine V.nil ?_
  refine V.tN ?_
  refine V.ret ?_
  refine V.done1 rfl (V.resV_cell T_ok Fk2 rfl rfl) ?_
  simp only [rfG, rfV, rf5, rf4, rf3, rf2, rf1]
  simp only [e0, e1, e2, e3, e4, e5, e6, e7, e8, h9, Bool.false_eq_true, ↓reduceIte]
  exact ⟨a60, c61, (by first | rfl | simp only [List.length_set]), F62.sl.re, ⟨hnk, ⟨_, _, F79, (by first | exact F78 | exact F78.mono (fun k h => hnew k (by have := h.1; omega)) | exact F78.mono (fun k h => h.1))⟩, hle⟩, HG⟩
 ·
  try replace h9 := V.dec h9
  try simp only [V.mk0, V.mk1, V.mk2, V.mk3] at h9
  refine V.skip ?_
  refine V.tN ?_
  refine V.seq ?_
  refine V.region ?_
  refine V.loadO T_ok Fk9 rfl rfl rfl rfl rfl ?_
  refine V.storeO Fk2 rfl rfl rfl rfl sz27 rfl rfl rfl rfl ?_
  rintro w90 G91 z93 Fs92
  clear Fk2
  have z94 := V.Fr.size G91
  first | replace F62 := F62.ma G91 | clear F62 | skip
  first | replace F63 := F63.mv1 G91 (by first | exact ⟨by omega, by assumption⟩ | exact ⟨by omega, fun h => absurd h.1 (by assumption)⟩ | exact ⟨by omega, fun h => absurd h.1.1 (by assumption)⟩ | exact ⟨by omega, fun h => by first | (have h2 := h.1; have h3 := h.2; omega) | (have h2 := h; dsimp only at h2; omega)⟩ | first | omega | exact fun h => h | exact ⟨by omega, fun h => h⟩ | (intro h; first | (have := hD _ h; omega)) | (refine ⟨by omega, ?_⟩; intro h; first | (have := hD _ h; omega))) | clear F63 | skip
  first | replace Fk9 := Fk9.mv1 G91 (by omega) | clear Fk9 | skip
  replace HG := HG.n1 G91
  clear G91
  have Fk2 := Fs92; clear Fs92
  simp only [V.spliceL, V.cellsL] at Fk2
  refine V.nil ?_
  refine V.tN ?_
  refine V.ret ?_
  refine V.done1 rfl (V.resV_cell T_ok Fk2 rfl rfl) ?_
  simp only [rfG, rfV, rf5, rf4, rf3, rf2, rf1]
  simp only [e0, e1, e2, e3, e4, e5, e6, e7, e8, h9, Bool.false_eq_true, ↓reduceIte]
  exact ⟨a60, c61, (by first | rfl | simp only [List.length_set]), F62.sl.re, (F63.mono (fun _ h => h.1) hnk), HG⟩

end Go.Proofs.Ytaokenlcjkomhaa
