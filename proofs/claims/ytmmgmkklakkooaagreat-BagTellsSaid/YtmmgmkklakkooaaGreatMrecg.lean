/- Proved here: walks: what functions of this seat's program return and what they leave of memory, each as a contract. Conditions: stated at each theorem. -/
import Derived.Test.YtmmgmkklakkooaaGreatMrec3
namespace Go.Proofs.YtmmgmkklakkooaaGreat
set_option linter.unusedVariables false
set_option linter.unusedSimpArgs false
open Go
open V (Bytes Meets Env Sl Own Gr Fr Cells S)

def recZ : RecV := ⟨0, 0, 0, 0, 0, 0, 0, []⟩
def nxN (d : List UInt8) (m : Int) (k : Int → List UInt8 → Option RecV × List UInt8) : Option RecV × List UInt8 := if (rdN d m).1.2 = 0 then k (rdN d m).1.1 (rdN d m).2 else (none, (rdN d m).2)
def nxS (d : List UInt8) (k : Int → Int → List UInt8 → Option RecV × List UInt8) : Option RecV × List UInt8 := if (rdS d).1.2 = 0 then k (rdS d).1.1.1 (rdS d).1.1.2 (rdS d).2 else (none, (rdS d).2)
def rdWr : Nat → List UInt8 → List (ByteArray × Int) → Option (List (ByteArray × Int)) × List UInt8
  | 0, d, acc => (some acc, d)
  | n + 1, d, acc => if (rdT d 8).1.2 = 0 ∧ (rdN (rdT d 8).2 1099511627776).1.2 = 0 then rdWr n (rdN (rdT d 8).2 1099511627776).2 (acc ++ [(S (rdT d 8).1.1, (rdN (rdT d 8).2 1099511627776).1.1)]) else (none, (rdN (rdT d 8).2 1099511627776).2)
def rdFin (id ep st aw al bw bl : Int) (x : Option (List (ByteArray × Int)) × List UInt8) : Option RecV × List UInt8 :=
  match x with
  | (none, d) => (none, d)
  | (some ws, d) => if recB ⟨id, ep, st, aw, al, bw, bl, ws⟩ = true then (some ⟨id, ep, st, aw, al, bw, bl, ws⟩, d) else (none, d)
def rdRec (d : List UInt8) : Option RecV × List UInt8 :=
  nxN d 1099511627776 fun id d => nxN d 1099511627776 fun ep d => nxN d 4 fun st d => nxS d fun aw al d => nxS d fun bw bl d => nxN d 8 fun n d => rdFin id ep st aw al bw bl (rdWr n.toNat d [])

set_option maxHeartbeats 900000 in
set_option maxRecDepth 10000 in
theorem get1_spec {w : World} {kB k kx : Nat} {D : Nat → Prop} {d : List UInt8} {v0 v1 v2 v3 v4 v5 v6 v7 : Value} (FB : Cells w kB [.pointer (some ⟨k, 0, none⟩)] 102) (FX : Rd w k D d) (Fx : Cells w kx [v0, v1, v2, v3, v4, v5, v6, v7] 46) (n1 : kB ≠ k) (n2 : kB ≠ kx) (n3 : kx ≠ k) (n4 : ¬ D kx)   :
    Meets Tryz.prog 151 [.pointer (some ⟨kB, 0, none⟩), .pointer (some ⟨kx, 0, none⟩)] w fun r w' => r = .int .i64 ((rdN d 1099511627776).1.2) ∧ Rd w' k D ((rdN d 1099511627776).2) ∧ Cells w' kx [.int .i64 ((rdN d 1099511627776).1.1), v1, v2, v3, v4, v5, v6, v7] 46 ∧ Fr [k, kx] w w' := by
 have hkl := FX.lt
 have hnk := FX.nk
 replace FX := FX.flb
 have n5 : ¬ (D kx ∧ kx < w.heap.size) := fun h => n4 h.1
 have HG := V.Fr.refl [k, kx] w
 refine V.enter (n := 10) Tryz.func151 rfl rfl (by decide) rfl ?_
 refine V.sr ?_
 refine V.ru 1 ?_
 refine V.nt ?_
 refine V.sr ?_
 refine V.loadO T_ok FB rfl rfl rfl rfl rfl ?_
 refine V.call (rd_number (most := 1099511627776) FX) rfl rfl rfl ?_
 rintro _ w2 ⟨rfl, F1, G3⟩
 have z4 := V.Fr.size G3
 refine V.ru 4 ?_
 replace Fx := Fx.ma G3
 refine V.storeO Fx rfl rfl rfl rfl sz3 rfl rfl rfl rfl ?_
 rintro w5 G6 z8 Fs7
 clear Fx
 have z9 := V.Fr.size G6
 have Fx := Fs7; clear Fs7
 simp only [V.spliceL, V.cellsL] at Fx
 refine V.ru 1 ?_
 refine V.nt ?_
 refine V.sr ?_
 refine V.ru 2 ?_
 refine V.nt ?_
 refine V.ret ?_
 refine V.done rfl ?_
 replace F1 := F1.ma G6
 replace HG := HG.n1 G3
 replace HG := HG.n1 G6
 exact ⟨rfl, (F1.mono (fun _ h => h.1) hnk), Fx, HG⟩

set_option maxHeartbeats 900000 in
set_option maxRecDepth 10000 in
theorem get2_spec {w : World} {kB k kx : Nat} {D : Nat → Prop} {d : List UInt8} {v0 v1 v2 v3 v4 v5 v6 v7 : Value} (FB : Cells w kB [.pointer (some ⟨k, 0, none⟩)] 102) (FX : Rd w k D d) (Fx : Cells w kx [v0, v1, v2, v3, v4, v5, v6, v7] 46) (n1 : kB ≠ k) (n2 : kB ≠ kx) (n3 : kx ≠ k) (n4 : ¬ D kx)   :
    Meets Tryz.prog 152 [.pointer (some ⟨kB, 0, none⟩), .pointer (some ⟨kx, 0, none⟩)] w fun r w' => r = .int .i64 ((rdN d 1099511627776).1.2) ∧ Rd w' k D ((rdN d 1099511627776).2) ∧ Cells w' kx [v0, .int .i64 ((rdN d 1099511627776).1.1), v2, v3, v4, v5, v6, v7] 46 ∧ Fr [k, kx] w w' := by
 have hkl := FX.lt
 have hnk := FX.nk
 replace FX := FX.flb
 have n5 : ¬ (D kx ∧ kx < w.heap.size) := fun h => n4 h.1
 have HG := V.Fr.refl [k, kx] w
 refine V.enter (n := 10) Tryz.func152 rfl rfl (by decide) rfl ?_
 refine V.sr ?_
 refine V.ru 1 ?_
 refine V.nt ?_
 refine V.sr ?_
 refine V.loadO T_ok FB rfl rfl rfl rfl rfl ?_
 refine V.call (rd_number (most := 1099511627776) FX) rfl rfl rfl ?_
 rintro _ w2 ⟨rfl, F1, G3⟩
 have z4 := V.Fr.size G3
 refine V.ru 4 ?_
 replace Fx := Fx.ma G3
 refine V.storeO Fx rfl rfl rfl rfl sz3 rfl rfl rfl rfl ?_
 rintro w5 G6 z8 Fs7
 clear Fx
 have z9 := V.Fr.size G6
 have Fx := Fs7; clear Fs7
 simp only [V.spliceL, V.cellsL] at Fx
 refine V.ru 1 ?_
 refine V.nt ?_
 refine V.sr ?_
 refine V.ru 2 ?_
 refine V.nt ?_
 refine V.ret ?_
 refine V.done rfl ?_
 replace F1 := F1.ma G6
 replace HG := HG.n1 G3
 replace HG := HG.n1 G6
 exact ⟨rfl, (F1.mono (fun _ h => h.1) hnk), Fx, HG⟩

set_option maxHeartbeats 900000 in
set_option maxRecDepth 10000 in
theorem get3_spec {w : World} {kB k kx : Nat} {D : Nat → Prop} {d : List UInt8} {v0 : Value} (FB : Cells w kB [.pointer (some ⟨k, 0, none⟩)] 102) (FX : Rd w k D d) (Fx : Cells w kx [v0] 3) (n1 : kB ≠ k) (n2 : kB ≠ kx) (n3 : kx ≠ k) (n4 : ¬ D kx)   :
    Meets Tryz.prog 153 [.pointer (some ⟨kB, 0, none⟩), .pointer (some ⟨kx, 0, none⟩)] w fun r w' => r = .int .i64 ((rdN d 4).1.2) ∧ Rd w' k D ((rdN d 4).2) ∧ Cells w' kx [.int .i64 ((rdN d 4).1.1)] 3 ∧ Fr [k, kx] w w' := by
 have hkl := FX.lt
 have hnk := FX.nk
 replace FX := FX.flb
 have n5 : ¬ (D kx ∧ kx < w.heap.size) := fun h => n4 h.1
 have HG := V.Fr.refl [k, kx] w
 refine V.enter (n := 9) Tryz.func153 rfl rfl (by decide) rfl ?_
 refine V.sr ?_
 refine V.ru 1 ?_
 refine V.nt ?_
 refine V.sr ?_
 refine V.loadO T_ok FB rfl rfl rfl rfl rfl ?_
 refine V.call (rd_number (most := 4) FX) rfl rfl rfl ?_
 rintro _ w2 ⟨rfl, F1, G3⟩
 have z4 := V.Fr.size G3
 refine V.ru 3 ?_
 replace Fx := Fx.ma G3
 refine V.storeO Fx rfl rfl rfl rfl sz3 rfl rfl rfl rfl ?_
 rintro w5 G6 z8 Fs7
 clear Fx
 have z9 := V.Fr.size G6
 have Fx := Fs7; clear Fs7
 simp only [V.spliceL, V.cellsL] at Fx
 refine V.ru 1 ?_
 refine V.nt ?_
 refine V.sr ?_
 refine V.ru 2 ?_
 refine V.nt ?_
 refine V.ret ?_
 refine V.done rfl ?_
 replace F1 := F1.ma G6
 replace HG := HG.n1 G3
 replace HG := HG.n1 G6
 exact ⟨rfl, (F1.mono (fun _ h => h.1) hnk), Fx, HG⟩

set_option maxHeartbeats 900000 in
set_option maxRecDepth 10000 in
theorem get4_spec {w : World} {kB k kx : Nat} {D : Nat → Prop} {d : List UInt8} {v0 v1 v2 v3 v4 v5 v6 v7 : Value} (FB : Cells w kB [.pointer (some ⟨k, 0, none⟩)] 102) (FX : Rd w k D d) (Fx : Cells w kx [v0, v1, v2, v3, v4, v5, v6, v7] 46) (n1 : kB ≠ k) (n2 : kB ≠ kx) (n3 : kx ≠ k) (n4 : ¬ D kx)   :
    Meets Tryz.prog 154 [.pointer (some ⟨kB, 0, none⟩), .pointer (some ⟨kx, 0, none⟩)] w fun r w' => r = .int .i64 ((rdS d).1.2) ∧ Rd w' k D ((rdS d).2) ∧ Cells w' kx [v0, v1, v2, .int .i64 ((rdS d).1.1.1), .int .i64 ((rdS d).1.1.2), v5, v6, v7] 46 ∧ Fr [k, kx] w w' := by
 have hkl := FX.lt
 have hnk := FX.nk
 replace FX := FX.flb
 have n5 : ¬ (D kx ∧ kx < w.heap.size) := fun h => n4 h.1
 have HG := V.Fr.refl [k, kx] w
 refine V.enter (n := 10) Tryz.func154 rfl rfl (by decide) rfl ?_
 refine V.sr ?_
 refine V.ru 1 ?_
 refine V.nt ?_
 refine V.sr ?_
 refine V.loadO T_ok FB rfl rfl rfl rfl rfl ?_
 refine V.call (sget_spec FX) rfl rfl rfl ?_
 rintro _ w2 ⟨rfl, F1, G3⟩
 have z4 := V.Fr.size G3
 refine V.ru 4 ?_
 replace Fx := Fx.ma G3
 refine V.storeO Fx rfl rfl rfl rfl sz33 rfl rfl rfl rfl ?_
 rintro w5 G6 z8 Fs7
 clear Fx
 have z9 := V.Fr.size G6
 have Fx := Fs7; clear Fs7
 simp only [V.spliceL, V.cellsL] at Fx
 refine V.ru 1 ?_
 refine V.nt ?_
 refine V.sr ?_
 refine V.ru 2 ?_
 refine V.nt ?_
 refine V.ret ?_
 refine V.done rfl ?_
 replace F1 := F1.ma G6
 replace HG := HG.n1 G3
 replace HG := HG.n1 G6
 exact ⟨rfl, (F1.mono (fun _ h => h.1) hnk), Fx, HG⟩

set_option maxHeartbeats 900000 in
set_option maxRecDepth 10000 in
theorem get5_spec {w : World} {kB k kx : Nat} {D : Nat → Prop} {d : List UInt8} {v0 v1 v2 v3 v4 v5 v6 v7 : Value} (FB : Cells w kB [.pointer (some ⟨k, 0, none⟩)] 102) (FX : Rd w k D d) (Fx : Cells w kx [v0, v1, v2, v3, v4, v5, v6, v7] 46) (n1 : kB ≠ k) (n2 : kB ≠ kx) (n3 : kx ≠ k) (n4 : ¬ D kx)   :
    Meets Tryz.prog 155 [.pointer (some ⟨kB, 0, none⟩), .pointer (some ⟨kx, 0, none⟩)] w fun r w' => r = .int .i64 ((rdS d).1.2) ∧ Rd w' k D ((rdS d).2) ∧ Cells w' kx [v0, v1, v2, v3, v4, .int .i64 ((rdS d).1.1.1), .int .i64 ((rdS d).1.1.2), v7] 46 ∧ Fr [k, kx] w w' := by
 have hkl := FX.lt
 have hnk := FX.nk
 replace FX := FX.flb
 have n5 : ¬ (D kx ∧ kx < w.heap.size) := fun h => n4 h.1
 have HG := V.Fr.refl [k, kx] w
 refine V.enter (n := 10) Tryz.func155 rfl rfl (by decide) rfl ?_
 refine V.sr ?_
 refine V.ru 1 ?_
 refine V.nt ?_
 refine V.sr ?_
 refine V.loadO T_ok FB rfl rfl rfl rfl rfl ?_
 refine V.call (sget_spec FX) rfl rfl rfl ?_
 rintro _ w2 ⟨rfl, F1, G3⟩
 have z4 := V.Fr.size G3
 refine V.ru 4 ?_
 replace Fx := Fx.ma G3
 refine V.storeO Fx rfl rfl rfl rfl sz33 rfl rfl rfl rfl ?_
 rintro w5 G6 z8 Fs7
 clear Fx
 have z9 := V.Fr.size G6
 have Fx := Fs7; clear Fs7
 simp only [V.spliceL, V.cellsL] at Fx
 refine V.ru 1 ?_
 refine V.nt ?_
 refine V.sr ?_
 refine V.ru 2 ?_
 refine V.nt ?_
 refine V.ret ?_
 refine V.done rfl ?_
 replace F1 := F1.ma G6
 replace HG := HG.n1 G3
 replace HG := HG.n1 G6
 exact ⟨rfl, (F1.mono (fun _ h => h.1) hnk), Fx, HG⟩

set_option maxHeartbeats 900000 in
set_option maxRecDepth 10000 in
theorem get6_spec {w : World} {kB k kx : Nat} {D : Nat → Prop} {d : List UInt8} {v0 : Value} (FB : Cells w kB [.pointer (some ⟨k, 0, none⟩)] 102) (FX : Rd w k D d) (Fx : Cells w kx [v0] 3) (n1 : kB ≠ k) (n2 : kB ≠ kx) (n3 : kx ≠ k) (n4 : ¬ D kx)   :
    Meets Tryz.prog 156 [.pointer (some ⟨kB, 0, none⟩), .pointer (some ⟨kx, 0, none⟩)] w fun r w' => r = .int .i64 ((rdN d 8).1.2) ∧ Rd w' k D ((rdN d 8).2) ∧ Cells w' kx [.int .i64 ((rdN d 8).1.1)] 3 ∧ Fr [k, kx] w w' := by
 have hkl := FX.lt
 have hnk := FX.nk
 replace FX := FX.flb
 have n5 : ¬ (D kx ∧ kx < w.heap.size) := fun h => n4 h.1
 have HG := V.Fr.refl [k, kx] w
 refine V.enter (n := 9) Tryz.func156 rfl rfl (by decide) rfl ?_
 refine V.sr ?_
 refine V.ru 1 ?_
 refine V.nt ?_
 refine V.sr ?_
 refine V.loadO T_ok FB rfl rfl rfl rfl rfl ?_
 refine V.call (rd_number (most := 8) FX) rfl rfl rfl ?_
 rintro _ w2 ⟨rfl, F1, G3⟩
 have z4 := V.Fr.size G3
 refine V.ru 3 ?_
 replace Fx := Fx.ma G3
 refine V.storeO Fx rfl rfl rfl rfl sz3 rfl rfl rfl rfl ?_
 rintro w5 G6 z8 Fs7
 clear Fx
 have z9 := V.Fr.size G6
 have Fx := Fs7; clear Fs7
 simp only [V.spliceL, V.cellsL] at Fx
 refine V.ru 1 ?_
 refine V.nt ?_
 refine V.sr ?_
 refine V.ru 2 ?_
 refine V.nt ?_
 refine V.ret ?_
 refine V.done rfl ?_
 replace F1 := F1.ma G6
 replace HG := HG.n1 G3
 replace HG := HG.n1 G6
 exact ⟨rfl, (F1.mono (fun _ h => h.1) hnk), Fx, HG⟩


theorem rdN_rng {d : List UInt8} {m : Int} (h : (rdN d m).1.2 = 0) : 0 ≤ (rdN d m).1.1 ∧ (rdN d m).1.1 ≤ m := by
  obtain ⟨v, r, _, _, h2, h3⟩ := rdN_ok h
  rw [h3]; exact ⟨Int.natCast_nonneg v, h2⟩
theorem rdT_len8 {d : List UInt8} (h : (rdT d 8).1.2 = 0) : (rdT d 8).1.1.length ≤ 8 := by
  obtain ⟨s, r, _, _, h2, h3⟩ := rdT_ok h
  rw [h3]; simp only; omega
theorem keysOk.snoc {ws : List (ByteArray × Int)} {x : ByteArray × Int} (h : keysOk ws) (hx : x.1.size ≤ 9223372036854775807) : keysOk (ws ++ [x]) := by
  intro y hy
  rcases List.mem_append.1 hy with h1 | h1
  · exact h y h1
  · rw [List.mem_singleton.1 h1]; exact hx

set_option maxHeartbeats 900000 in
set_option maxRecDepth 10000 in
theorem get_spec {w : World} {k : Nat} {D : Nat → Prop} {d : List UInt8} (FX : Rd w k D d)   :
    Meets Tryz.prog 116 [.pointer (some ⟨k, 0, none⟩)] w fun r w' => ∃ (ra48 : Option Addr) (rc48 : Nat), r = .tuple #[.agg #[.int .i64 (((rdRec d).1.getD recZ).id), .int .i64 (((rdRec d).1.getD recZ).ep), .int .i64 (((rdRec d).1.getD recZ).st), .int .i64 (((rdRec d).1.getD recZ).aw), .int .i64 (((rdRec d).1.getD recZ).al), .int .i64 (((rdRec d).1.getD recZ).bw), .int .i64 (((rdRec d).1.getD recZ).bl), .slice ra48 (((rdRec d).1.getD recZ).ws).length rc48], .int .i64 (if (rdRec d).1.isSome = true then 0 else 11)] ∧ Sl V.Cod.write w' (V.In w.heap.size w'.heap.size) ra48 rc48 (((rdRec d).1.getD recZ).ws) ∧ Rd w' k D ((rdRec d).2) ∧ Fr [k] w w' := by
 have hkl := FX.lt
 have hnk := FX.nk
 replace FX := FX.flb
 have HG := V.Fr.refl [k] w
 refine V.enter (n := 66) Tryz.func116 rfl rfl (by decide) rfl ?_
 refine V.sr ?_
 refine V.box rfl rfl rfl rfl ?_
 rintro k1 w3 s5 s6 G4 Fk2
 have z7 := V.Fr.size G4
 try simp only [V.cellsL, V.spliceL] at Fk2
 refine V.alloc zero46 rfl rfl rfl ?_
 rintro k8 w10 s12 s13 G11 Fk9
 have z14 := V.Fr.size G11
 try simp only [V.cellsL, V.spliceL] at Fk9
 refine V.ru 1 ?_
 refine V.nt ?_
 refine V.sr ?_
 refine V.alloc zero46 rfl rfl rfl ?_
 rintro k15 w17 s19 s20 G18 Fk16
 have z21 := V.Fr.size G18
 try simp only [V.cellsL, V.spliceL] at Fk16
 refine V.nt ?_
 refine V.sr ?_
 refine V.alloc zero3 rfl rfl rfl ?_
 rintro k22 w24 s26 s27 G25 Fk23
 have z28 := V.Fr.size G25
 try simp only [V.cellsL, V.spliceL] at Fk23
 refine V.alloc zero3 rfl rfl rfl ?_
 rintro k29 w31 s33 s34 G32 Fk30
 have z35 := V.Fr.size G32
 try simp only [V.cellsL, V.spliceL] at Fk30
 refine V.nt ?_
 refine V.seq ?_
 refine V.sr ?_
 refine V.ru 6 ?_
 refine V.mkSlice T_ok zero123 rfl rfl sz123 rfl rfl rfl rfl rfl rfl ?_
 rintro k36 w39 s41 s42 G40 Fk37
 have z43 := V.Fr.size G40
 refine V.ru 2 ?_
 refine V.nt ?_
 refine V.block ?_
 refine V.loopR 7 ?_
 refine V.rnd ?_
 refine V.sr ?_
 refine V.ru 1 ?_
 refine V.nt ?_
 refine V.seq ?_
 refine V.condY rfl rfl ?_
 refine V.skip ?_
 refine V.tN ?_
 refine V.seq ?_
 refine V.block ?_
 refine V.sr ?_
 refine V.step rfl rfl (V.elem_run T_ok rfl rfl sz123 rfl rfl (by decide) (by decide) _) ?_
 refine V.loadO T_ok Fk37 rfl rfl rfl rfl rfl ?_
 refine V.ru 1 ?_
 refine V.nt ?_
 refine V.sr ?_
 refine V.ru 1 ?_
 replace FX := FX.gr (G4.trans (G11.trans (G18.trans (G25.trans (G32.trans G40)))))
 replace Fk2 := Fk2.gr (G11.trans (G18.trans (G25.trans (G32.trans G40))))
 replace Fk16 := Fk16.gr (G25.trans (G32.trans G40))
 refine V.call (get1_spec (FB := Fk2) (FX := FX) (Fx := Fk16) (n1 := by omega) (n2 := by omega) (n3 := by omega) (n4 := fun h => by have := h.2; omega)) rfl rfl rfl ?_
 rintro _ w46 ⟨rfl, F44, F45, G47⟩
 have z48 := V.Fr.size G47
 refine V.ru 1 ?_
 refine V.nt ?_
 refine V.condT rfl (fun h6_0 => ?_) (fun h6_0 => ?_)
 ·
  try replace h6_0 := V.dec h6_0
  try simp only [V.mk] at h6_0
  refine V.sr ?_
  refine V.mkStruct T_ok zero46 rfl rfl rfl rfl rfl ?_
  replace Fk9 := Fk9.gr (G18.trans (G25.trans (G32.trans G40)))
  replace Fk9 := Fk9.mS G47
  refine V.storeO Fk9 rfl rfl rfl rfl sz46 rfl rfl rfl rfl ?_
  rintro w49 G50 z52 Fs51
  clear Fk9
  have z53 := V.Fr.size G50
  have Fk9 := Fs51; clear Fs51
  simp only [V.spliceL, V.cellsL] at Fk9
  refine V.ru 1 ?_
  refine V.nt ?_
  refine V.ret ?_
  refine V.bR ?_
  refine V.tR ?_
  refine V.tR ?_
  refine V.bR ?_
  refine V.tR ?_
  refine V.done2 rfl (V.resV_cell T_ok Fk9 rfl rfl) (V.resV_tmp rfl) ?_
  rw [show rdRec d = (none, (rdN d 1099511627776).2) by simp only [rdRec, nxN, nxS, h6_0, ↓reduceIte]]
  dsimp only
  replace F44 := F44.ma G50
  replace HG := HG.grow (G4.trans (G11.trans (G18.trans (G25.trans (G32.trans G40)))))
  replace HG := HG.nS G47
  replace HG := HG.n1 G50
  exact ⟨none, 0, (by first | rfl | simp only [List.length_set]), (Sl.nil _ _ _ _ _ (Nat.zero_le _)), (F44.mono (fun _ h => h.1) hnk), HG⟩
 ·
  try replace h6_0 := V.dec h6_0
  try simp only [V.mk] at h6_0
  refine V.skip ?_
  refine V.bN ?_
  refine V.tN ?_
  refine V.region ?_
  refine V.addN rfl rfl rfl rfl rfl V.lenA V.lenA ?_
  refine V.ru 1 ?_
  refine V.nt ?_
  refine V.rnd ?_
  refine V.sr ?_
  refine V.ru 1 ?_
  refine V.nt ?_
  refine V.seq ?_
  refine V.condY rfl rfl ?_
  refine V.skip ?_
  refine V.tN ?_
  refine V.seq ?_
  refine V.block ?_
  refine V.sr ?_
  refine V.step rfl rfl (V.elem_run T_ok rfl rfl sz123 rfl rfl (by decide) (by decide) _) ?_
  replace Fk37 := Fk37.mS G47
  refine V.loadO T_ok Fk37 rfl rfl rfl rfl rfl ?_
  refine V.ru 1 ?_
  refine V.nt ?_
  refine V.sr ?_
  refine V.ru 1 ?_
  replace Fk2 := Fk2.mS G47
  refine V.call (get2_spec (FB := Fk2) (FX := F44) (Fx := F45) (n1 := by omega) (n2 := by omega) (n3 := by omega) (n4 := fun h => by have := h.2; omega)) rfl rfl rfl ?_
  rintro _ w56 ⟨rfl, F54, F55, G57⟩
  have z58 := V.Fr.size G57
  refine V.ru 1 ?_
  refine V.nt ?_
  refine V.condT rfl (fun h6_1 => ?_) (fun h6_1 => ?_)
  ·
   try replace h6_1 := V.dec h6_1
   try simp only [V.mk] at h6_1
   refine V.sr ?_
   refine V.mkStruct T_ok zero46 rfl rfl rfl rfl rfl ?_
   replace Fk9 := Fk9.gr (G18.trans (G25.trans (G32.trans G40)))
   replace Fk9 := Fk9.mS G47
   replace Fk9 := Fk9.mS G57
   refine V.storeO Fk9 rfl rfl rfl rfl sz46 rfl rfl rfl rfl ?_
   rintro w59 G60 z62 Fs61
   clear Fk9
   have z63 := V.Fr.size G60
   have Fk9 := Fs61; clear Fs61
   simp only [V.spliceL, V.cellsL] at Fk9
   refine V.ru 1 ?_
   refine V.nt ?_
   refine V.ret ?_
   refine V.bR ?_
   refine V.tR ?_
   refine V.tR ?_
   refine V.bR ?_
   refine V.tR ?_
   refine V.done2 rfl (V.resV_cell T_ok Fk9 rfl rfl) (V.resV_tmp rfl) ?_
   rw [show rdRec d = (none, (rdN ((rdN d 1099511627776).2) 1099511627776).2) by simp only [rdRec, nxN, nxS, h6_0, h6_1, ↓reduceIte]]
   dsimp only
   replace F54 := F54.ma G60
   replace HG := HG.grow (G4.trans (G11.trans (G18.trans (G25.trans (G32.trans G40)))))
   replace HG := HG.nS G47
   replace HG := HG.nS G57
   replace HG := HG.n1 G60
   exact ⟨none, 0, (by first | rfl | simp only [List.length_set]), (Sl.nil _ _ _ _ _ (Nat.zero_le _)), (F54.mono (fun _ h => h.1) hnk), HG⟩
  ·
   try replace h6_1 := V.dec h6_1
   try simp only [V.mk] at h6_1
   refine V.skip ?_
   refine V.bN ?_
   refine V.tN ?_
   refine V.region ?_
   refine V.addN rfl rfl rfl rfl rfl V.lenA V.lenA ?_
   refine V.ru 1 ?_
   refine V.nt ?_
   refine V.rnd ?_
   refine V.sr ?_
   refine V.ru 1 ?_
   refine V.nt ?_
   refine V.seq ?_
   refine V.condY rfl rfl ?_
   refine V.skip ?_
   refine V.tN ?_
   refine V.seq ?_
   refine V.block ?_
   refine V.sr ?_
   refine V.step rfl rfl (V.elem_run T_ok rfl rfl sz123 rfl rfl (by decide) (by decide) _) ?_
   replace Fk37 := Fk37.mS G57
   refine V.loadO T_ok Fk37 rfl rfl rfl rfl rfl ?_
   refine V.ru 1 ?_
   refine V.nt ?_
   refine V.sr ?_
   refine V.ru 1 ?_
   replace Fk2 := Fk2.mS G57
   replace Fk23 := Fk23.gr (G32.trans G40)
   replace Fk23 := Fk23.mS G47
   replace Fk23 := Fk23.mS G57
   refine V.call (get3_spec (FB := Fk2) (FX := F54) (Fx := Fk23) (n1 := by omega) (n2 := by omega) (n3 := by omega) (n4 := fun h => by have := h.2; omega)) rfl rfl rfl ?_
   rintro _ w66 ⟨rfl, F64, F65, G67⟩
   have z68 := V.Fr.size G67
   refine V.ru 1 ?_
   refine V.nt ?_
   refine V.condT rfl (fun h6_2 => ?_) (fun h6_2 => ?_)
   ·
    try replace h6_2 := V.dec h6_2
    try simp only [V.mk] at h6_2
    refine V.sr ?_
    refine V.mkStruct T_ok zero46 rfl rfl rfl rfl rfl ?_
    replace Fk9 := Fk9.gr (G18.trans (G25.trans (G32.trans G40)))
    replace Fk9 := Fk9.mS G47
    replace Fk9 := Fk9.mS G57
    replace Fk9 := Fk9.mS G67
    refine V.storeO Fk9 rfl rfl rfl rfl sz46 rfl rfl rfl rfl ?_
    rintro w69 G70 z72 Fs71
    clear Fk9
    have z73 := V.Fr.size G70
    have Fk9 := Fs71; clear Fs71
    simp only [V.spliceL, V.cellsL] at Fk9
    refine V.ru 1 ?_
    refine V.nt ?_
    refine V.ret ?_
    refine V.bR ?_
    refine V.tR ?_
    refine V.tR ?_
    refine V.bR ?_
    refine V.tR ?_
    refine V.done2 rfl (V.resV_cell T_ok Fk9 rfl rfl) (V.resV_tmp rfl) ?_
    rw [show rdRec d = (none, (rdN ((rdN ((rdN d 1099511627776).2) 1099511627776).2) 4).2) by simp only [rdRec, nxN, nxS, h6_0, h6_1, h6_2, ↓reduceIte]]
    dsimp only
    replace F64 := F64.ma G70
    replace HG := HG.grow (G4.trans (G11.trans (G18.trans (G25.trans (G32.trans G40)))))
    replace HG := HG.nS G47
    replace HG := HG.nS G57
    replace HG := HG.nS G67
    replace HG := HG.n1 G70
    exact ⟨none, 0, (by first | rfl | simp only [List.length_set]), (Sl.nil _ _ _ _ _ (Nat.zero_le _)), (F64.mono (fun _ h => h.1) hnk), HG⟩
   ·
    try replace h6_2 := V.dec h6_2
    try simp only [V.mk] at h6_2
    refine V.skip ?_
    refine V.bN ?_
    refine V.tN ?_
    refine V.region ?_
    refine V.addN rfl rfl rfl rfl rfl V.lenA V.lenA ?_
    refine V.ru 1 ?_
    refine V.nt ?_
    refine V.rnd ?_
    refine V.sr ?_
    refine V.ru 1 ?_
    refine V.nt ?_
    refine V.seq ?_
    refine V.condY rfl rfl ?_
    refine V.skip ?_
    refine V.tN ?_
    refine V.seq ?_
    refine V.block ?_
    refine V.sr ?_
    refine V.step rfl rfl (V.elem_run T_ok rfl rfl sz123 rfl rfl (by decide) (by decide) _) ?_
    replace Fk37 := Fk37.mS G67
    refine V.loadO T_ok Fk37 rfl rfl rfl rfl rfl ?_
    refine V.ru 1 ?_
    refine V.nt ?_
    refine V.sr ?_
    refine V.ru 1 ?_
    replace Fk2 := Fk2.mS G67
    replace F55 := F55.mS G67
    refine V.call (get4_spec (FB := Fk2) (FX := F64) (Fx := F55) (n1 := by omega) (n2 := by omega) (n3 := by omega) (n4 := fun h => by have := h.2; omega)) rfl rfl rfl ?_
    rintro _ w76 ⟨rfl, F74, F75, G77⟩
    have z78 := V.Fr.size G77
    refine V.ru 1 ?_
    refine V.nt ?_
    refine V.condT rfl (fun h6_3 => ?_) (fun h6_3 => ?_)
    ·
     try replace h6_3 := V.dec h6_3
     try simp only [V.mk] at h6_3
     refine V.sr ?_
     refine V.mkStruct T_ok zero46 rfl rfl rfl rfl rfl ?_
     replace Fk9 := Fk9.gr (G18.trans (G25.trans (G32.trans G40)))
     replace Fk9 := Fk9.mS G47
     replace Fk9 := Fk9.mS G57
     replace Fk9 := Fk9.mS G67
     replace Fk9 := Fk9.mS G77
     refine V.storeO Fk9 rfl rfl rfl rfl sz46 rfl rfl rfl rfl ?_
     rintro w79 G80 z82 Fs81
     clear Fk9
     have z83 := V.Fr.size G80
     have Fk9 := Fs81; clear Fs81
     simp only [V.spliceL, V.cellsL] at Fk9
     refine V.ru 1 ?_
     refine V.nt ?_
     refine V.ret ?_
     refine V.bR ?_
     refine V.tR ?_
     refine V.tR ?_
     refine V.bR ?_
     refine V.tR ?_
     refine V.done2 rfl (V.resV_cell T_ok Fk9 rfl rfl) (V.resV_tmp rfl) ?_
     rw [show rdRec d = (none, (rdS ((rdN ((rdN ((rdN d 1099511627776).2) 1099511627776).2) 4).2)).2) by simp only [rdRec, nxN, nxS, h6_0, h6_1, h6_2, h6_3, ↓reduceIte]]
     dsimp only
     replace F74 := F74.ma G80
     replace HG := HG.grow (G4.trans (G11.trans (G18.trans (G25.trans (G32.trans G40)))))
     replace HG := HG.nS G47
     replace HG := HG.nS G57
     replace HG := HG.nS G67
     replace HG := HG.nS G77
     replace HG := HG.n1 G80
     exact ⟨none, 0, (by first | rfl | simp only [List.length_set]), (Sl.nil _ _ _ _ _ (Nat.zero_le _)), (F74.mono (fun _ h => h.1) hnk), HG⟩
    ·
     try replace h6_3 := V.dec h6_3
     try simp only [V.mk] at h6_3
     refine V.skip ?_
     refine V.bN ?_
     refine V.tN ?_
     refine V.region ?_
     refine V.addN rfl rfl rfl rfl rfl V.lenA V.lenA ?_
     refine V.ru 1 ?_
     refine V.nt ?_
     refine V.rnd ?_
     refine V.sr ?_
     refine V.ru 1 ?_
     refine V.nt ?_
     refine V.seq ?_
     refine V.condY rfl rfl ?_
     refine V.skip ?_
     refine V.tN ?_
     refine V.seq ?_
     refine V.block ?_
     refine V.sr ?_
     refine V.step rfl rfl (V.elem_run T_ok rfl rfl sz123 rfl rfl (by decide) (by decide) _) ?_
     replace Fk37 := Fk37.mS G77
     refine V.loadO T_ok Fk37 rfl rfl rfl rfl rfl ?_
     refine V.ru 1 ?_
     refine V.nt ?_
     refine V.sr ?_
     refine V.ru 1 ?_
     replace Fk2 := Fk2.mS G77
     refine V.call (get5_spec (FB := Fk2) (FX := F74) (Fx := F75) (n1 := by omega) (n2 := by omega) (n3 := by omega) (n4 := fun h => by have := h.2; omega)) rfl rfl rfl ?_
     rintro _ w86 ⟨rfl, F84, F85, G87⟩
     have z88 := V.Fr.size G87
     refine V.ru 1 ?_
     refine V.nt ?_
     refine V.condT rfl (fun h6_4 => ?_) (fun h6_4 => ?_)
     ·
      try replace h6_4 := V.dec h6_4
      try simp only [V.mk] at h6_4
      refine V.sr ?_
      refine V.mkStruct T_ok zero46 rfl rfl rfl rfl rfl ?_
      replace Fk9 := Fk9.gr (G18.trans (G25.trans (G32.trans G40)))
      replace Fk9 := Fk9.mS G47
      replace Fk9 := Fk9.mS G57
      replace Fk9 := Fk9.mS G67
      replace Fk9 := Fk9.mS G77
      replace Fk9 := Fk9.mS G87
      refine V.storeO Fk9 rfl rfl rfl rfl sz46 rfl rfl rfl rfl ?_
      rintro w89 G90 z92 Fs91
      clear Fk9
      have z93 := V.Fr.size G90
      have Fk9 := Fs91; clear Fs91
      simp only [V.spliceL, V.cellsL] at Fk9
      refine V.ru 1 ?_
      refine V.nt ?_
      refine V.ret ?_
      refine V.bR ?_
      refine V.tR ?_
      refine V.tR ?_
      refine V.bR ?_
      refine V.tR ?_
      refine V.done2 rfl (V.resV_cell T_ok Fk9 rfl rfl) (V.resV_tmp rfl) ?_
      rw [show rdRec d = (none, (rdS ((rdS ((rdN ((rdN ((rdN d 1099511627776).2) 1099511627776).2) 4).2)).2)).2) by simp only [rdRec, nxN, nxS, h6_0, h6_1, h6_2, h6_3, h6_4, ↓reduceIte]]
      dsimp only
      replace F84 := F84.ma G90
      replace HG := HG.grow (G4.trans (G11.trans (G18.trans (G25.trans (G32.trans G40)))))
      replace HG := HG.nS G47
      replace HG := HG.nS G57
      replace HG := HG.nS G67
      replace HG := HG.nS G77
      replace HG := HG.nS G87
      replace HG := HG.n1 G90
      exact ⟨none, 0, (by first | rfl | simp only [List.length_set]), (Sl.nil _ _ _ _ _ (Nat.zero_le _)), (F84.mono (fun _ h => h.1) hnk), HG⟩
     ·
      try replace h6_4 := V.dec h6_4
      try simp only [V.mk] at h6_4
      refine V.skip ?_
      refine V.bN ?_
      refine V.tN ?_
      refine V.region ?_
      refine V.addN rfl rfl rfl rfl rfl V.lenA V.lenA ?_
      refine V.ru 1 ?_
      refine V.nt ?_
      refine V.rnd ?_
      refine V.sr ?_
      refine V.ru 1 ?_
      refine V.nt ?_
      refine V.seq ?_
      refine V.condY rfl rfl ?_
      refine V.skip ?_
      refine V.tN ?_
      refine V.seq ?_
      refine V.block ?_
      refine V.sr ?_
      refine V.step rfl rfl (V.elem_run T_ok rfl rfl sz123 rfl rfl (by decide) (by decide) _) ?_
      replace Fk37 := Fk37.mS G87
      refine V.loadO T_ok Fk37 rfl rfl rfl rfl rfl ?_
      refine V.ru 1 ?_
      refine V.nt ?_
      refine V.sr ?_
      refine V.ru 1 ?_
      replace Fk2 := Fk2.mS G87
      replace Fk30 := Fk30.gr G40
      replace Fk30 := Fk30.mS G47
      replace Fk30 := Fk30.mS G57
      replace Fk30 := Fk30.mS G67
      replace Fk30 := Fk30.mS G77
      replace Fk30 := Fk30.mS G87
      refine V.call (get6_spec (FB := Fk2) (FX := F84) (Fx := Fk30) (n1 := by omega) (n2 := by omega) (n3 := by omega) (n4 := fun h => by have := h.2; omega)) rfl rfl rfl ?_
      rintro _ w96 ⟨rfl, F94, F95, G97⟩
      have z98 := V.Fr.size G97
      refine V.ru 1 ?_
      refine V.nt ?_
      refine V.condT rfl (fun h6_5 => ?_) (fun h6_5 => ?_)
      ·
       try replace h6_5 := V.dec h6_5
       try simp only [V.mk] at h6_5
       refine V.sr ?_
       refine V.mkStruct T_ok zero46 rfl rfl rfl rfl rfl ?_
       replace Fk9 := Fk9.gr (G18.trans (G25.trans (G32.trans G40)))
       replace Fk9 := Fk9.mS G47
       replace Fk9 := Fk9.mS G57
       replace Fk9 := Fk9.mS G67
       replace Fk9 := Fk9.mS G77
       replace Fk9 := Fk9.mS G87
       replace Fk9 := Fk9.mS G97
       refine V.storeO Fk9 rfl rfl rfl rfl sz46 rfl rfl rfl rfl ?_
       rintro w99 G100 z102 Fs101
       clear Fk9
       have z103 := V.Fr.size G100
       have Fk9 := Fs101; clear Fs101
       simp only [V.spliceL, V.cellsL] at Fk9
       refine V.ru 1 ?_
       refine V.nt ?_
       refine V.ret ?_
       refine V.bR ?_
       refine V.tR ?_
       refine V.tR ?_
       refine V.bR ?_
       refine V.tR ?_
       refine V.done2 rfl (V.resV_cell T_ok Fk9 rfl rfl) (V.resV_tmp rfl) ?_
       rw [show rdRec d = (none, (rdN ((rdS ((rdS ((rdN ((rdN ((rdN d 1099511627776).2) 1099511627776).2) 4).2)).2)).2) 8).2) by simp only [rdRec, nxN, nxS, h6_0, h6_1, h6_2, h6_3, h6_4, h6_5, ↓reduceIte]]
       dsimp only
       replace F94 := F94.ma G100
       replace HG := HG.grow (G4.trans (G11.trans (G18.trans (G25.trans (G32.trans G40)))))
       replace HG := HG.nS G47
       replace HG := HG.nS G57
       replace HG := HG.nS G67
       replace HG := HG.nS G77
       replace HG := HG.nS G87
       replace HG := HG.nS G97
       replace HG := HG.n1 G100
       exact ⟨none, 0, (by first | rfl | simp only [List.length_set]), (Sl.nil _ _ _ _ _ (Nat.zero_le _)), (F94.mono (fun _ h => h.1) hnk), HG⟩
      ·
       try replace h6_5 := V.dec h6_5
       try simp only [V.mk] at h6_5
       refine V.skip ?_
       refine V.bN ?_
       refine V.tN ?_
       refine V.region ?_
       refine V.addN rfl rfl rfl rfl rfl V.lenA V.lenA ?_
       refine V.ru 1 ?_
       refine V.nt ?_
       refine V.rnd ?_
       refine V.sr ?_
       refine V.ru 1 ?_
       refine V.nt ?_
       refine V.seq ?_
       refine V.condN rfl rfl ?_
       refine V.exit ?_
       refine V.tX ?_
       refine V.tX ?_
       refine V.bE ?_
       refine V.tN ?_
       refine V.seq ?_
       refine V.sr ?_
       refine V.loadO T_ok F95 rfl rfl rfl rfl rfl ?_
       refine V.ru 1 ?_
       refine V.nt ?_
       refine V.block ?_
       have hc8 := rdN_rng h6_5
       have hR : rdRec d = rdFin ((rdN d 1099511627776).1.1) ((rdN ((rdN d 1099511627776).2) 1099511627776).1.1) ((rdN ((rdN ((rdN d 1099511627776).2) 1099511627776).2) 4).1.1) ((rdS ((rdN ((rdN ((rdN d 1099511627776).2) 1099511627776).2) 4).2)).1.1.1) ((rdS ((rdN ((rdN ((rdN d 1099511627776).2) 1099511627776).2) 4).2)).1.1.2) ((rdS ((rdS ((rdN ((rdN ((rdN d 1099511627776).2) 1099511627776).2) 4).2)).2)).1.1.1) ((rdS ((rdS ((rdN ((rdN ((rdN d 1099511627776).2) 1099511627776).2) 4).2)).2)).1.1.2) (rdWr ((rdN ((rdS ((rdS ((rdN ((rdN ((rdN d 1099511627776).2) 1099511627776).2) 4).2)).2)).2) 8).1.1).toNat (rdN ((rdS ((rdS ((rdN ((rdN ((rdN d 1099511627776).2) 1099511627776).2) 4).2)).2)).2) 8).2 []) := by simp only [rdRec, nxN, nxS, h6_0, h6_1, h6_2, h6_3, h6_4, h6_5, ↓reduceIte]
       clear h6_0 h6_1 h6_2 h6_3 h6_4 h6_5
       replace F85 := F85.mS G97
       generalize (rdN d 1099511627776).1.1 = q0 at F85 hR
       generalize (rdN ((rdN d 1099511627776).2) 1099511627776).1.1 = q1 at F85 hR
       replace F65 := F65.mS G77
       replace F65 := F65.mS G87
       replace F65 := F65.mS G97
       generalize (rdN ((rdN ((rdN d 1099511627776).2) 1099511627776).2) 4).1.1 = q2 at F65 hR
       generalize (rdS ((rdN ((rdN ((rdN d 1099511627776).2) 1099511627776).2) 4).2)).1.1.1 = q3 at F85 hR
       generalize (rdS ((rdN ((rdN ((rdN d 1099511627776).2) 1099511627776).2) 4).2)).1.1.2 = q4 at F85 hR
       generalize (rdS ((rdS ((rdN ((rdN ((rdN d 1099511627776).2) 1099511627776).2) 4).2)).2)).1.1.1 = q5 at F85 hR
       generalize (rdS ((rdS ((rdN ((rdN ((rdN d 1099511627776).2) 1099511627776).2) 4).2)).2)).1.1.2 = q6 at F85 hR
       generalize (rdN ((rdS ((rdS ((rdN ((rdN ((rdN d 1099511627776).2) 1099511627776).2) 4).2)).2)).2) 8).1.1 = q7 at F95 hR hc8 ⊢
       generalize (rdN ((rdS ((rdS ((rdN ((rdN ((rdN d 1099511627776).2) 1099511627776).2) 4).2)).2)).2) 8).2 = d6 at F94 hR
       replace Fk2 := Fk2.mS G97
       replace Fk9 := Fk9.gr (G18.trans (G25.trans (G32.trans G40)))
       replace Fk9 := Fk9.mS G47
       replace Fk9 := Fk9.mS G57
       replace Fk9 := Fk9.mS G67
       replace Fk9 := Fk9.mS G77
       replace Fk9 := Fk9.mS G87
       replace Fk9 := Fk9.mS G97
       replace Fk37 := Fk37.mS G97
       replace HG := HG.grow (G4.trans (G11.trans (G18.trans (G25.trans (G32.trans G40)))))
       replace HG := HG.nS G47
       replace HG := HG.nS G57
       replace HG := HG.nS G67
       replace HG := HG.nS G77
       replace HG := HG.nS G87
       replace HG := HG.nS G97
       refine V.loopM (fun m e v105 => Fr [k] w v105 ∧ w96.heap.size ≤ v105.heap.size ∧ Cells v105 k1 [.pointer (some ⟨k, 0, none⟩)] 102 ∧ Cells v105 k8 [.int .i64 0, .int .i64 0, .int .i64 0, .int .i64 0, .int .i64 0, .int .i64 0, .int .i64 0, .slice none 0 0] 46 ∧ Cells v105 k36 [.func (.func 151) #[] #[.pointer (some ⟨k1, 0, none⟩), .pointer (some ⟨k15, 0, none⟩)], .func (.func 152) #[] #[.pointer (some ⟨k1, 0, none⟩), .pointer (some ⟨k15, 0, none⟩)], .func (.func 153) #[] #[.pointer (some ⟨k1, 0, none⟩), .pointer (some ⟨k22, 0, none⟩)], .func (.func 154) #[] #[.pointer (some ⟨k1, 0, none⟩), .pointer (some ⟨k15, 0, none⟩)], .func (.func 155) #[] #[.pointer (some ⟨k1, 0, none⟩), .pointer (some ⟨k15, 0, none⟩)], .func (.func 156) #[] #[.pointer (some ⟨k1, 0, none⟩), .pointer (some ⟨k29, 0, none⟩)]] 123 ∧ Cells v105 k22 [.int .i64 q2] 3 ∧ Cells v105 k29 [.int .i64 q7] 3 ∧ ∃ (i : Nat) (cur : List UInt8) (acc : List (ByteArray × Int)) (ra9 : Option Addr) (rc9 : Nat), m = (q7).toNat - i ∧ i ≤ (q7).toNat ∧ rdWr ((q7).toNat - i) cur acc = rdWr (q7).toNat d6 [] ∧ acc.length ≤ i ∧ keysOk acc ∧ Cells v105 k15 [.int .i64 q0, .int .i64 q1, .int .i64 0, .int .i64 q3, .int .i64 q4, .int .i64 q5, .int .i64 q6, .slice ra9 acc.length rc9] 46 ∧ V.Row V.Cod.write 78 v105 V.None' w96.heap.size v105.heap.size ra9 rc9 acc ∧ Rd v105 k (fun j => D j ∧ j < w.heap.size) cur ∧ e 1 = .pointer (some ⟨k1, 0, none⟩) ∧ e 2 = .pointer (some ⟨k8, 0, none⟩) ∧ e 4 = .pointer (some ⟨k15, 0, none⟩) ∧ e 5 = .pointer (some ⟨k22, 0, none⟩) ∧ e 30 = .int .i64 q7 ∧ e 31 = .int .i64 (i : Int)) ?_ ?_
       ·
        exact ⟨_, HG, (by omega), Fk2, Fk9, Fk37, F65, F95, (0), (d6), ([]), _, _, rfl, (by omega), (by rw [Nat.sub_zero]), (Nat.le_refl 0), (keysOk.nil), F85, V.Row.nil, F94, rfl, rfl, rfl, rfl, rfl, rfl⟩
       try clear F85
       clear HG Fk2 Fk9 Fk37 F65 F95 F94
       rintro _ e v105 ⟨HG, z106, Fk2, Fk9, Fk37, F65, F95, i, cur, acc, ra9, rc9, rfl, hi, hinv, hal, hko, rFk9, rF9, F94, he1_1, he1_2, he1_4, he1_5, he1_30, he1_31⟩
       refine V.knownC (t := 1) he1_1 ?_
       refine V.knownC (t := 2) he1_2 ?_
       refine V.knownC (t := 4) he1_4 ?_
       refine V.knownC (t := 5) he1_5 ?_
       refine V.knownC (t := 30) he1_30 ?_
       refine V.knownC (t := 31) he1_31 ?_
       refine V.sr ?_
       refine V.ru 1 ?_
       refine V.nt ?_
       refine V.seq ?_
       refine V.condT rfl (fun h10 => ?_) (fun h10 => ?_)
       ·
        try replace h10 := V.dec h10
        try simp only [V.mk] at h10
        refine V.skip ?_
        refine V.tN ?_
        refine V.seq ?_
        refine V.block ?_
        refine V.sr ?_
        refine V.loadO T_ok Fk2 rfl rfl rfl rfl rfl ?_
        refine V.call (rd_text (most := 8) F94) rfl rfl rfl ?_
        rintro _ w108 ⟨rfl, F107, G109⟩
        have z110 := V.Fr.size G109
        refine V.ru 5 ?_
        refine V.nt ?_
        refine V.sr ?_
        replace Fk2 := Fk2.ma G109
        refine V.loadO T_ok Fk2 rfl rfl rfl rfl rfl ?_
        refine V.call (rd_number (most := 1099511627776) F107) rfl rfl rfl ?_
        rintro _ w112 ⟨rfl, F111, G113⟩
        have z114 := V.Fr.size G113
        refine V.ru 5 ?_
        refine V.nt ?_
        refine V.seq ?_
        refine V.sr ?_
        refine V.ru 3 ?_
        refine V.orG T_ok 2 2 45 rfl rfl rfl rfl rfl rfl rfl rfl ?_
        refine V.nt ?_
        refine V.condT rfl (fun h13 => ?_) (fun h13 => ?_)
        ·
         try replace h13 := V.dec h13
         try simp only [V.mk] at h13
         refine V.sr ?_
         refine V.mkStruct T_ok zero46 rfl rfl rfl rfl rfl ?_
         replace Fk9 := Fk9.ma G109
         replace Fk9 := Fk9.ma G113
         refine V.storeO Fk9 rfl rfl rfl rfl sz46 rfl rfl rfl rfl ?_
         rintro w115 G116 z118 Fs117
         clear Fk9
         have z119 := V.Fr.size G116
         have Fk9 := Fs117; clear Fs117
         simp only [V.spliceL, V.cellsL] at Fk9
         refine V.ru 1 ?_
         refine V.nt ?_
         refine V.ret ?_
         refine V.tR ?_
         refine V.bR ?_
         refine V.tR ?_
         refine V.tR ?_
         refine V.bR ?_
         refine V.tR ?_
         refine V.done2 rfl (V.resV_cell T_ok Fk9 rfl rfl) (V.resV_tmp rfl) ?_
         rw [show rdRec d = (none, (rdN ((rdT cur (8 : Int)).2) (1099511627776 : Int)).2) by rw [hR, ← hinv, show (q7).toNat - i = ((q7).toNat - (i + 1)) + 1 by omega]; simp only [rdWr]; rw [if_neg (by omega)]; rfl]
         dsimp only
         replace F111 := F111.ma G116
         replace HG := HG.n1 G109
         replace HG := HG.n1 G113
         replace HG := HG.n1 G116
         exact ⟨none, 0, (by first | rfl | simp only [List.length_set]), (Sl.nil _ _ _ _ _ (Nat.zero_le _)), (F111.mono (fun _ h => h.1) hnk), HG⟩
        ·
         try replace h13 := V.dec h13
         try simp only [V.mk] at h13
         refine V.skip ?_
         refine V.tN ?_
         refine V.region ?_
         refine V.ru 1 ?_
         replace rFk9 := rFk9.ma G109
         replace rFk9 := rFk9.ma G113
         refine V.loadO T_ok rFk9 rfl rfl rfl rfl rfl ?_
         refine V.ru 2 ?_
         refine V.mkStruct T_ok zero78 rfl rfl rfl rfl rfl ?_
         refine V.mkSlice T_ok zero78 rfl rfl sz78 rfl rfl rfl rfl rfl rfl ?_
         rintro k120 w123 s125 s126 G124 Fk121
         have z127 := V.Fr.size G124
         have F122 := V.rowOfC (xs := ([(S (rdT cur (8 : Int)).1.1, (rdN ((rdT cur (8 : Int)).2) (1099511627776 : Int)).1.1)] : List (ByteArray × Int))) Fk121 (C := V.Cod.write) (V.reps_cons (x := (S (rdT cur (8 : Int)).1.1, (rdN ((rdT cur (8 : Int)).2) (1099511627776 : Int)).1.1)) ⟨_, _, rfl, rfl, rfl⟩ rfl rfl) rfl
         clear Fk121
         replace rF9 := rF9.ma G109
         replace rF9 := rF9.ma G113
         replace rF9 := rF9.gr G124
         refine V.appendR (rF9) (V.From.flat V.flat_write (D' := V.None') (F122.sl.from Tryz.underlying39)) elT39_39 rfl rfl rfl rfl rfl V.lenA (by unfold maxLen; first | omega | (simp only [List.length_take, List.length_drop, List.length_append, List.length_cons, List.length_nil, List.length_replicate, List.length_set, V.length_data, V.S_size]; omega)) (by omega) (by omega) (fun _ h => h.elim) (fun _ h => h.elim) ?_
         rintro a128 c129 w131 G132 s133 F130
         clear rF9
         clear F122
         have z134 := Go.RowKit.Below.size G132
         refine V.ru 1 ?_
         replace rFk9 := rFk9.gr G124
         replace rFk9 := V.Cells.bl rFk9 G132 (by first | assumption | omega)
         refine V.storeO rFk9 rfl rfl rfl rfl sz39 rfl rfl rfl rfl ?_
         rintro w135 G136 z138 Fs137
         clear rFk9
         have z139 := V.Fr.size G136
         have rFk9 := Fs137; clear Fs137
         simp only [V.spliceL, V.cellsL] at rFk9
         refine V.nil ?_
         refine V.bN ?_
         refine V.tN ?_
         refine V.region ?_
         refine V.addN rfl rfl rfl rfl rfl V.lenA V.lenA ?_
         refine V.ru 1 ?_
         refine V.nt ?_
         replace Fk2 := Fk2.ma G113
         replace Fk2 := Fk2.gr G124
         replace Fk2 := V.Cells.bl Fk2 G132 (by first | assumption | omega)
         replace Fk2 := Fk2.ma G136
         replace Fk9 := Fk9.ma G109
         replace Fk9 := Fk9.ma G113
         replace Fk9 := Fk9.gr G124
         replace Fk9 := V.Cells.bl Fk9 G132 (by first | assumption | omega)
         replace Fk9 := Fk9.ma G136
         replace Fk37 := Fk37.ma G109
         replace Fk37 := Fk37.ma G113
         replace Fk37 := Fk37.gr G124
         replace Fk37 := V.Cells.bl Fk37 G132 (by first | assumption | omega)
         replace Fk37 := Fk37.ma G136
         replace F65 := F65.ma G109
         replace F65 := F65.ma G113
         replace F65 := F65.gr G124
         replace F65 := V.Cells.bl F65 G132 (by first | assumption | omega)
         replace F65 := F65.ma G136
         replace F95 := F95.ma G109
         replace F95 := F95.ma G113
         replace F95 := F95.gr G124
         replace F95 := V.Cells.bl F95 G132 (by first | assumption | omega)
         replace F95 := F95.ma G136
         replace F111 := F111.gr G124
         replace F111 := F111.bl G132 (by first | exact ⟨by omega, fun j h => by have := h.2; omega⟩ | (first | omega | exact fun h => h | exact ⟨by omega, fun h => h⟩ | (intro h; first | (have := hD _ h; omega)) | (refine ⟨by omega, ?_⟩; intro h; first | (have := hD _ h; omega))))
         replace F111 := F111.ma G136
         replace F130 := F130.ma G136
         replace HG := HG.n1 G109
         replace HG := HG.n1 G113
         replace HG := HG.grow G124
         replace HG := HG.bl (Go.RowKit.Below.mono G132 (by first | assumption | omega))
         replace HG := HG.n1 G136
         exact ⟨_, (by omega), HG, (by omega), Fk2, Fk9, Fk37, F65, F95, (i + 1), ((rdN ((rdT cur (8 : Int)).2) (1099511627776 : Int)).2), (acc ++ ([(S (rdT cur (8 : Int)).1.1, (rdN ((rdT cur (8 : Int)).2) (1099511627776 : Int)).1.1)] : List (ByteArray × Int))), _, _, rfl, (by omega), (by rw [← hinv, show (q7).toNat - i = ((q7).toNat - (i + 1)) + 1 by omega]; simp only [rdWr]; rw [if_pos h13]), (by rw [List.length_append]; simp; omega), (keysOk.snoc hko (by have := rdT_len8 h13.1; rw [V.S_size]; omega)), rFk9, F130.re, F111, rfl, rfl, rfl, rfl, rfl, rfl⟩
       ·
        try replace h10 := V.dec h10
        try simp only [V.mk] at h10
        refine V.exit ?_
        refine V.tX ?_
        refine V.tX ?_
        refine V.bE ?_
        refine V.tN ?_
        refine V.seq ?_
        refine V.sr ?_
        refine V.loadO T_ok F65 rfl rfl rfl rfl rfl ?_
        refine V.ru 1 ?_
        refine V.storeO rFk9 rfl rfl rfl rfl sz44 rfl rfl rfl rfl ?_
        rintro w140 G141 z143 Fs142
        clear rFk9
        have z144 := V.Fr.size G141
        have rFk9 := Fs142; clear Fs142
        simp only [V.spliceL, V.cellsL] at rFk9
        refine V.nt ?_
        refine V.sr ?_
        refine V.loadO T_ok rFk9 rfl rfl rfl rfl rfl ?_
        replace rF9 := rF9.ma G141
        refine V.call (recR_spec (d := (⟨q0, q1, q2, q3, q4, q5, q6, acc⟩ : RecV)) rF9.sl (fun k hk => by have := hk.2; omega) (by first | assumption | (unfold keysOk; decide))) rfl rfl rfl ?_
        rintro _ w145 ⟨rfl, G146⟩
        have z147 := V.Fr.size G146
        refine V.ru 1 ?_
        refine V.nt ?_
        refine V.condT rfl (fun h18 => ?_) (fun h18 => ?_)
        ·
         try replace h18 := V.dec h18
         try simp only [V.mk] at h18
         refine V.sr ?_
         refine V.mkStruct T_ok zero46 rfl rfl rfl rfl rfl ?_
         replace Fk9 := Fk9.ma G141
         replace Fk9 := Fk9.gr G146
         refine V.storeO Fk9 rfl rfl rfl rfl sz46 rfl rfl rfl rfl ?_
         rintro w148 G149 z151 Fs150
         clear Fk9
         have z152 := V.Fr.size G149
         have Fk9 := Fs150; clear Fs150
         simp only [V.spliceL, V.cellsL] at Fk9
         refine V.ru 1 ?_
         refine V.nt ?_
         refine V.ret ?_
         refine V.tR ?_
         refine V.done2 rfl (V.resV_cell T_ok Fk9 rfl rfl) (V.resV_tmp rfl) ?_
         rw [show rdRec d = (none, cur) by rw [hR, ← hinv, show (q7).toNat - i = 0 by omega]; simp only [rdWr, rdFin]; rw [if_neg (by simp only [h18]; decide)]]
         dsimp only
         replace F94 := F94.ma G141
         replace F94 := F94.gr G146
         replace F94 := F94.ma G149
         replace HG := HG.n1 G141
         replace HG := HG.grow G146
         replace HG := HG.n1 G149
         exact ⟨none, 0, (by first | rfl | simp only [List.length_set]), (Sl.nil _ _ _ _ _ (Nat.zero_le _)), (F94.mono (fun _ h => h.1) hnk), HG⟩
        ·
         try replace h18 := V.dec h18
         try simp only [V.mk] at h18
         refine V.skip ?_
         refine V.tN ?_
         refine V.sr ?_
         replace rFk9 := rFk9.gr G146
         refine V.loadO T_ok rFk9 rfl rfl rfl rfl rfl ?_
         replace Fk9 := Fk9.ma G141
         replace Fk9 := Fk9.gr G146
         refine V.storeO Fk9 rfl rfl rfl rfl sz46 rfl rfl rfl rfl ?_
         rintro w153 G154 z156 Fs155
         clear Fk9
         have z157 := V.Fr.size G154
         have Fk9 := Fs155; clear Fs155
         simp only [V.spliceL, V.cellsL] at Fk9
         refine V.ru 1 ?_
         refine V.nt ?_
         refine V.ret ?_
         refine V.done2 rfl (V.resV_cell T_ok Fk9 rfl rfl) (V.resV_tmp rfl) ?_
         rw [show rdRec d = (some (⟨q0, q1, q2, q3, q4, q5, q6, acc⟩ : RecV), cur) by rw [hR, ← hinv, show (q7).toNat - i = 0 by omega]; simp only [rdWr, rdFin]; rw [if_pos h18]]
         dsimp only
         replace F94 := F94.ma G141
         replace F94 := F94.gr G146
         replace F94 := F94.ma G154
         replace rF9 := rF9.gr G146
         replace rF9 := rF9.ma G154
         replace HG := HG.n1 G141
         replace HG := HG.grow G146
         replace HG := HG.n1 G154
         exact ⟨ra9, rc9, (by first | rfl | simp only [List.length_set]), rF9.sl.re, (F94.mono (fun _ h => h.1) hnk), HG⟩

end Go.Proofs.YtmmgmkklakkooaaGreat
