/- Proved here: walks: what functions of this seat's program return and what they leave of memory, each as a contract. Conditions: stated at each theorem. -/
import Derived.Test.YtooiimhcfgjbgaaMrec3
namespace Go.Proofs.Ytooiimhcfgjbgaa
set_option linter.unusedVariables false
set_option linter.unusedSimpArgs false
open Go
open V (Bytes Meets Env Sl Own Gr Fr Cells S)

def recZ : RecV := ⟨0, 0, 0, 0, 0, 0, 0, []⟩
def nxN (d : List UInt8) (m : Int) (k : Int → List UInt8 → Option RecV × List UInt8) : Option RecV × List UInt8 := if (rdN d m).1.2 = 0 then k (rdN d m).1.1 (rdN d m).2 else (none, (rdN d m).2)
def nxS (d : List UInt8) (k : Int → Int → List UInt8 → Option RecV × List UInt8) : Option RecV × List UInt8 := if (rdS d).1.2 = 0 then k (rdS d).1.1.1 (rdS d).1.1.2 (rdS d).2 else (none, (rdS d).2)
def rdWr : Nat → List UInt8 → List (ByteArray × Int) → Option (List (ByteArray × Int)) × List UInt8
  | 0, d, acc => (some acc, d)
  | n + 1, d, acc => if (rdT d 8).1.2 = 0 ∧ (rdN (rdT d 8).2 1099511627776).1.2 = 0 then rdWr n (rdN (rdT d 8).2 1099511627776).2 (acc ++ [(S (rdT d 8).1.1, (rdN (rdT d 8).2 1099511627776).1.1)]) else (none, (rdN (rdT d 8).2 1099511627776).2)
def rdFin (id ep st aw al bw bl : Int) (x : Option (List (ByteArray × Int)) × List UInt8) : Option RecV × List UInt8 :=
  match x with
  | (none, d) => (none, d)
  | (some ws, d) => if recB ⟨id, ep, st, aw, al, bw, bl, ws⟩ = true then (some ⟨id, ep, st, aw, al, bw, bl, ws⟩, d) else (none, d)
def rdRec (d : List UInt8) : Option RecV × List UInt8 :=
  nxN d 1099511627776 fun id d => nxN d 1099511627776 fun ep d => nxN d 4 fun st d => nxS d fun aw al d => nxS d fun bw bl d => nxN d 8 fun n d => rdFin id ep st aw al bw bl (rdWr n.toNat d [])

set_option maxHeartbeats 900000 in
set_option maxRecDepth 10000 in
theorem get1_spec {w : World} {kB k kx : Nat} {D : Nat → Prop} {d : List UInt8} {v0 v1 v2 v3 v4 v5 v6 v7 : Value} (FB : Cells w kB [.pointer (some ⟨k, 0, none⟩)] 63) (FX : Rd w k D d) (Fx : Cells w kx [v0, v1, v2, v3, v4, v5, v6, v7] 39) (n1 : kB ≠ k) (n2 : kB ≠ kx) (n3 : kx ≠ k) (n4 : ¬ D kx)   :
    Meets Try.prog 81 [.pointer (some ⟨kB, 0, none⟩), .pointer (some ⟨kx, 0, none⟩)] w fun r w' => r = .int .i64 ((rdN d 1099511627776).1.2) ∧ Rd w' k D ((rdN d 1099511627776).2) ∧ Cells w' kx [.int .i64 ((rdN d 1099511627776).1.1), v1, v2, v3, v4, v5, v6, v7] 39 ∧ Fr [k, kx] w w' := by
 have hkl := FX.lt
 have hnk := FX.nk
 replace FX := FX.flb
 have n5 : ¬ (D kx ∧ kx < w.heap.size) := fun h => n4 h.1
 have HG := V.Fr.refl [k, kx] w
 refine V.enter (n := 10) Try.func81 rfl rfl (by decide) rfl ?_
 refine V.sr ?_
 refine V.ru 1 ?_
 refine V.nt ?_
 refine V.sr ?_
 refine V.loadO T_ok FB rfl rfl rfl rfl rfl ?_
 refine V.call (rd_number (most := 1099511627776) FX) rfl rfl rfl ?_
 rintro _ w2 ⟨rfl, F1, G3⟩
 have z4 := V.Fr.size G3
 try replace FB := FB.ma G3
 try replace FX := FX.ma G3
 try replace Fx := Fx.ma G3
 replace HG := HG.n1 G3
 refine V.ru 4 ?_
 refine V.storeO Fx rfl rfl rfl rfl sz3 rfl rfl rfl rfl ?_
 rintro w5 G6 z8 Fs7
 clear Fx
 have z9 := V.Fr.size G6
 try replace FB := FB.ma G6
 try replace F1 := F1.ma G6
 replace HG := HG.n1 G6
 have Fx := Fs7; clear Fs7
 simp only [V.spliceL, V.cellsL] at Fx
 refine V.ru 1 ?_
 refine V.nt ?_
 refine V.sr ?_
 refine V.ru 2 ?_
 refine V.nt ?_
 refine V.ret ?_
 refine V.done rfl ?_
 exact ⟨rfl, (F1.mono (fun _ h => h.1) hnk), Fx, HG⟩

set_option maxHeartbeats 900000 in
set_option maxRecDepth 10000 in
theorem get2_spec {w : World} {kB k kx : Nat} {D : Nat → Prop} {d : List UInt8} {v0 v1 v2 v3 v4 v5 v6 v7 : Value} (FB : Cells w kB [.pointer (some ⟨k, 0, none⟩)] 63) (FX : Rd w k D d) (Fx : Cells w kx [v0, v1, v2, v3, v4, v5, v6, v7] 39) (n1 : kB ≠ k) (n2 : kB ≠ kx) (n3 : kx ≠ k) (n4 : ¬ D kx)   :
    Meets Try.prog 82 [.pointer (some ⟨kB, 0, none⟩), .pointer (some ⟨kx, 0, none⟩)] w fun r w' => r = .int .i64 ((rdN d 1099511627776).1.2) ∧ Rd w' k D ((rdN d 1099511627776).2) ∧ Cells w' kx [v0, .int .i64 ((rdN d 1099511627776).1.1), v2, v3, v4, v5, v6, v7] 39 ∧ Fr [k, kx] w w' := by
 have hkl := FX.lt
 have hnk := FX.nk
 replace FX := FX.flb
 have n5 : ¬ (D kx ∧ kx < w.heap.size) := fun h => n4 h.1
 have HG := V.Fr.refl [k, kx] w
 refine V.enter (n := 10) Try.func82 rfl rfl (by decide) rfl ?_
 refine V.sr ?_
 refine V.ru 1 ?_
 refine V.nt ?_
 refine V.sr ?_
 refine V.loadO T_ok FB rfl rfl rfl rfl rfl ?_
 refine V.call (rd_number (most := 1099511627776) FX) rfl rfl rfl ?_
 rintro _ w2 ⟨rfl, F1, G3⟩
 have z4 := V.Fr.size G3
 try replace FB := FB.ma G3
 try replace FX := FX.ma G3
 try replace Fx := Fx.ma G3
 replace HG := HG.n1 G3
 refine V.ru 4 ?_
 refine V.storeO Fx rfl rfl rfl rfl sz3 rfl rfl rfl rfl ?_
 rintro w5 G6 z8 Fs7
 clear Fx
 have z9 := V.Fr.size G6
 try replace FB := FB.ma G6
 try replace F1 := F1.ma G6
 replace HG := HG.n1 G6
 have Fx := Fs7; clear Fs7
 simp only [V.spliceL, V.cellsL] at Fx
 refine V.ru 1 ?_
 refine V.nt ?_
 refine V.sr ?_
 refine V.ru 2 ?_
 refine V.nt ?_
 refine V.ret ?_
 refine V.done rfl ?_
 exact ⟨rfl, (F1.mono (fun _ h => h.1) hnk), Fx, HG⟩

set_option maxHeartbeats 900000 in
set_option maxRecDepth 10000 in
theorem get3_spec {w : World} {kB k kx : Nat} {D : Nat → Prop} {d : List UInt8} {v0 : Value} (FB : Cells w kB [.pointer (some ⟨k, 0, none⟩)] 63) (FX : Rd w k D d) (Fx : Cells w kx [v0] 3) (n1 : kB ≠ k) (n2 : kB ≠ kx) (n3 : kx ≠ k) (n4 : ¬ D kx)   :
    Meets Try.prog 83 [.pointer (some ⟨kB, 0, none⟩), .pointer (some ⟨kx, 0, none⟩)] w fun r w' => r = .int .i64 ((rdN d 4).1.2) ∧ Rd w' k D ((rdN d 4).2) ∧ Cells w' kx [.int .i64 ((rdN d 4).1.1)] 3 ∧ Fr [k, kx] w w' := by
 have hkl := FX.lt
 have hnk := FX.nk
 replace FX := FX.flb
 have n5 : ¬ (D kx ∧ kx < w.heap.size) := fun h => n4 h.1
 have HG := V.Fr.refl [k, kx] w
 refine V.enter (n := 9) Try.func83 rfl rfl (by decide) rfl ?_
 refine V.sr ?_
 refine V.ru 1 ?_
 refine V.nt ?_
 refine V.sr ?_
 refine V.loadO T_ok FB rfl rfl rfl rfl rfl ?_
 refine V.call (rd_number (most := 4) FX) rfl rfl rfl ?_
 rintro _ w2 ⟨rfl, F1, G3⟩
 have z4 := V.Fr.size G3
 try replace FB := FB.ma G3
 try replace FX := FX.ma G3
 try replace Fx := Fx.ma G3
 replace HG := HG.n1 G3
 refine V.ru 3 ?_
 refine V.storeO Fx rfl rfl rfl rfl sz3 rfl rfl rfl rfl ?_
 rintro w5 G6 z8 Fs7
 clear Fx
 have z9 := V.Fr.size G6
 try replace FB := FB.ma G6
 try replace F1 := F1.ma G6
 replace HG := HG.n1 G6
 have Fx := Fs7; clear Fs7
 simp only [V.spliceL, V.cellsL] at Fx
 refine V.ru 1 ?_
 refine V.nt ?_
 refine V.sr ?_
 refine V.ru 2 ?_
 refine V.nt ?_
 refine V.ret ?_
 refine V.done rfl ?_
 exact ⟨rfl, (F1.mono (fun _ h => h.1) hnk), Fx, HG⟩

set_option maxHeartbeats 900000 in
set_option maxRecDepth 10000 in
theorem get4_spec {w : World} {kB k kx : Nat} {D : Nat → Prop} {d : List UInt8} {v0 v1 v2 v3 v4 v5 v6 v7 : Value} (FB : Cells w kB [.pointer (some ⟨k, 0, none⟩)] 63) (FX : Rd w k D d) (Fx : Cells w kx [v0, v1, v2, v3, v4, v5, v6, v7] 39) (n1 : kB ≠ k) (n2 : kB ≠ kx) (n3 : kx ≠ k) (n4 : ¬ D kx)   :
    Meets Try.prog 84 [.pointer (some ⟨kB, 0, none⟩), .pointer (some ⟨kx, 0, none⟩)] w fun r w' => r = .int .i64 ((rdS d).1.2) ∧ Rd w' k D ((rdS d).2) ∧ Cells w' kx [v0, v1, v2, .int .i64 ((rdS d).1.1.1), .int .i64 ((rdS d).1.1.2), v5, v6, v7] 39 ∧ Fr [k, kx] w w' := by
 have hkl := FX.lt
 have hnk := FX.nk
 replace FX := FX.flb
 have n5 : ¬ (D kx ∧ kx < w.heap.size) := fun h => n4 h.1
 have HG := V.Fr.refl [k, kx] w
 refine V.enter (n := 10) Try.func84 rfl rfl (by decide) rfl ?_
 refine V.sr ?_
 refine V.ru 1 ?_
 refine V.nt ?_
 refine V.sr ?_
 refine V.loadO T_ok FB rfl rfl rfl rfl rfl ?_
 refine V.call (sget_spec FX) rfl rfl rfl ?_
 rintro _ w2 ⟨rfl, F1, G3⟩
 have z4 := V.Fr.size G3
 try replace FB := FB.ma G3
 try replace FX := FX.ma G3
 try replace Fx := Fx.ma G3
 replace HG := HG.n1 G3
 refine V.ru 4 ?_
 refine V.storeO Fx rfl rfl rfl rfl sz26 rfl rfl rfl rfl ?_
 rintro w5 G6 z8 Fs7
 clear Fx
 have z9 := V.Fr.size G6
 try replace FB := FB.ma G6
 try replace F1 := F1.ma G6
 replace HG := HG.n1 G6
 have Fx := Fs7; clear Fs7
 simp only [V.spliceL, V.cellsL] at Fx
 refine V.ru 1 ?_
 refine V.nt ?_
 refine V.sr ?_
 refine V.ru 2 ?_
 refine V.nt ?_
 refine V.ret ?_
 refine V.done rfl ?_
 exact ⟨rfl, (F1.mono (fun _ h => h.1) hnk), Fx, HG⟩

set_option maxHeartbeats 900000 in
set_option maxRecDepth 10000 in
theorem get5_spec {w : World} {kB k kx : Nat} {D : Nat → Prop} {d : List UInt8} {v0 v1 v2 v3 v4 v5 v6 v7 : Value} (FB : Cells w kB [.pointer (some ⟨k, 0, none⟩)] 63) (FX : Rd w k D d) (Fx : Cells w kx [v0, v1, v2, v3, v4, v5, v6, v7] 39) (n1 : kB ≠ k) (n2 : kB ≠ kx) (n3 : kx ≠ k) (n4 : ¬ D kx)   :
    Meets Try.prog 85 [.pointer (some ⟨kB, 0, none⟩), .pointer (some ⟨kx, 0, none⟩)] w fun r w' => r = .int .i64 ((rdS d).1.2) ∧ Rd w' k D ((rdS d).2) ∧ Cells w' kx [v0, v1, v2, v3, v4, .int .i64 ((rdS d).1.1.1), .int .i64 ((rdS d).1.1.2), v7] 39 ∧ Fr [k, kx] w w' := by
 have hkl := FX.lt
 have hnk := FX.nk
 replace FX := FX.flb
 have n5 : ¬ (D kx ∧ kx < w.heap.size) := fun h => n4 h.1
 have HG := V.Fr.refl [k, kx] w
 refine V.enter (n := 10) Try.func85 rfl rfl (by decide) rfl ?_
 refine V.sr ?_
 refine V.ru 1 ?_
 refine V.nt ?_
 refine V.sr ?_
 refine V.loadO T_ok FB rfl rfl rfl rfl rfl ?_
 refine V.call (sget_spec FX) rfl rfl rfl ?_
 rintro _ w2 ⟨rfl, F1, G3⟩
 have z4 := V.Fr.size G3
 try replace FB := FB.ma G3
 try replace FX := FX.ma G3
 try replace Fx := Fx.ma G3
 replace HG := HG.n1 G3
 refine V.ru 4 ?_
 refine V.storeO Fx rfl rfl rfl rfl sz26 rfl rfl rfl rfl ?_
 rintro w5 G6 z8 Fs7
 clear Fx
 have z9 := V.Fr.size G6
 try replace FB := FB.ma G6
 try replace F1 := F1.ma G6
 replace HG := HG.n1 G6
 have Fx := Fs7; clear Fs7
 simp only [V.spliceL, V.cellsL] at Fx
 refine V.ru 1 ?_
 refine V.nt ?_
 refine V.sr ?_
 refine V.ru 2 ?_
 refine V.nt ?_
 refine V.ret ?_
 refine V.done rfl ?_
 exact ⟨rfl, (F1.mono (fun _ h => h.1) hnk), Fx, HG⟩

set_option maxHeartbeats 900000 in
set_option maxRecDepth 10000 in
theorem get6_spec {w : World} {kB k kx : Nat} {D : Nat → Prop} {d : List UInt8} {v0 : Value} (FB : Cells w kB [.pointer (some ⟨k, 0, none⟩)] 63) (FX : Rd w k D d) (Fx : Cells w kx [v0] 3) (n1 : kB ≠ k) (n2 : kB ≠ kx) (n3 : kx ≠ k) (n4 : ¬ D kx)   :
    Meets Try.prog 86 [.pointer (some ⟨kB, 0, none⟩), .pointer (some ⟨kx, 0, none⟩)] w fun r w' => r = .int .i64 ((rdN d 8).1.2) ∧ Rd w' k D ((rdN d 8).2) ∧ Cells w' kx [.int .i64 ((rdN d 8).1.1)] 3 ∧ Fr [k, kx] w w' := by
 have hkl := FX.lt
 have hnk := FX.nk
 replace FX := FX.flb
 have n5 : ¬ (D kx ∧ kx < w.heap.size) := fun h => n4 h.1
 have HG := V.Fr.refl [k, kx] w
 refine V.enter (n := 9) Try.func86 rfl rfl (by decide) rfl ?_
 refine V.sr ?_
 refine V.ru 1 ?_
 refine V.nt ?_
 refine V.sr ?_
 refine V.loadO T_ok FB rfl rfl rfl rfl rfl ?_
 refine V.call (rd_number (most := 8) FX) rfl rfl rfl ?_
 rintro _ w2 ⟨rfl, F1, G3⟩
 have z4 := V.Fr.size G3
 try replace FB := FB.ma G3
 try replace FX := FX.ma G3
 try replace Fx := Fx.ma G3
 replace HG := HG.n1 G3
 refine V.ru 3 ?_
 refine V.storeO Fx rfl rfl rfl rfl sz3 rfl rfl rfl rfl ?_
 rintro w5 G6 z8 Fs7
 clear Fx
 have z9 := V.Fr.size G6
 try replace FB := FB.ma G6
 try replace F1 := F1.ma G6
 replace HG := HG.n1 G6
 have Fx := Fs7; clear Fs7
 simp only [V.spliceL, V.cellsL] at Fx
 refine V.ru 1 ?_
 refine V.nt ?_
 refine V.sr ?_
 refine V.ru 2 ?_
 refine V.nt ?_
 refine V.ret ?_
 refine V.done rfl ?_
 exact ⟨rfl, (F1.mono (fun _ h => h.1) hnk), Fx, HG⟩


theorem rdN_rng {d : List UInt8} {m : Int} (h : (rdN d m).1.2 = 0) : 0 ≤ (rdN d m).1.1 ∧ (rdN d m).1.1 ≤ m := by
  obtain ⟨v, r, _, _, h2, h3⟩ := rdN_ok h
  rw [h3]; exact ⟨Int.natCast_nonneg v, h2⟩
theorem rdT_len8 {d : List UInt8} (h : (rdT d 8).1.2 = 0) : (rdT d 8).1.1.length ≤ 8 := by
  obtain ⟨s, r, _, _, h2, h3⟩ := rdT_ok h
  rw [h3]; simp only; omega
theorem keysOk.snoc {ws : List (ByteArray × Int)} {x : ByteArray × Int} (h : keysOk ws) (hx : x.1.size ≤ 9223372036854775807) : keysOk (ws ++ [x]) := by
  intro y hy
  rcases List.mem_append.1 hy with h1 | h1
  · exact h y h1
  · rw [List.mem_singleton.1 h1]; exact hx

set_option maxHeartbeats 900000 in
set_option maxRecDepth 10000 in
theorem get_spec {w : World} {k : Nat} {D : Nat → Prop} {d : List UInt8} (FX : Rd w k D d)   :
    Meets Try.prog 59 [.pointer (some ⟨k, 0, none⟩)] w fun r w' => ∃ (ra30 : Option Addr) (rc30 : Nat), r = .tuple #[.agg #[.int .i64 (((rdRec d).1.getD recZ).id), .int .i64 (((rdRec d).1.getD recZ).ep), .int .i64 (((rdRec d).1.getD recZ).st), .int .i64 (((rdRec d).1.getD recZ).aw), .int .i64 (((rdRec d).1.getD recZ).al), .int .i64 (((rdRec d).1.getD recZ).bw), .int .i64 (((rdRec d).1.getD recZ).bl), .slice ra30 (((rdRec d).1.getD recZ).ws).length rc30], .int .i64 (if (rdRec d).1.isSome = true then 0 else 11)] ∧ Sl V.Cod.write w' (V.In w.heap.size w'.heap.size) ra30 rc30 (((rdRec d).1.getD recZ).ws) ∧ Rd w' k D ((rdRec d).2) ∧ Fr [k] w w' := by
 have hkl := FX.lt
 have hnk := FX.nk
 replace FX := FX.flb
 have HG := V.Fr.refl [k] w
 refine V.enter (n := 66) Try.func59 rfl rfl (by decide) rfl ?_
 refine V.sr ?_
 refine V.box rfl rfl rfl rfl ?_
 rintro k1 w3 s5 s6 G4 Fk2
 have z7 := V.Fr.size G4
 try replace FX := FX.gr G4
 replace HG := HG.grow G4
 try simp only [V.cellsL, V.spliceL] at Fk2
 refine V.alloc zero39 rfl rfl rfl ?_
 rintro k8 w10 s12 s13 G11 Fk9
 have z14 := V.Fr.size G11
 try replace FX := FX.gr G11
 try replace Fk2 := Fk2.gr G11
 replace HG := HG.grow G11
 try simp only [V.cellsL, V.spliceL] at Fk9
 refine V.ru 1 ?_
 refine V.nt ?_
 refine V.sr ?_
 refine V.alloc zero39 rfl rfl rfl ?_
 rintro k15 w17 s19 s20 G18 Fk16
 have z21 := V.Fr.size G18
 try replace FX := FX.gr G18
 try replace Fk2 := Fk2.gr G18
 try replace Fk9 := Fk9.gr G18
 replace HG := HG.grow G18
 try simp only [V.cellsL, V.spliceL] at Fk16
 refine V.nt ?_
 refine V.sr ?_
 refine V.alloc zero3 rfl rfl rfl ?_
 rintro k22 w24 s26 s27 G25 Fk23
 have z28 := V.Fr.size G25
 try replace FX := FX.gr G25
 try replace Fk2 := Fk2.gr G25
 try replace Fk9 := Fk9.gr G25
 try replace Fk16 := Fk16.gr G25
 replace HG := HG.grow G25
 try simp only [V.cellsL, V.spliceL] at Fk23
 refine V.alloc zero3 rfl rfl rfl ?_
 rintro k29 w31 s33 s34 G32 Fk30
 have z35 := V.Fr.size G32
 try replace FX := FX.gr G32
 try replace Fk2 := Fk2.gr G32
 try replace Fk9 := Fk9.gr G32
 try replace Fk16 := Fk16.gr G32
 try replace Fk23 := Fk23.gr G32
 replace HG := HG.grow G32
 try simp only [V.cellsL, V.spliceL] at Fk30
 refine V.nt ?_
 refine V.seq ?_
 refine V.sr ?_
 refine V.ru 6 ?_
 refine V.mkSlice T_ok zero84 rfl rfl sz84 rfl rfl rfl rfl rfl rfl ?_
 rintro k36 w39 s41 s42 G40 Fk37
 have z43 := V.Fr.size G40
 try replace FX := FX.gr G40
 try replace Fk2 := Fk2.gr G40
 try replace Fk9 := Fk9.gr G40
 try replace Fk16 := Fk16.gr G40
 try replace Fk23 := Fk23.gr G40
 try replace Fk30 := Fk30.gr G40
 replace HG := HG.grow G40
 refine V.ru 2 ?_
 refine V.nt ?_
 refine V.block ?_
 refine V.loopR 7 ?_
 refine V.rnd ?_
 refine V.sr ?_
 refine V.ru 1 ?_
 refine V.nt ?_
 refine V.seq ?_
 refine V.condY rfl rfl ?_
 refine V.skip ?_
 refine V.tN ?_
 refine V.seq ?_
 refine V.block ?_
 refine V.sr ?_
 refine V.step rfl rfl (V.elem_run T_ok rfl rfl sz84 rfl rfl (by decide) (by decide) _) ?_
 refine V.loadO T_ok Fk37 rfl rfl rfl rfl rfl ?_
 refine V.ru 1 ?_
 refine V.nt ?_
 refine V.sr ?_
 refine V.ru 1 ?_
 refine V.call (get1_spec (FB := Fk2) (FX := FX) (Fx := Fk16) (n1 := by omega) (n2 := by omega) (n3 := by omega) (n4 := fun h => by have := h.2; omega)) rfl rfl rfl ?_
 rintro _ w46 ⟨rfl, F44, F45, G47⟩
 obtain ⟨w48, G49, G50⟩ := V.Fr.two G47
 have z51 := V.Fr.size G49
 try replace FX := FX.ma G49
 try replace Fk2 := Fk2.ma G49
 try replace Fk9 := Fk9.ma G49
 try replace Fk16 := Fk16.ma G49
 try replace Fk23 := Fk23.ma G49
 try replace Fk30 := Fk30.ma G49
 try replace Fk37 := Fk37.ma G49
 replace HG := HG.n1 G49
 have z52 := V.Fr.size G50
 try replace FX := FX.ma G50
 try replace Fk2 := Fk2.ma G50
 try replace Fk9 := Fk9.ma G50
 try replace Fk16 := Fk16.ma G50
 try replace Fk23 := Fk23.ma G50
 try replace Fk30 := Fk30.ma G50
 try replace Fk37 := Fk37.ma G50
 replace HG := HG.n1 G50
 refine V.ru 1 ?_
 refine V.nt ?_
 refine V.condT rfl (fun h6_0 => ?_) (fun h6_0 => ?_)
 ·
  try replace h6_0 := V.dec h6_0
  try simp only [V.mk] at h6_0
  refine V.sr ?_
  refine V.mkStruct T_ok zero39 rfl rfl rfl rfl rfl ?_
  refine V.storeO Fk9 rfl rfl rfl rfl sz39 rfl rfl rfl rfl ?_
  rintro w53 G54 z56 Fs55
  clear Fk9
  have z57 := V.Fr.size G54
  try replace Fk2 := Fk2.ma G54
  try replace Fk23 := Fk23.ma G54
  try replace Fk30 := Fk30.ma G54
  try replace Fk37 := Fk37.ma G54
  try replace F44 := F44.ma G54
  try replace F45 := F45.ma G54
  replace HG := HG.n1 G54
  have Fk9 := Fs55; clear Fs55
  simp only [V.spliceL, V.cellsL] at Fk9
  refine V.ru 1 ?_
  refine V.nt ?_
  refine V.ret ?_
  refine V.bR ?_
  refine V.tR ?_
  refine V.tR ?_
  refine V.bR ?_
  refine V.tR ?_
  refine V.done2 rfl (V.resV_cell T_ok Fk9 rfl rfl) (V.resV_tmp rfl) ?_
  rw [show rdRec d = (none, (rdN d 1099511627776).2) by simp only [rdRec, nxN, nxS, h6_0, ↓reduceIte]]
  dsimp only
  exact ⟨none, 0, (by first | rfl | simp only [List.length_set]), (Sl.nil _ _ _ _ _ (Nat.zero_le _)), (F44.mono (fun _ h => h.1) hnk), HG⟩
 ·
  try replace h6_0 := V.dec h6_0
  try simp only [V.mk] at h6_0
  refine V.skip ?_
  refine V.bN ?_
  refine V.tN ?_
  refine V.region ?_
  refine V.addN rfl rfl rfl rfl rfl V.lenA V.lenA ?_
  refine V.ru 1 ?_
  refine V.nt ?_
  refine V.rnd ?_
  refine V.sr ?_
  refine V.ru 1 ?_
  refine V.nt ?_
  refine V.seq ?_
  refine V.condY rfl rfl ?_
  refine V.skip ?_
  refine V.tN ?_
  refine V.seq ?_
  refine V.block ?_
  refine V.sr ?_
  refine V.step rfl rfl (V.elem_run T_ok rfl rfl sz84 rfl rfl (by decide) (by decide) _) ?_
  refine V.loadO T_ok Fk37 rfl rfl rfl rfl rfl ?_
  refine V.ru 1 ?_
  refine V.nt ?_
  refine V.sr ?_
  refine V.ru 1 ?_
  refine V.call (get2_spec (FB := Fk2) (FX := F44) (Fx := F45) (n1 := by omega) (n2 := by omega) (n3 := by omega) (n4 := fun h => by have := h.2; omega)) rfl rfl rfl ?_
  rintro _ w60 ⟨rfl, F58, F59, G61⟩
  obtain ⟨w62, G63, G64⟩ := V.Fr.two G61
  have z65 := V.Fr.size G63
  try replace Fk2 := Fk2.ma G63
  try replace Fk9 := Fk9.ma G63
  try replace Fk23 := Fk23.ma G63
  try replace Fk30 := Fk30.ma G63
  try replace Fk37 := Fk37.ma G63
  try replace F44 := F44.ma G63
  try replace F45 := F45.ma G63
  replace HG := HG.n1 G63
  have z66 := V.Fr.size G64
  try replace Fk2 := Fk2.ma G64
  try replace Fk9 := Fk9.ma G64
  try replace Fk23 := Fk23.ma G64
  try replace Fk30 := Fk30.ma G64
  try replace Fk37 := Fk37.ma G64
  try replace F44 := F44.ma G64
  try replace F45 := F45.ma G64
  replace HG := HG.n1 G64
  refine V.ru 1 ?_
  refine V.nt ?_
  refine V.condT rfl (fun h6_1 => ?_) (fun h6_1 => ?_)
  ·
   try replace h6_1 := V.dec h6_1
   try simp only [V.mk] at h6_1
   refine V.sr ?_
   refine V.mkStruct T_ok zero39 rfl rfl rfl rfl rfl ?_
   refine V.storeO Fk9 rfl rfl rfl rfl sz39 rfl rfl rfl rfl ?_
   rintro w67 G68 z70 Fs69
   clear Fk9
   have z71 := V.Fr.size G68
   try replace Fk2 := Fk2.ma G68
   try replace Fk23 := Fk23.ma G68
   try replace Fk30 := Fk30.ma G68
   try replace Fk37 := Fk37.ma G68
   try replace F58 := F58.ma G68
   try replace F59 := F59.ma G68
   replace HG := HG.n1 G68
   have Fk9 := Fs69; clear Fs69
   simp only [V.spliceL, V.cellsL] at Fk9
   refine V.ru 1 ?_
   refine V.nt ?_
   refine V.ret ?_
   refine V.bR ?_
   refine V.tR ?_
   refine V.tR ?_
   refine V.bR ?_
   refine V.tR ?_
   refine V.done2 rfl (V.resV_cell T_ok Fk9 rfl rfl) (V.resV_tmp rfl) ?_
   rw [show rdRec d = (none, (rdN ((rdN d 1099511627776).2) 1099511627776).2) by simp only [rdRec, nxN, nxS, h6_0, h6_1, ↓reduceIte]]
   dsimp only
   exact ⟨none, 0, (by first | rfl | simp only [List.length_set]), (Sl.nil _ _ _ _ _ (Nat.zero_le _)), (F58.mono (fun _ h => h.1) hnk), HG⟩
  ·
   try replace h6_1 := V.dec h6_1
   try simp only [V.mk] at h6_1
   refine V.skip ?_
   refine V.bN ?_
   refine V.tN ?_
   refine V.region ?_
   refine V.addN rfl rfl rfl rfl rfl V.lenA V.lenA ?_
   refine V.ru 1 ?_
   refine V.nt ?_
   refine V.rnd ?_
   refine V.sr ?_
   refine V.ru 1 ?_
   refine V.nt ?_
   refine V.seq ?_
   refine V.condY rfl rfl ?_
   refine V.skip ?_
   refine V.tN ?_
   refine V.seq ?_
   refine V.block ?_
   refine V.sr ?_
   refine V.step rfl rfl (V.elem_run T_ok rfl rfl sz84 rfl rfl (by decide) (by decide) _) ?_
   refine V.loadO T_ok Fk37 rfl rfl rfl rfl rfl ?_
   refine V.ru 1 ?_
   refine V.nt ?_
   refine V.sr ?_
   refine V.ru 1 ?_
   refine V.call (get3_spec (FB := Fk2) (FX := F58) (Fx := Fk23) (n1 := by omega) (n2 := by omega) (n3 := by omega) (n4 := fun h => by have := h.2; omega)) rfl rfl rfl ?_
   rintro _ w74 ⟨rfl, F72, F73, G75⟩
   obtain ⟨w76, G77, G78⟩ := V.Fr.two G75
   have z79 := V.Fr.size G77
   try replace Fk2 := Fk2.ma G77
   try replace Fk9 := Fk9.ma G77
   try replace Fk23 := Fk23.ma G77
   try replace Fk30 := Fk30.ma G77
   try replace Fk37 := Fk37.ma G77
   try replace F58 := F58.ma G77
   try replace F59 := F59.ma G77
   replace HG := HG.n1 G77
   have z80 := V.Fr.size G78
   try replace Fk2 := Fk2.ma G78
   try replace Fk9 := Fk9.ma G78
   try replace Fk23 := Fk23.ma G78
   try replace Fk30 := Fk30.ma G78
   try replace Fk37 := Fk37.ma G78
   try replace F58 := F58.ma G78
   try replace F59 := F59.ma G78
   replace HG := HG.n1 G78
   refine V.ru 1 ?_
   refine V.nt ?_
   refine V.condT rfl (fun h6_2 => ?_) (fun h6_2 => ?_)
   ·
    try replace h6_2 := V.dec h6_2
    try simp only [V.mk] at h6_2
    refine V.sr ?_
    refine V.mkStruct T_ok zero39 rfl rfl rfl rfl rfl ?_
    refine V.storeO Fk9 rfl rfl rfl rfl sz39 rfl rfl rfl rfl ?_
    rintro w81 G82 z84 Fs83
    clear Fk9
    have z85 := V.Fr.size G82
    try replace Fk2 := Fk2.ma G82
    try replace Fk30 := Fk30.ma G82
    try replace Fk37 := Fk37.ma G82
    try replace F59 := F59.ma G82
    try replace F72 := F72.ma G82
    try replace F73 := F73.ma G82
    replace HG := HG.n1 G82
    have Fk9 := Fs83; clear Fs83
    simp only [V.spliceL, V.cellsL] at Fk9
    refine V.ru 1 ?_
    refine V.nt ?_
    refine V.ret ?_
    refine V.bR ?_
    refine V.tR ?_
    refine V.tR ?_
    refine V.bR ?_
    refine V.tR ?_
    refine V.done2 rfl (V.resV_cell T_ok Fk9 rfl rfl) (V.resV_tmp rfl) ?_
    rw [show rdRec d = (none, (rdN ((rdN ((rdN d 1099511627776).2) 1099511627776).2) 4).2) by simp only [rdRec, nxN, nxS, h6_0, h6_1, h6_2, ↓reduceIte]]
    dsimp only
    exact ⟨none, 0, (by first | rfl | simp only [List.length_set]), (Sl.nil _ _ _ _ _ (Nat.zero_le _)), (F72.mono (fun _ h => h.1) hnk), HG⟩
   ·
    try replace h6_2 := V.dec h6_2
    try simp only [V.mk] at h6_2
    refine V.skip ?_
    refine V.bN ?_
    refine V.tN ?_
    refine V.region ?_
    refine V.addN rfl rfl rfl rfl rfl V.lenA V.lenA ?_
    refine V.ru 1 ?_
    refine V.nt ?_
    refine V.rnd ?_
    refine V.sr ?_
    refine V.ru 1 ?_
    refine V.nt ?_
    refine V.seq ?_
    refine V.condY rfl rfl ?_
    refine V.skip ?_
    refine V.tN ?_
    refine V.seq ?_
    refine V.block ?_
    refine V.sr ?_
    refine V.step rfl rfl (V.elem_run T_ok rfl rfl sz84 rfl rfl (by decide) (by decide) _) ?_
    refine V.loadO T_ok Fk37 rfl rfl rfl rfl rfl ?_
    refine V.ru 1 ?_
    refine V.nt ?_
    refine V.sr ?_
    refine V.ru 1 ?_
    refine V.call (get4_spec (FB := Fk2) (FX := F72) (Fx := F59) (n1 := by omega) (n2 := by omega) (n3 := by omega) (n4 := fun h => by have := h.2; omega)) rfl rfl rfl ?_
    rintro _ w88 ⟨rfl, F86, F87, G89⟩
    obtain ⟨w90, G91, G92⟩ := V.Fr.two G89
    have z93 := V.Fr.size G91
    try replace Fk2 := Fk2.ma G91
    try replace Fk9 := Fk9.ma G91
    try replace Fk30 := Fk30.ma G91
    try replace Fk37 := Fk37.ma G91
    try replace F59 := F59.ma G91
    try replace F72 := F72.ma G91
    try replace F73 := F73.ma G91
    replace HG := HG.n1 G91
    have z94 := V.Fr.size G92
    try replace Fk2 := Fk2.ma G92
    try replace Fk9 := Fk9.ma G92
    try replace Fk30 := Fk30.ma G92
    try replace Fk37 := Fk37.ma G92
    try replace F59 := F59.ma G92
    try replace F72 := F72.ma G92
    try replace F73 := F73.ma G92
    replace HG := HG.n1 G92
    refine V.ru 1 ?_
    refine V.nt ?_
    refine V.condT rfl (fun h6_3 => ?_) (fun h6_3 => ?_)
    ·
     try replace h6_3 := V.dec h6_3
     try simp only [V.mk] at h6_3
     refine V.sr ?_
     refine V.mkStruct T_ok zero39 rfl rfl rfl rfl rfl ?_
     refine V.storeO Fk9 rfl rfl rfl rfl sz39 rfl rfl rfl rfl ?_
     rintro w95 G96 z98 Fs97
     clear Fk9
     have z99 := V.Fr.size G96
     try replace Fk2 := Fk2.ma G96
     try replace Fk30 := Fk30.ma G96
     try replace Fk37 := Fk37.ma G96
     try replace F73 := F73.ma G96
     try replace F86 := F86.ma G96
     try replace F87 := F87.ma G96
     replace HG := HG.n1 G96
     have Fk9 := Fs97; clear Fs97
     simp only [V.spliceL, V.cellsL] at Fk9
     refine V.ru 1 ?_
     refine V.nt ?_
     refine V.ret ?_
     refine V.bR ?_
     refine V.tR ?_
     refine V.tR ?_
     refine V.bR ?_
     refine V.tR ?_
     refine V.done2 rfl (V.resV_cell T_ok Fk9 rfl rfl) (V.resV_tmp rfl) ?_
     rw [show rdRec d = (none, (rdS ((rdN ((rdN ((rdN d 1099511627776).2) 1099511627776).2) 4).2)).2) by simp only [rdRec, nxN, nxS, h6_0, h6_1, h6_2, h6_3, ↓reduceIte]]
     dsimp only
     exact ⟨none, 0, (by first | rfl | simp only [List.length_set]), (Sl.nil _ _ _ _ _ (Nat.zero_le _)), (F86.mono (fun _ h => h.1) hnk), HG⟩
    ·
     try replace h6_3 := V.dec h6_3
     try simp only [V.mk] at h6_3
     refine V.skip ?_
     refine V.bN ?_
     refine V.tN ?_
     refine V.region ?_
     refine V.addN rfl rfl rfl rfl rfl V.lenA V.lenA ?_
     refine V.ru 1 ?_
     refine V.nt ?_
     refine V.rnd ?_
     refine V.sr ?_
     refine V.ru 1 ?_
     refine V.nt ?_
     refine V.seq ?_
     refine V.condY rfl rfl ?_
     refine V.skip ?_
     refine V.tN ?_
     refine V.seq ?_
     refine V.block ?_
     refine V.sr ?_
     refine V.step rfl rfl (V.elem_run T_ok rfl rfl sz84 rfl rfl (by decide) (by decide) _) ?_
     refine V.loadO T_ok Fk37 rfl rfl rfl rfl rfl ?_
     refine V.ru 1 ?_
     refine V.nt ?_
     refine V.sr ?_
     refine V.ru 1 ?_
     refine V.call (get5_spec (FB := Fk2) (FX := F86) (Fx := F87) (n1 := by omega) (n2 := by omega) (n3 := by omega) (n4 := fun h => by have := h.2; omega)) rfl rfl rfl ?_
     rintro _ w102 ⟨rfl, F100, F101, G103⟩
     obtain ⟨w104, G105, G106⟩ := V.Fr.two G103
     have z107 := V.Fr.size G105
     try replace Fk2 := Fk2.ma G105
     try replace Fk9 := Fk9.ma G105
     try replace Fk30 := Fk30.ma G105
     try replace Fk37 := Fk37.ma G105
     try replace F73 := F73.ma G105
     try replace F86 := F86.ma G105
     try replace F87 := F87.ma G105
     replace HG := HG.n1 G105
     have z108 := V.Fr.size G106
     try replace Fk2 := Fk2.ma G106
     try replace Fk9 := Fk9.ma G106
     try replace Fk30 := Fk30.ma G106
     try replace Fk37 := Fk37.ma G106
     try replace F73 := F73.ma G106
     try replace F86 := F86.ma G106
     try replace F87 := F87.ma G106
     replace HG := HG.n1 G106
     refine V.ru 1 ?_
     refine V.nt ?_
     refine V.condT rfl (fun h6_4 => ?_) (fun h6_4 => ?_)
     ·
      try replace h6_4 := V.dec h6_4
      try simp only [V.mk] at h6_4
      refine V.sr ?_
      refine V.mkStruct T_ok zero39 rfl rfl rfl rfl rfl ?_
      refine V.storeO Fk9 rfl rfl rfl rfl sz39 rfl rfl rfl rfl ?_
      rintro w109 G110 z112 Fs111
      clear Fk9
      have z113 := V.Fr.size G110
      try replace Fk2 := Fk2.ma G110
      try replace Fk30 := Fk30.ma G110
      try replace Fk37 := Fk37.ma G110
      try replace F73 := F73.ma G110
      try replace F100 := F100.ma G110
      try replace F101 := F101.ma G110
      replace HG := HG.n1 G110
      have Fk9 := Fs111; clear Fs111
      simp only [V.spliceL, V.cellsL] at Fk9
      refine V.ru 1 ?_
      refine V.nt ?_
      refine V.ret ?_
      refine V.bR ?_
      refine V.tR ?_
      refine V.tR ?_
      refine V.bR ?_
      refine V.tR ?_
      refine V.done2 rfl (V.resV_cell T_ok Fk9 rfl rfl) (V.resV_tmp rfl) ?_
      rw [show rdRec d = (none, (rdS ((rdS ((rdN ((rdN ((rdN d 1099511627776).2) 1099511627776).2) 4).2)).2)).2) by simp only [rdRec, nxN, nxS, h6_0, h6_1, h6_2, h6_3, h6_4, ↓reduceIte]]
      dsimp only
      exact ⟨none, 0, (by first | rfl | simp only [List.length_set]), (Sl.nil _ _ _ _ _ (Nat.zero_le _)), (F100.mono (fun _ h => h.1) hnk), HG⟩
     ·
      try replace h6_4 := V.dec h6_4
      try simp only [V.mk] at h6_4
      refine V.skip ?_
      refine V.bN ?_
      refine V.tN ?_
      refine V.region ?_
      refine V.addN rfl rfl rfl rfl rfl V.lenA V.lenA ?_
      refine V.ru 1 ?_
      refine V.nt ?_
      refine V.rnd ?_
      refine V.sr ?_
      refine V.ru 1 ?_
      refine V.nt ?_
      refine V.seq ?_
      refine V.condY rfl rfl ?_
      refine V.skip ?_
      refine V.tN ?_
      refine V.seq ?_
      refine V.block ?_
      refine V.sr ?_
      refine V.step rfl rfl (V.elem_run T_ok rfl rfl sz84 rfl rfl (by decide) (by decide) _) ?_
      refine V.loadO T_ok Fk37 rfl rfl rfl rfl rfl ?_
      refine V.ru 1 ?_
      refine V.nt ?_
      refine V.sr ?_
      refine V.ru 1 ?_
      refine V.call (get6_spec (FB := Fk2) (FX := F100) (Fx := Fk30) (n1 := by omega) (n2 := by omega) (n3 := by omega) (n4 := fun h => by have := h.2; omega)) rfl rfl rfl ?_
      rintro _ w116 ⟨rfl, F114, F115, G117⟩
      obtain ⟨w118, G119, G120⟩ := V.Fr.two G117
      have z121 := V.Fr.size G119
      try replace Fk2 := Fk2.ma G119
      try replace Fk9 := Fk9.ma G119
      try replace Fk30 := Fk30.ma G119
      try replace Fk37 := Fk37.ma G119
      try replace F73 := F73.ma G119
      try replace F100 := F100.ma G119
      try replace F101 := F101.ma G119
      replace HG := HG.n1 G119
      have z122 := V.Fr.size G120
      try replace Fk2 := Fk2.ma G120
      try replace Fk9 := Fk9.ma G120
      try replace Fk30 := Fk30.ma G120
      try replace Fk37 := Fk37.ma G120
      try replace F73 := F73.ma G120
      try replace F100 := F100.ma G120
      try replace F101 := F101.ma G120
      replace HG := HG.n1 G120
      refine V.ru 1 ?_
      refine V.nt ?_
      refine V.condT rfl (fun h6_5 => ?_) (fun h6_5 => ?_)
      ·
       try replace h6_5 := V.dec h6_5
       try simp only [V.mk] at h6_5
       refine V.sr ?_
       refine V.mkStruct T_ok zero39 rfl rfl rfl rfl rfl ?_
       refine V.storeO Fk9 rfl rfl rfl rfl sz39 rfl rfl rfl rfl ?_
       rintro w123 G124 z126 Fs125
       clear Fk9
       have z127 := V.Fr.size G124
       try replace Fk2 := Fk2.ma G124
       try replace Fk37 := Fk37.ma G124
       try replace F73 := F73.ma G124
       try replace F101 := F101.ma G124
       try replace F114 := F114.ma G124
       try replace F115 := F115.ma G124
       replace HG := HG.n1 G124
       have Fk9 := Fs125; clear Fs125
       simp only [V.spliceL, V.cellsL] at Fk9
       refine V.ru 1 ?_
       refine V.nt ?_
       refine V.ret ?_
       refine V.bR ?_
       refine V.tR ?_
       refine V.tR ?_
       refine V.bR ?_
       refine V.tR ?_
       refine V.done2 rfl (V.resV_cell T_ok Fk9 rfl rfl) (V.resV_tmp rfl) ?_
       rw [show rdRec d = (none, (rdN ((rdS ((rdS ((rdN ((rdN ((rdN d 1099511627776).2) 1099511627776).2) 4).2)).2)).2) 8).2) by simp only [rdRec, nxN, nxS, h6_0, h6_1, h6_2, h6_3, h6_4, h6_5, ↓reduceIte]]
       dsimp only
       exact ⟨none, 0, (by first | rfl | simp only [List.length_set]), (Sl.nil _ _ _ _ _ (Nat.zero_le _)), (F114.mono (fun _ h => h.1) hnk), HG⟩
      ·
       try replace h6_5 := V.dec h6_5
       try simp only [V.mk] at h6_5
       refine V.skip ?_
       refine V.bN ?_
       refine V.tN ?_
       refine V.region ?_
       refine V.addN rfl rfl rfl rfl rfl V.lenA V.lenA ?_
       refine V.ru 1 ?_
       refine V.nt ?_
       refine V.rnd ?_
       refine V.sr ?_
       refine V.ru 1 ?_
       refine V.nt ?_
       refine V.seq ?_
       refine V.condN rfl rfl ?_
       refine V.exit ?_
       refine V.tX ?_
       refine V.tX ?_
       refine V.bE ?_
       refine V.tN ?_
       refine V.seq ?_
       refine V.sr ?_
       refine V.loadO T_ok F115 rfl rfl rfl rfl rfl ?_
       refine V.ru 1 ?_
       refine V.nt ?_
       refine V.block ?_
       have hc8 := rdN_rng h6_5
       have hR : rdRec d = rdFin ((rdN d 1099511627776).1.1) ((rdN ((rdN d 1099511627776).2) 1099511627776).1.1) ((rdN ((rdN ((rdN d 1099511627776).2) 1099511627776).2) 4).1.1) ((rdS ((rdN ((rdN ((rdN d 1099511627776).2) 1099511627776).2) 4).2)).1.1.1) ((rdS ((rdN ((rdN ((rdN d 1099511627776).2) 1099511627776).2) 4).2)).1.1.2) ((rdS ((rdS ((rdN ((rdN ((rdN d 1099511627776).2) 1099511627776).2) 4).2)).2)).1.1.1) ((rdS ((rdS ((rdN ((rdN ((rdN d 1099511627776).2) 1099511627776).2) 4).2)).2)).1.1.2) (rdWr ((rdN ((rdS ((rdS ((rdN ((rdN ((rdN d 1099511627776).2) 1099511627776).2) 4).2)).2)).2) 8).1.1).toNat (rdN ((rdS ((rdS ((rdN ((rdN ((rdN d 1099511627776).2) 1099511627776).2) 4).2)).2)).2) 8).2 []) := by simp only [rdRec, nxN, nxS, h6_0, h6_1, h6_2, h6_3, h6_4, h6_5, ↓reduceIte]
       clear h6_0 h6_1 h6_2 h6_3 h6_4 h6_5
       generalize (rdN d 1099511627776).1.1 = q0 at F101 hR
       generalize (rdN ((rdN d 1099511627776).2) 1099511627776).1.1 = q1 at F101 hR
       generalize (rdN ((rdN ((rdN d 1099511627776).2) 1099511627776).2) 4).1.1 = q2 at F73 hR
       generalize (rdS ((rdN ((rdN ((rdN d 1099511627776).2) 1099511627776).2) 4).2)).1.1.1 = q3 at F101 hR
       generalize (rdS ((rdN ((rdN ((rdN d 1099511627776).2) 1099511627776).2) 4).2)).1.1.2 = q4 at F101 hR
       generalize (rdS ((rdS ((rdN ((rdN ((rdN d 1099511627776).2) 1099511627776).2) 4).2)).2)).1.1.1 = q5 at F101 hR
       generalize (rdS ((rdS ((rdN ((rdN ((rdN d 1099511627776).2) 1099511627776).2) 4).2)).2)).1.1.2 = q6 at F101 hR
       generalize (rdN ((rdS ((rdS ((rdN ((rdN ((rdN d 1099511627776).2) 1099511627776).2) 4).2)).2)).2) 8).1.1 = q7 at F115 hR hc8 ⊢
       generalize (rdN ((rdS ((rdS ((rdN ((rdN ((rdN d 1099511627776).2) 1099511627776).2) 4).2)).2)).2) 8).2 = d6 at F114 hR
       refine V.loopM (fun m e v129 => Fr [k] w v129 ∧ w116.heap.size ≤ v129.heap.size ∧ Cells v129 k1 [.pointer (some ⟨k, 0, none⟩)] 63 ∧ Cells v129 k8 [.int .i64 0, .int .i64 0, .int .i64 0, .int .i64 0, .int .i64 0, .int .i64 0, .int .i64 0, .slice none 0 0] 39 ∧ Cells v129 k36 [.func (.func 81) #[] #[.pointer (some ⟨k1, 0, none⟩), .pointer (some ⟨k15, 0, none⟩)], .func (.func 82) #[] #[.pointer (some ⟨k1, 0, none⟩), .pointer (some ⟨k15, 0, none⟩)], .func (.func 83) #[] #[.pointer (some ⟨k1, 0, none⟩), .pointer (some ⟨k22, 0, none⟩)], .func (.func 84) #[] #[.pointer (some ⟨k1, 0, none⟩), .pointer (some ⟨k15, 0, none⟩)], .func (.func 85) #[] #[.pointer (some ⟨k1, 0, none⟩), .pointer (some ⟨k15, 0, none⟩)], .func (.func 86) #[] #[.pointer (some ⟨k1, 0, none⟩), .pointer (some ⟨k29, 0, none⟩)]] 84 ∧ Cells v129 k22 [.int .i64 q2] 3 ∧ Cells v129 k29 [.int .i64 q7] 3 ∧ ∃ (i : Nat) (cur : List UInt8) (acc : List (ByteArray × Int)) (ra9 : Option Addr) (rc9 : Nat), m = (q7).toNat - i ∧ i ≤ (q7).toNat ∧ rdWr ((q7).toNat - i) cur acc = rdWr (q7).toNat d6 [] ∧ acc.length ≤ i ∧ keysOk acc ∧ Cells v129 k15 [.int .i64 q0, .int .i64 q1, .int .i64 0, .int .i64 q3, .int .i64 q4, .int .i64 q5, .int .i64 q6, .slice ra9 acc.length rc9] 39 ∧ V.Row V.Cod.write 60 v129 V.None' w116.heap.size v129.heap.size ra9 rc9 acc ∧ Rd v129 k (fun j => D j ∧ j < w.heap.size) cur ∧ e 1 = .pointer (some ⟨k1, 0, none⟩) ∧ e 2 = .pointer (some ⟨k8, 0, none⟩) ∧ e 4 = .pointer (some ⟨k15, 0, none⟩) ∧ e 5 = .pointer (some ⟨k22, 0, none⟩) ∧ e 30 = .int .i64 q7 ∧ e 31 = .int .i64 (i : Int)) ?_ ?_
       ·
        exact ⟨_, HG, (by omega), Fk2, Fk9, Fk37, F73, F115, (0), (d6), ([]), _, _, rfl, (by omega), (by rw [Nat.sub_zero]), (Nat.le_refl 0), (keysOk.nil), F101, V.Row.nil, F114, rfl, rfl, rfl, rfl, rfl, rfl⟩
       try clear F101
       clear HG Fk2 Fk9 Fk37 F73 F115 F114
       rintro _ e v129 ⟨HG, z130, Fk2, Fk9, Fk37, F73, F115, i, cur, acc, ra9, rc9, rfl, hi, hinv, hal, hko, rFk9, rF9, F114, he1_1, he1_2, he1_4, he1_5, he1_30, he1_31⟩
       refine V.knownC (t := 1) he1_1 ?_
       refine V.knownC (t := 2) he1_2 ?_
       refine V.knownC (t := 4) he1_4 ?_
       refine V.knownC (t := 5) he1_5 ?_
       refine V.knownC (t := 30) he1_30 ?_
       refine V.knownC (t := 31) he1_31 ?_
       refine V.sr ?_
       refine V.ru 1 ?_
       refine V.nt ?_
       refine V.seq ?_
       refine V.condT rfl (fun h10 => ?_) (fun h10 => ?_)
       ·
        try replace h10 := V.dec h10
        try simp only [V.mk] at h10
        refine V.skip ?_
        refine V.tN ?_
        refine V.seq ?_
        refine V.block ?_
        refine V.sr ?_
        refine V.loadO T_ok Fk2 rfl rfl rfl rfl rfl ?_
        refine V.call (rd_text (most := 8) F114) rfl rfl rfl ?_
        rintro _ w132 ⟨rfl, F131, G133⟩
        have z134 := V.Fr.size G133
        try replace Fk2 := Fk2.ma G133
        try replace Fk9 := Fk9.ma G133
        try replace Fk37 := Fk37.ma G133
        try replace F73 := F73.ma G133
        try replace F114 := F114.ma G133
        try replace F115 := F115.ma G133
        try replace rFk9 := rFk9.ma G133
        try replace rF9 := rF9.ma G133
        replace HG := HG.n1 G133
        refine V.ru 5 ?_
        refine V.nt ?_
        refine V.sr ?_
        refine V.loadO T_ok Fk2 rfl rfl rfl rfl rfl ?_
        refine V.call (rd_number (most := 1099511627776) F131) rfl rfl rfl ?_
        rintro _ w136 ⟨rfl, F135, G137⟩
        have z138 := V.Fr.size G137
        try replace Fk2 := Fk2.ma G137
        try replace Fk9 := Fk9.ma G137
        try replace Fk37 := Fk37.ma G137
        try replace F73 := F73.ma G137
        try replace F115 := F115.ma G137
        try replace rFk9 := rFk9.ma G137
        try replace rF9 := rF9.ma G137
        try replace F131 := F131.ma G137
        replace HG := HG.n1 G137
        refine V.ru 5 ?_
        refine V.nt ?_
        refine V.seq ?_
        refine V.sr ?_
        refine V.ru 3 ?_
        refine V.orG T_ok 2 2 45 rfl rfl rfl rfl rfl rfl rfl rfl ?_
        refine V.nt ?_
        refine V.condT rfl (fun h13 => ?_) (fun h13 => ?_)
        ·
         try replace h13 := V.dec h13
         try simp only [V.mk] at h13
         refine V.sr ?_
         refine V.mkStruct T_ok zero39 rfl rfl rfl rfl rfl ?_
         refine V.storeO Fk9 rfl rfl rfl rfl sz39 rfl rfl rfl rfl ?_
         rintro w139 G140 z142 Fs141
         clear Fk9
         have z143 := V.Fr.size G140
         try replace Fk2 := Fk2.ma G140
         try replace Fk37 := Fk37.ma G140
         try replace F73 := F73.ma G140
         try replace F115 := F115.ma G140
         try replace rFk9 := rFk9.ma G140
         try replace rF9 := rF9.ma G140
         try replace F135 := F135.ma G140
         replace HG := HG.n1 G140
         have Fk9 := Fs141; clear Fs141
         simp only [V.spliceL, V.cellsL] at Fk9
         refine V.ru 1 ?_
         refine V.nt ?_
         refine V.ret ?_
         refine V.tR ?_
         refine V.bR ?_
         refine V.tR ?_
         refine V.tR ?_
         refine V.bR ?_
         refine V.tR ?_
         refine V.done2 rfl (V.resV_cell T_ok Fk9 rfl rfl) (V.resV_tmp rfl) ?_
         rw [show rdRec d = (none, (rdN ((rdT cur 8).2) 1099511627776).2) by rw [hR, ← hinv, show (q7).toNat - i = ((q7).toNat - (i + 1)) + 1 by omega]; simp only [rdWr]; rw [if_neg (by omega)]; rfl]
         dsimp only
         exact ⟨none, 0, (by first | rfl | simp only [List.length_set]), (Sl.nil _ _ _ _ _ (Nat.zero_le _)), (F135.mono (fun _ h => h.1) hnk), HG⟩
        ·
         try replace h13 := V.dec h13
         try simp only [V.mk] at h13
         refine V.skip ?_
         refine V.tN ?_
         refine V.region ?_
         refine V.ru 1 ?_
         refine V.loadO T_ok rFk9 rfl rfl rfl rfl rfl ?_
         refine V.ru 2 ?_
         refine V.mkStruct T_ok zero60 rfl rfl rfl rfl rfl ?_
         refine V.mkSlice T_ok zero60 rfl rfl sz60 rfl rfl rfl rfl rfl rfl ?_
         rintro k144 w147 s149 s150 G148 Fk145
         have z151 := V.Fr.size G148
         try replace Fk2 := Fk2.gr G148
         try replace Fk9 := Fk9.gr G148
         try replace Fk37 := Fk37.gr G148
         try replace F73 := F73.gr G148
         try replace F115 := F115.gr G148
         try replace rFk9 := rFk9.gr G148
         try replace rF9 := rF9.gr G148
         try replace F135 := F135.gr G148
         replace HG := HG.grow G148
         have F146 := V.rowOfC (xs := ([(S (rdT cur 8).1.1, (rdN ((rdT cur 8).2) 1099511627776).1.1)] : List (ByteArray × Int))) Fk145 (C := V.Cod.write) (V.reps_cons (x := (S (rdT cur 8).1.1, (rdN ((rdT cur 8).2) 1099511627776).1.1)) ⟨_, _, rfl, rfl, rfl⟩ rfl rfl) rfl
         clear Fk145
         refine V.appendR (rF9) (V.From.flat V.flat_write (D' := V.None') (F146.sl.from Try.underlying32)) elT32_32 rfl rfl rfl rfl rfl V.lenA (by unfold maxLen; first | omega | (simp only [List.length_take, List.length_drop, List.length_append, List.length_cons, List.length_nil, List.length_replicate, List.length_set, V.length_data, V.S_size]; omega)) (by omega) (by omega) (fun _ h => h.elim) (fun _ h => h.elim) ?_
         rintro a152 c153 w155 G156 s157 F154
         clear rF9
         clear F146
         have z158 := Go.RowKit.Below.size G156
         first | replace Fk2 := V.Cells.bl Fk2 G156 (by omega) | clear Fk2 | skip
         first | replace Fk9 := V.Cells.bl Fk9 G156 (by omega) | clear Fk9 | skip
         first | replace Fk37 := V.Cells.bl Fk37 G156 (by omega) | clear Fk37 | skip
         first | replace F73 := V.Cells.bl F73 G156 (by omega) | clear F73 | skip
         first | replace F115 := V.Cells.bl F115 G156 (by omega) | clear F115 | skip
         first | replace rFk9 := V.Cells.bl rFk9 G156 (by omega) | clear rFk9 | skip
         first | replace F135 := F135.bl G156 (by first | exact ⟨by omega, fun j h => by have := h.2; omega⟩ | (first | omega | exact fun h => h | exact ⟨by omega, fun h => h⟩ | (intro h; first | (have := hD _ h; omega)) | (refine ⟨by omega, ?_⟩; intro h; first | (have := hD _ h; omega)))) | clear F135 | skip
         replace HG := HG.bl (Go.RowKit.Below.mono G156 (by omega))
         refine V.ru 1 ?_
         refine V.storeO rFk9 rfl rfl rfl rfl sz32 rfl rfl rfl rfl ?_
         rintro w159 G160 z162 Fs161
         clear rFk9
         have z163 := V.Fr.size G160
         try replace Fk2 := Fk2.ma G160
         try replace Fk9 := Fk9.ma G160
         try replace Fk37 := Fk37.ma G160
         try replace F73 := F73.ma G160
         try replace F115 := F115.ma G160
         try replace F135 := F135.ma G160
         try replace F154 := F154.ma G160
         replace HG := HG.n1 G160
         have rFk9 := Fs161; clear Fs161
         simp only [V.spliceL, V.cellsL] at rFk9
         refine V.nil ?_
         refine V.bN ?_
         refine V.tN ?_
         refine V.region ?_
         refine V.addN rfl rfl rfl rfl rfl V.lenA V.lenA ?_
         refine V.ru 1 ?_
         refine V.nt ?_
         exact ⟨_, (by omega), HG, (by omega), Fk2, Fk9, Fk37, F73, F115, (i + 1), ((rdN ((rdT cur 8).2) 1099511627776).2), (acc ++ ([(S (rdT cur 8).1.1, (rdN ((rdT cur 8).2) 1099511627776).1.1)] : List (ByteArray × Int))), _, _, rfl, (by omega), (by rw [← hinv, show (q7).toNat - i = ((q7).toNat - (i + 1)) + 1 by omega]; simp only [rdWr]; rw [if_pos h13]), (by rw [List.length_append]; simp; omega), (keysOk.snoc hko (by have := rdT_len8 h13.1; rw [V.S_size]; omega)), rFk9, F154.re, F135, rfl, rfl, rfl, rfl, rfl, rfl⟩
       ·
        try replace h10 := V.dec h10
        try simp only [V.mk] at h10
        refine V.exit ?_
        refine V.tX ?_
        refine V.tX ?_
        refine V.bE ?_
        refine V.tN ?_
        refine V.seq ?_
        refine V.sr ?_
        refine V.loadO T_ok F73 rfl rfl rfl rfl rfl ?_
        refine V.ru 1 ?_
        refine V.storeO rFk9 rfl rfl rfl rfl sz37 rfl rfl rfl rfl ?_
        rintro w164 G165 z167 Fs166
        clear rFk9
        have z168 := V.Fr.size G165
        try replace Fk2 := Fk2.ma G165
        try replace Fk9 := Fk9.ma G165
        try replace Fk37 := Fk37.ma G165
        try replace F73 := F73.ma G165
        try replace F114 := F114.ma G165
        try replace F115 := F115.ma G165
        try replace rF9 := rF9.ma G165
        replace HG := HG.n1 G165
        have rFk9 := Fs166; clear Fs166
        simp only [V.spliceL, V.cellsL] at rFk9
        refine V.nt ?_
        refine V.sr ?_
        refine V.loadO T_ok rFk9 rfl rfl rfl rfl rfl ?_
        refine V.call (recR_spec (d := (⟨q0, q1, q2, q3, q4, q5, q6, acc⟩ : RecV)) rF9.sl (fun k hk => by have := hk.2; omega) (by first | assumption | (unfold keysOk; decide))) rfl rfl rfl ?_
        rintro _ w169 ⟨rfl, G170⟩
        have z171 := V.Fr.size G170
        try replace Fk2 := Fk2.gr G170
        try replace Fk9 := Fk9.gr G170
        try replace Fk37 := Fk37.gr G170
        try replace F73 := F73.gr G170
        try replace F114 := F114.gr G170
        try replace F115 := F115.gr G170
        try replace rF9 := rF9.gr G170
        try replace rFk9 := rFk9.gr G170
        replace HG := HG.grow G170
        refine V.ru 1 ?_
        refine V.nt ?_
        refine V.condT rfl (fun h18 => ?_) (fun h18 => ?_)
        ·
         try replace h18 := V.dec h18
         try simp only [V.mk] at h18
         refine V.sr ?_
         refine V.mkStruct T_ok zero39 rfl rfl rfl rfl rfl ?_
         refine V.storeO Fk9 rfl rfl rfl rfl sz39 rfl rfl rfl rfl ?_
         rintro w172 G173 z175 Fs174
         clear Fk9
         have z176 := V.Fr.size G173
         try replace Fk2 := Fk2.ma G173
         try replace Fk37 := Fk37.ma G173
         try replace F73 := F73.ma G173
         try replace F114 := F114.ma G173
         try replace F115 := F115.ma G173
         try replace rF9 := rF9.ma G173
         try replace rFk9 := rFk9.ma G173
         replace HG := HG.n1 G173
         have Fk9 := Fs174; clear Fs174
         simp only [V.spliceL, V.cellsL] at Fk9
         refine V.ru 1 ?_
         refine V.nt ?_
         refine V.ret ?_
         refine V.tR ?_
         refine V.done2 rfl (V.resV_cell T_ok Fk9 rfl rfl) (V.resV_tmp rfl) ?_
         rw [show rdRec d = (none, cur) by rw [hR, ← hinv, show (q7).toNat - i = 0 by omega]; simp only [rdWr, rdFin]; rw [if_neg (by simp only [h18]; decide)]]
         dsimp only
         exact ⟨none, 0, (by first | rfl | simp only [List.length_set]), (Sl.nil _ _ _ _ _ (Nat.zero_le _)), (F114.mono (fun _ h => h.1) hnk), HG⟩
        ·
         try replace h18 := V.dec h18
         try simp only [V.mk] at h18
         refine V.skip ?_
         refine V.tN ?_
         refine V.sr ?_
         refine V.loadO T_ok rFk9 rfl rfl rfl rfl rfl ?_
         refine V.storeO Fk9 rfl rfl rfl rfl sz39 rfl rfl rfl rfl ?_
         rintro w177 G178 z180 Fs179
         clear Fk9
         have z181 := V.Fr.size G178
         try replace Fk2 := Fk2.ma G178
         try replace Fk37 := Fk37.ma G178
         try replace F73 := F73.ma G178
         try replace F114 := F114.ma G178
         try replace F115 := F115.ma G178
         try replace rF9 := rF9.ma G178
         try replace rFk9 := rFk9.ma G178
         replace HG := HG.n1 G178
         have Fk9 := Fs179; clear Fs179
         simp only [V.spliceL, V.cellsL] at Fk9
         refine V.ru 1 ?_
         refine V.nt ?_
         refine V.ret ?_
         refine V.done2 rfl (V.resV_cell T_ok Fk9 rfl rfl) (V.resV_tmp rfl) ?_
         rw [show rdRec d = (some (⟨q0, q1, q2, q3, q4, q5, q6, acc⟩ : RecV), cur) by rw [hR, ← hinv, show (q7).toNat - i = 0 by omega]; simp only [rdWr, rdFin]; rw [if_pos h18]]
         dsimp only
         exact ⟨ra9, rc9, (by first | rfl | simp only [List.length_set]), rF9.sl.re, (F114.mono (fun _ h => h.1) hnk), HG⟩

end Go.Proofs.Ytooiimhcfgjbgaa
