/- Proved here: walks: what functions of this seat's program return and what they leave of memory, each as a contract. Conditions: stated at each theorem. -/
import Derived.Test.YtmmgmkklakkooaaGreatMcmd4
namespace Go.Proofs.YtmmgmkklakkooaaGreat
set_option linter.unusedVariables false
set_option linter.unusedSimpArgs false
open Go
open V (Bytes Meets Env Sl Own Gr Fr Cells S)
set_option maxHeartbeats 900000 in
set_option maxRecDepth 10000 in
theorem tk_number1 {w : World} {kB kt k : Nat} {D : Nat → Prop} {d : List UInt8} {bad : Bool} (FB : Cells w kB [.pointer (some ⟨kt, 0, none⟩)] 166) (Ft : Cells w kt [.pointer (some ⟨k, 0, none⟩), .bool bad] 168) (FX : Rd w k D d) (n1 : kB ≠ k) (n2 : kt ≠ k)   :
    Meets Tryz.prog 145 [.pointer (some ⟨kB, 0, none⟩)] w fun r w' => r = .tuple #[.int .i64 ((rdN d 1099511627776).1.1), .int .i64 ((rdN d 1099511627776).1.2)] ∧ Rd w' k D ((rdN d 1099511627776).2) ∧ Fr [k] w w' := by
 have hkl := FX.lt
 have hnk := FX.nk
 replace FX := FX.flb
 have hktl := Ft.lt
 have hkBl := FB.lt
 have HG := V.Fr.refl [k] w
 refine V.enter (n := 10) Tryz.func145 rfl rfl (by decide) rfl ?_
 refine V.sr ?_
 refine V.ru 2 ?_
 refine V.nt ?_
 refine V.sr ?_
 refine V.loadO T_ok FB rfl rfl rfl rfl rfl ?_
 refine V.ru 2 ?_
 refine V.loadO T_ok Ft rfl rfl rfl rfl rfl ?_
 refine V.call (rd_number (most := 1099511627776) FX) rfl rfl rfl ?_
 rintro _ w2 ⟨rfl, F1, G3⟩
 have z4 := V.Fr.size G3
 refine V.ru 4 ?_
 refine V.nt ?_
 refine V.ret ?_
 refine V.done rfl ?_
 replace HG := HG.n1 G3
 exact ⟨rfl, (F1.mono (fun _ h => h.1) hnk), HG⟩

set_option maxHeartbeats 900000 in
set_option maxRecDepth 10000 in
theorem take_number {w : World} {kB : Nat} {kt k kx off ty : Nat} {cs : List Value} {D : Nat → Prop} {d : List UInt8} {bad : Bool} (Ft : Cells w kt [.pointer (some ⟨k, 0, none⟩), .bool bad] 168) (FX : Rd w k D d) (Fx : Cells w kx cs ty) (hle : Nat.ble (off + 1) cs.length = true) (n1 : kt ≠ k) (n2 : kx ≠ k) (n3 : kx ≠ kt) (n4 : ¬ D kx) (n5 : ¬ D kt) (FB : Cells w kB [.pointer (some ⟨kt, 0, none⟩)] 166) (n6 : kB ≠ k)   :
    Meets Tryz.prog 144 [.pointer (some ⟨kt, 0, none⟩), .pointer (some ⟨kx, off, none⟩), .func (.func 145) #[] #[.pointer (some ⟨kB, 0, none⟩)]] w fun r w' => r = .tuple #[] ∧ Rd w' k D ((rdN d 1099511627776).2) ∧ Cells w' kt [.pointer (some ⟨k, 0, none⟩), .bool (bad || decide (¬ (rdN d 1099511627776).1.2 = 0))] 168 ∧ Cells w' kx (V.spliceL cs off [.int .i64 ((rdN d 1099511627776).1.1)]) ty ∧ Fr [k, kt, kx] w w' := by
 have hkl := FX.lt
 have hnk := FX.nk
 replace FX := FX.flb
 have hktl := Ft.lt
 have hkxl := Fx.lt
 have hkBl := FB.lt
 have HG := V.Fr.refl [k, kt, kx] w
 refine V.enter (n := 27) Tryz.func144 rfl rfl (by decide) rfl ?_
 refine V.sr ?_
 refine V.ru 1 ?_
 refine V.call (tk_number1 (FB := FB) (Ft := Ft) (FX := FX) (n1 := by omega) (n2 := by omega)) rfl rfl rfl ?_
 rintro _ w2 ⟨rfl, F1, G3⟩
 have z4 := V.Fr.size G3
 refine V.ru 5 ?_
 refine V.nt ?_
 refine V.sr ?_
 refine V.ru 4 ?_
 replace Ft := Ft.ma G3
 refine V.loadO T_ok Ft rfl rfl rfl rfl rfl ?_
 refine V.ru 1 ?_
 refine V.orG T_ok 2 5 18 rfl rfl rfl rfl rfl rfl rfl rfl ?_
 refine V.ru 2 ?_
 refine V.storeO Ft rfl rfl rfl rfl sz4 rfl rfl rfl rfl ?_
 rintro w5 G6 z8 Fs7
 clear Ft
 have z9 := V.Fr.size G6
 have Ft := Fs7; clear Fs7
 simp only [V.spliceL, V.cellsL] at Ft
 refine V.nt ?_
 refine V.region ?_
 refine V.ru 3 ?_
 replace Fx := Fx.ma G3
 replace Fx := Fx.ma G6
 refine V.storeO Fx rfl rfl rfl rfl sz3 hle rfl rfl rfl ?_
 rintro w10 G11 z12 Fs13
 clear Fx
 have z14 := V.Fr.size G11
 have Fx := Fs13; clear Fs13
 refine V.nil ?_
 refine V.doneN rfl ?_
 replace F1 := F1.ma G6
 replace F1 := F1.ma G11
 replace Ft := Ft.ma G11
 replace HG := HG.n1 G3
 replace HG := HG.n1 G6
 replace HG := HG.n1 G11
 exact ⟨rfl, (F1.mono (fun _ h => h.1) hnk), Ft, Fx, HG⟩

set_option maxHeartbeats 900000 in
set_option maxRecDepth 10000 in
theorem tk_number {w : World} {kt k kx off ty : Nat} {cs : List Value} {D : Nat → Prop} {d : List UInt8} {bad : Bool} (Ft : Cells w kt [.pointer (some ⟨k, 0, none⟩), .bool bad] 168) (FX : Rd w k D d) (Fx : Cells w kx cs ty) (hle : Nat.ble (off + 1) cs.length = true) (n1 : kt ≠ k) (n2 : kx ≠ k) (n3 : kx ≠ kt) (n4 : ¬ D kx) (n5 : ¬ D kt)   :
    Meets Tryz.prog 110 [.pointer (some ⟨kt, 0, none⟩), .pointer (some ⟨kx, off, none⟩)] w fun r w' => r = .tuple #[] ∧ Rd w' k D ((rdN d 1099511627776).2) ∧ Cells w' kt [.pointer (some ⟨k, 0, none⟩), .bool (bad || decide (¬ (rdN d 1099511627776).1.2 = 0))] 168 ∧ Cells w' kx (V.spliceL cs off [.int .i64 ((rdN d 1099511627776).1.1)]) ty ∧ Fr [k, kt, kx] w w' := by
 have hkl := FX.lt
 have hnk := FX.nk
 replace FX := FX.flb
 have hktl := Ft.lt
 have hkxl := Fx.lt
 have HG := V.Fr.refl [k, kt, kx] w
 refine V.enter (n := 8) Tryz.func110 rfl rfl (by decide) rfl ?_
 refine V.sr ?_
 refine V.box rfl rfl rfl rfl ?_
 rintro k1 w3 s5 s6 G4 Fk2
 have z7 := V.Fr.size G4
 try simp only [V.cellsL, V.spliceL] at Fk2
 refine V.nt ?_
 refine V.region ?_
 refine V.loadO T_ok Fk2 rfl rfl rfl rfl rfl ?_
 refine V.ru 2 ?_
 replace Ft := Ft.gr G4
 replace FX := FX.gr G4
 replace Fx := Fx.gr G4
 refine V.call (take_number (FB := Fk2) (n6 := by omega) (Ft := Ft) (FX := FX) (Fx := Fx) (hle := hle) (n1 := by omega) (n2 := by omega) (n3 := by omega) (n4 := fun h => n4 h.1) (n5 := fun h => n5 h.1)) rfl rfl rfl ?_
 rintro _ w11 ⟨rfl, F8, F9, F10, G12⟩
 have z13 := V.Fr.size G12
 refine V.nil ?_
 refine V.doneN rfl ?_
 replace HG := HG.grow G4
 replace HG := HG.nS G12
 exact ⟨rfl, (F8.mono (fun _ h => h.1) hnk), F9, F10, HG⟩

set_option maxHeartbeats 900000 in
set_option maxRecDepth 10000 in
theorem tk_text1 {w : World} {kB kt k : Nat} {D : Nat → Prop} {d : List UInt8} {bad : Bool} (FB : Cells w kB [.pointer (some ⟨kt, 0, none⟩)] 166) (Ft : Cells w kt [.pointer (some ⟨k, 0, none⟩), .bool bad] 168) (FX : Rd w k D d) (n1 : kB ≠ k) (n2 : kt ≠ k)   :
    Meets Tryz.prog 147 [.pointer (some ⟨kB, 0, none⟩)] w fun r w' => r = .tuple #[.string (S (rdT d 65536).1.1), .int .i64 ((rdT d 65536).1.2)] ∧ Rd w' k D ((rdT d 65536).2) ∧ Fr [k] w w' := by
 have hkl := FX.lt
 have hnk := FX.nk
 replace FX := FX.flb
 have hktl := Ft.lt
 have hkBl := FB.lt
 have HG := V.Fr.refl [k] w
 refine V.enter (n := 10) Tryz.func147 rfl rfl (by decide) rfl ?_
 refine V.sr ?_
 refine V.ru 2 ?_
 refine V.nt ?_
 refine V.sr ?_
 refine V.loadO T_ok FB rfl rfl rfl rfl rfl ?_
 refine V.ru 2 ?_
 refine V.loadO T_ok Ft rfl rfl rfl rfl rfl ?_
 refine V.call (rd_text (most := 65536) FX) rfl rfl rfl ?_
 rintro _ w2 ⟨rfl, F1, G3⟩
 have z4 := V.Fr.size G3
 refine V.ru 4 ?_
 refine V.nt ?_
 refine V.ret ?_
 refine V.done rfl ?_
 replace HG := HG.n1 G3
 exact ⟨rfl, (F1.mono (fun _ h => h.1) hnk), HG⟩

set_option maxHeartbeats 900000 in
set_option maxRecDepth 10000 in
theorem take_text {w : World} {kB : Nat} {kt k kx off ty : Nat} {cs : List Value} {D : Nat → Prop} {d : List UInt8} {bad : Bool} (Ft : Cells w kt [.pointer (some ⟨k, 0, none⟩), .bool bad] 168) (FX : Rd w k D d) (Fx : Cells w kx cs ty) (hle : Nat.ble (off + 1) cs.length = true) (n1 : kt ≠ k) (n2 : kx ≠ k) (n3 : kx ≠ kt) (n4 : ¬ D kx) (n5 : ¬ D kt) (FB : Cells w kB [.pointer (some ⟨kt, 0, none⟩)] 166) (n6 : kB ≠ k)   :
    Meets Tryz.prog 146 [.pointer (some ⟨kt, 0, none⟩), .pointer (some ⟨kx, off, none⟩), .func (.func 147) #[] #[.pointer (some ⟨kB, 0, none⟩)]] w fun r w' => r = .tuple #[] ∧ Rd w' k D ((rdT d 65536).2) ∧ Cells w' kt [.pointer (some ⟨k, 0, none⟩), .bool (bad || decide (¬ (rdT d 65536).1.2 = 0))] 168 ∧ Cells w' kx (V.spliceL cs off [.string (S (rdT d 65536).1.1)]) ty ∧ Fr [k, kt, kx] w w' := by
 have hkl := FX.lt
 have hnk := FX.nk
 replace FX := FX.flb
 have hktl := Ft.lt
 have hkxl := Fx.lt
 have hkBl := FB.lt
 have HG := V.Fr.refl [k, kt, kx] w
 refine V.enter (n := 27) Tryz.func146 rfl rfl (by decide) rfl ?_
 refine V.sr ?_
 refine V.ru 1 ?_
 refine V.call (tk_text1 (FB := FB) (Ft := Ft) (FX := FX) (n1 := by omega) (n2 := by omega)) rfl rfl rfl ?_
 rintro _ w2 ⟨rfl, F1, G3⟩
 have z4 := V.Fr.size G3
 refine V.ru 5 ?_
 refine V.nt ?_
 refine V.sr ?_
 refine V.ru 4 ?_
 replace Ft := Ft.ma G3
 refine V.loadO T_ok Ft rfl rfl rfl rfl rfl ?_
 refine V.ru 1 ?_
 refine V.orG T_ok 2 5 18 rfl rfl rfl rfl rfl rfl rfl rfl ?_
 refine V.ru 2 ?_
 refine V.storeO Ft rfl rfl rfl rfl sz4 rfl rfl rfl rfl ?_
 rintro w5 G6 z8 Fs7
 clear Ft
 have z9 := V.Fr.size G6
 have Ft := Fs7; clear Fs7
 simp only [V.spliceL, V.cellsL] at Ft
 refine V.nt ?_
 refine V.region ?_
 refine V.ru 3 ?_
 replace Fx := Fx.ma G3
 replace Fx := Fx.ma G6
 refine V.storeO Fx rfl rfl rfl rfl sz9 hle rfl rfl rfl ?_
 rintro w10 G11 z12 Fs13
 clear Fx
 have z14 := V.Fr.size G11
 have Fx := Fs13; clear Fs13
 refine V.nil ?_
 refine V.doneN rfl ?_
 replace F1 := F1.ma G6
 replace F1 := F1.ma G11
 replace Ft := Ft.ma G11
 replace HG := HG.n1 G3
 replace HG := HG.n1 G6
 replace HG := HG.n1 G11
 exact ⟨rfl, (F1.mono (fun _ h => h.1) hnk), Ft, Fx, HG⟩

set_option maxHeartbeats 900000 in
set_option maxRecDepth 10000 in
theorem tk_text {w : World} {kt k kx off ty : Nat} {cs : List Value} {D : Nat → Prop} {d : List UInt8} {bad : Bool} (Ft : Cells w kt [.pointer (some ⟨k, 0, none⟩), .bool bad] 168) (FX : Rd w k D d) (Fx : Cells w kx cs ty) (hle : Nat.ble (off + 1) cs.length = true) (n1 : kt ≠ k) (n2 : kx ≠ k) (n3 : kx ≠ kt) (n4 : ¬ D kx) (n5 : ¬ D kt)   :
    Meets Tryz.prog 111 [.pointer (some ⟨kt, 0, none⟩), .pointer (some ⟨kx, off, none⟩)] w fun r w' => r = .tuple #[] ∧ Rd w' k D ((rdT d 65536).2) ∧ Cells w' kt [.pointer (some ⟨k, 0, none⟩), .bool (bad || decide (¬ (rdT d 65536).1.2 = 0))] 168 ∧ Cells w' kx (V.spliceL cs off [.string (S (rdT d 65536).1.1)]) ty ∧ Fr [k, kt, kx] w w' := by
 have hkl := FX.lt
 have hnk := FX.nk
 replace FX := FX.flb
 have hktl := Ft.lt
 have hkxl := Fx.lt
 have HG := V.Fr.refl [k, kt, kx] w
 refine V.enter (n := 8) Tryz.func111 rfl rfl (by decide) rfl ?_
 refine V.sr ?_
 refine V.box rfl rfl rfl rfl ?_
 rintro k1 w3 s5 s6 G4 Fk2
 have z7 := V.Fr.size G4
 try simp only [V.cellsL, V.spliceL] at Fk2
 refine V.nt ?_
 refine V.region ?_
 refine V.loadO T_ok Fk2 rfl rfl rfl rfl rfl ?_
 refine V.ru 2 ?_
 replace Ft := Ft.gr G4
 replace FX := FX.gr G4
 replace Fx := Fx.gr G4
 refine V.call (take_text (FB := Fk2) (n6 := by omega) (Ft := Ft) (FX := FX) (Fx := Fx) (hle := hle) (n1 := by omega) (n2 := by omega) (n3 := by omega) (n4 := fun h => n4 h.1) (n5 := fun h => n5 h.1)) rfl rfl rfl ?_
 rintro _ w11 ⟨rfl, F8, F9, F10, G12⟩
 have z13 := V.Fr.size G12
 refine V.nil ?_
 refine V.doneN rfl ?_
 replace HG := HG.grow G4
 replace HG := HG.nS G12
 exact ⟨rfl, (F8.mono (fun _ h => h.1) hnk), F9, F10, HG⟩

set_option maxHeartbeats 900000 in
set_option maxRecDepth 10000 in
theorem tk_stamp1 {w : World} {kB kt k : Nat} {D : Nat → Prop} {d : List UInt8} {bad : Bool} (FB : Cells w kB [.pointer (some ⟨kt, 0, none⟩)] 166) (Ft : Cells w kt [.pointer (some ⟨k, 0, none⟩), .bool bad] 168) (FX : Rd w k D d) (n1 : kB ≠ k) (n2 : kt ≠ k)   :
    Meets Tryz.prog 149 [.pointer (some ⟨kB, 0, none⟩)] w fun r w' => r = .tuple #[.agg #[.int .i64 ((rdS d).1.1.1), .int .i64 ((rdS d).1.1.2)], .int .i64 ((rdS d).1.2)] ∧ Rd w' k D ((rdS d).2) ∧ Fr [k] w w' := by
 have hkl := FX.lt
 have hnk := FX.nk
 replace FX := FX.flb
 have hktl := Ft.lt
 have hkBl := FB.lt
 have HG := V.Fr.refl [k] w
 refine V.enter (n := 10) Tryz.func149 rfl rfl (by decide) rfl ?_
 refine V.sr ?_
 refine V.alloc zero33 rfl rfl rfl ?_
 rintro k1 w3 s5 s6 G4 Fk2
 have z7 := V.Fr.size G4
 try simp only [V.cellsL, V.spliceL] at Fk2
 refine V.ru 1 ?_
 refine V.nt ?_
 refine V.sr ?_
 replace FB := FB.gr G4
 refine V.loadO T_ok FB rfl rfl rfl rfl rfl ?_
 refine V.ru 2 ?_
 replace Ft := Ft.gr G4
 refine V.loadO T_ok Ft rfl rfl rfl rfl rfl ?_
 replace FX := FX.gr G4
 refine V.call (sget_spec FX) rfl rfl rfl ?_
 rintro _ w9 ⟨rfl, F8, G10⟩
 have z11 := V.Fr.size G10
 refine V.ru 2 ?_
 replace Fk2 := Fk2.ma G10
 refine V.storeO Fk2 rfl rfl rfl rfl sz33 rfl rfl rfl rfl ?_
 rintro w12 G13 z15 Fs14
 clear Fk2
 have z16 := V.Fr.size G13
 have Fk2 := Fs14; clear Fs14
 simp only [V.spliceL, V.cellsL] at Fk2
 refine V.ru 1 ?_
 refine V.nt ?_
 refine V.ret ?_
 refine V.done2 rfl (V.resV_cell T_ok Fk2 rfl rfl) (V.resV_tmp rfl) ?_
 replace F8 := F8.ma G13
 replace HG := HG.grow G4
 replace HG := HG.n1 G10
 replace HG := HG.n1 G13
 exact ⟨rfl, (F8.mono (fun _ h => h.1) hnk), HG⟩

set_option maxHeartbeats 900000 in
set_option maxRecDepth 10000 in
theorem take_stamp {w : World} {kB : Nat} {kt k kx off ty : Nat} {cs : List Value} {D : Nat → Prop} {d : List UInt8} {bad : Bool} (Ft : Cells w kt [.pointer (some ⟨k, 0, none⟩), .bool bad] 168) (FX : Rd w k D d) (Fx : Cells w kx cs ty) (hle : Nat.ble (off + 2) cs.length = true) (n1 : kt ≠ k) (n2 : kx ≠ k) (n3 : kx ≠ kt) (n4 : ¬ D kx) (n5 : ¬ D kt) (FB : Cells w kB [.pointer (some ⟨kt, 0, none⟩)] 166) (n6 : kB ≠ k)   :
    Meets Tryz.prog 148 [.pointer (some ⟨kt, 0, none⟩), .pointer (some ⟨kx, off, none⟩), .func (.func 149) #[] #[.pointer (some ⟨kB, 0, none⟩)]] w fun r w' => r = .tuple #[] ∧ Rd w' k D ((rdS d).2) ∧ Cells w' kt [.pointer (some ⟨k, 0, none⟩), .bool (bad || decide (¬ (rdS d).1.2 = 0))] 168 ∧ Cells w' kx (V.spliceL cs off [.int .i64 ((rdS d).1.1.1), .int .i64 ((rdS d).1.1.2)]) ty ∧ Fr [k, kt, kx] w w' := by
 have hkl := FX.lt
 have hnk := FX.nk
 replace FX := FX.flb
 have hktl := Ft.lt
 have hkxl := Fx.lt
 have hkBl := FB.lt
 have HG := V.Fr.refl [k, kt, kx] w
 refine V.enter (n := 27) Tryz.func148 rfl rfl (by decide) rfl ?_
 refine V.sr ?_
 refine V.ru 1 ?_
 refine V.call (tk_stamp1 (FB := FB) (Ft := Ft) (FX := FX) (n1 := by omega) (n2 := by omega)) rfl rfl rfl ?_
 rintro _ w2 ⟨rfl, F1, G3⟩
 have z4 := V.Fr.size G3
 refine V.ru 3 ?_
 refine V.alloc zero33 rfl rfl rfl ?_
 rintro k5 w7 s9 s10 G8 Fk6
 have z11 := V.Fr.size G8
 try simp only [V.cellsL, V.spliceL] at Fk6
 refine V.storeO Fk6 rfl rfl rfl rfl sz33 rfl rfl rfl rfl ?_
 rintro w12 G13 z15 Fs14
 clear Fk6
 have z16 := V.Fr.size G13
 have Fk6 := Fs14; clear Fs14
 simp only [V.spliceL, V.cellsL] at Fk6
 refine V.ru 1 ?_
 refine V.nt ?_
 refine V.sr ?_
 refine V.ru 4 ?_
 replace Ft := Ft.ma G3
 replace Ft := Ft.gr G8
 replace Ft := Ft.ma G13
 refine V.loadO T_ok Ft rfl rfl rfl rfl rfl ?_
 refine V.ru 1 ?_
 refine V.orG T_ok 2 5 18 rfl rfl rfl rfl rfl rfl rfl rfl ?_
 refine V.ru 2 ?_
 refine V.storeO Ft rfl rfl rfl rfl sz4 rfl rfl rfl rfl ?_
 rintro w17 G18 z20 Fs19
 clear Ft
 have z21 := V.Fr.size G18
 have Ft := Fs19; clear Fs19
 simp only [V.spliceL, V.cellsL] at Ft
 refine V.nt ?_
 refine V.region ?_
 refine V.ru 1 ?_
 replace Fk6 := Fk6.ma G18
 refine V.loadO T_ok Fk6 rfl rfl rfl rfl rfl ?_
 refine V.ru 1 ?_
 replace Fx := Fx.ma G3
 replace Fx := Fx.gr G8
 replace Fx := Fx.ma G13
 replace Fx := Fx.ma G18
 refine V.storeO Fx rfl rfl rfl rfl sz33 hle rfl rfl rfl ?_
 rintro w22 G23 z24 Fs25
 clear Fx
 have z26 := V.Fr.size G23
 have Fx := Fs25; clear Fs25
 refine V.nil ?_
 refine V.doneN rfl ?_
 replace F1 := F1.gr G8
 replace F1 := F1.ma G13
 replace F1 := F1.ma G18
 replace F1 := F1.ma G23
 replace Ft := Ft.ma G23
 replace HG := HG.n1 G3
 replace HG := HG.grow G8
 replace HG := HG.n1 G13
 replace HG := HG.n1 G18
 replace HG := HG.n1 G23
 exact ⟨rfl, (F1.mono (fun _ h => h.1) hnk), Ft, Fx, HG⟩

set_option maxHeartbeats 900000 in
set_option maxRecDepth 10000 in
theorem tk_stamp {w : World} {kt k kx off ty : Nat} {cs : List Value} {D : Nat → Prop} {d : List UInt8} {bad : Bool} (Ft : Cells w kt [.pointer (some ⟨k, 0, none⟩), .bool bad] 168) (FX : Rd w k D d) (Fx : Cells w kx cs ty) (hle : Nat.ble (off + 2) cs.length = true) (n1 : kt ≠ k) (n2 : kx ≠ k) (n3 : kx ≠ kt) (n4 : ¬ D kx) (n5 : ¬ D kt)   :
    Meets Tryz.prog 112 [.pointer (some ⟨kt, 0, none⟩), .pointer (some ⟨kx, off, none⟩)] w fun r w' => r = .tuple #[] ∧ Rd w' k D ((rdS d).2) ∧ Cells w' kt [.pointer (some ⟨k, 0, none⟩), .bool (bad || decide (¬ (rdS d).1.2 = 0))] 168 ∧ Cells w' kx (V.spliceL cs off [.int .i64 ((rdS d).1.1.1), .int .i64 ((rdS d).1.1.2)]) ty ∧ Fr [k, kt, kx] w w' := by
 have hkl := FX.lt
 have hnk := FX.nk
 replace FX := FX.flb
 have hktl := Ft.lt
 have hkxl := Fx.lt
 have HG := V.Fr.refl [k, kt, kx] w
 refine V.enter (n := 8) Tryz.func112 rfl rfl (by decide) rfl ?_
 refine V.sr ?_
 refine V.box rfl rfl rfl rfl ?_
 rintro k1 w3 s5 s6 G4 Fk2
 have z7 := V.Fr.size G4
 try simp only [V.cellsL, V.spliceL] at Fk2
 refine V.nt ?_
 refine V.region ?_
 refine V.loadO T_ok Fk2 rfl rfl rfl rfl rfl ?_
 refine V.ru 2 ?_
 replace Ft := Ft.gr G4
 replace FX := FX.gr G4
 replace Fx := Fx.gr G4
 refine V.call (take_stamp (FB := Fk2) (n6 := by omega) (Ft := Ft) (FX := FX) (Fx := Fx) (hle := hle) (n1 := by omega) (n2 := by omega) (n3 := by omega) (n4 := fun h => n4 h.1) (n5 := fun h => n5 h.1)) rfl rfl rfl ?_
 rintro _ w11 ⟨rfl, F8, F9, F10, G12⟩
 have z13 := V.Fr.size G12
 refine V.nil ?_
 refine V.doneN rfl ?_
 replace HG := HG.grow G4
 replace HG := HG.nS G12
 exact ⟨rfl, (F8.mono (fun _ h => h.1) hnk), F9, F10, HG⟩

set_option maxHeartbeats 900000 in
set_option maxRecDepth 10000 in
theorem take_flag {w : World} {kt k kx off ty : Nat} {cs : List Value} {D : Nat → Prop} {d : List UInt8} {bad : Bool} (Ft : Cells w kt [.pointer (some ⟨k, 0, none⟩), .bool bad] 168) (FX : Rd w k D d) (Fx : Cells w kx cs ty) (hle : Nat.ble (off + 1) cs.length = true) (n1 : kt ≠ k) (n2 : kx ≠ k) (n3 : kx ≠ kt) (n4 : ¬ D kx) (n5 : ¬ D kt)   :
    Meets Tryz.prog 150 [.pointer (some ⟨kt, 0, none⟩), .pointer (some ⟨kx, off, none⟩), .func (.func 59) #[.pointer (some ⟨k, 0, none⟩)] #[]] w fun r w' => r = .tuple #[] ∧ Rd w' k D ((rdF d).2) ∧ Cells w' kt [.pointer (some ⟨k, 0, none⟩), .bool (bad || decide (¬ (rdF d).1.2 = 0))] 168 ∧ Cells w' kx (V.spliceL cs off [.bool ((rdF d).1.1)]) ty ∧ Fr [k, kt, kx] w w' := by
 have hkl := FX.lt
 have hnk := FX.nk
 replace FX := FX.flb
 have hktl := Ft.lt
 have hkxl := Fx.lt
 have HG := V.Fr.refl [k, kt, kx] w
 refine V.enter (n := 27) Tryz.func150 rfl rfl (by decide) rfl ?_
 refine V.sr ?_
 refine V.ru 1 ?_
 refine V.call (rd_flag FX) rfl rfl rfl ?_
 rintro _ w2 ⟨rfl, F1, G3⟩
 have z4 := V.Fr.size G3
 refine V.ru 5 ?_
 refine V.nt ?_
 refine V.sr ?_
 refine V.ru 4 ?_
 replace Ft := Ft.ma G3
 refine V.loadO T_ok Ft rfl rfl rfl rfl rfl ?_
 refine V.ru 1 ?_
 refine V.orG T_ok 2 5 18 rfl rfl rfl rfl rfl rfl rfl rfl ?_
 refine V.ru 2 ?_
 refine V.storeO Ft rfl rfl rfl rfl sz4 rfl rfl rfl rfl ?_
 rintro w5 G6 z8 Fs7
 clear Ft
 have z9 := V.Fr.size G6
 have Ft := Fs7; clear Fs7
 simp only [V.spliceL, V.cellsL] at Ft
 refine V.nt ?_
 refine V.region ?_
 refine V.ru 3 ?_
 replace Fx := Fx.ma G3
 replace Fx := Fx.ma G6
 refine V.storeO Fx rfl rfl rfl rfl sz4 hle rfl rfl rfl ?_
 rintro w10 G11 z12 Fs13
 clear Fx
 have z14 := V.Fr.size G11
 have Fx := Fs13; clear Fs13
 refine V.nil ?_
 refine V.doneN rfl ?_
 replace F1 := F1.ma G6
 replace F1 := F1.ma G11
 replace Ft := Ft.ma G11
 replace HG := HG.n1 G3
 replace HG := HG.n1 G6
 replace HG := HG.n1 G11
 exact ⟨rfl, (F1.mono (fun _ h => h.1) hnk), Ft, Fx, HG⟩

set_option maxHeartbeats 900000 in
set_option maxRecDepth 10000 in
theorem tk_flag {w : World} {kt k kx off ty : Nat} {cs : List Value} {D : Nat → Prop} {d : List UInt8} {bad : Bool} (Ft : Cells w kt [.pointer (some ⟨k, 0, none⟩), .bool bad] 168) (FX : Rd w k D d) (Fx : Cells w kx cs ty) (hle : Nat.ble (off + 1) cs.length = true) (n1 : kt ≠ k) (n2 : kx ≠ k) (n3 : kx ≠ kt) (n4 : ¬ D kx) (n5 : ¬ D kt)   :
    Meets Tryz.prog 113 [.pointer (some ⟨kt, 0, none⟩), .pointer (some ⟨kx, off, none⟩)] w fun r w' => r = .tuple #[] ∧ Rd w' k D ((rdF d).2) ∧ Cells w' kt [.pointer (some ⟨k, 0, none⟩), .bool (bad || decide (¬ (rdF d).1.2 = 0))] 168 ∧ Cells w' kx (V.spliceL cs off [.bool ((rdF d).1.1)]) ty ∧ Fr [k, kt, kx] w w' := by
 have hkl := FX.lt
 have hnk := FX.nk
 replace FX := FX.flb
 have hktl := Ft.lt
 have hkxl := Fx.lt
 have HG := V.Fr.refl [k, kt, kx] w
 refine V.enter (n := 12) Tryz.func113 rfl rfl (by decide) rfl ?_
 refine V.region ?_
 refine V.ru 5 ?_
 refine V.loadO T_ok Ft rfl rfl rfl rfl rfl ?_
 refine V.ru 1 ?_
 refine V.call (take_flag (Ft := Ft) (FX := FX) (Fx := Fx) (hle := hle) (n1 := by omega) (n2 := by omega) (n3 := by omega) (n4 := fun h => n4 h.1) (n5 := fun h => n5 h.1)) rfl rfl rfl ?_
 rintro _ w4 ⟨rfl, F1, F2, F3, G5⟩
 have z6 := V.Fr.size G5
 refine V.nil ?_
 refine V.doneN rfl ?_
 replace HG := HG.nS G5
 exact ⟨rfl, (F1.mono (fun _ h => h.1) hnk), F2, F3, HG⟩

end Go.Proofs.YtmmgmkklakkooaaGreat
