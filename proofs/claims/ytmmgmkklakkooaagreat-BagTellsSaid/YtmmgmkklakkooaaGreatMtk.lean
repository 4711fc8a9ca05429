/- Proved here: walks: what functions of this seat's program return and what they leave of memory, each as a contract. Conditions: stated at each theorem. -/
import Derived.Test.YtmmgmkklakkooaaGreatMmsg3
namespace Go.Proofs.YtmmgmkklakkooaaGreat
set_option linter.unusedVariables false
set_option linter.unusedSimpArgs false
open Go
open V (Bytes Meets Env Sl Own Gr Fr Cells S)
set_option maxHeartbeats 900000 in
set_option maxRecDepth 10000 in
theorem mtk_number1 {w : World} {kB kt k : Nat} {D : Nat → Prop} {d : List UInt8} {bad : Bool} (FB : Cells w kB [.pointer (some ⟨kt, 0, none⟩)] 101) (Ft : Cells w kt [.pointer (some ⟨k, 0, none⟩), .bool bad] 105) (FX : Rd w k D d) (n1 : kB ≠ k) (n2 : kt ≠ k)   :
    Meets Tryz.prog 102 [.pointer (some ⟨kB, 0, none⟩)] w fun r w' => r = .tuple #[.int .i64 ((rdN d 1099511627776).1.1), .int .i64 ((rdN d 1099511627776).1.2)] ∧ Rd w' k D ((rdN d 1099511627776).2) ∧ Fr [k] w w' := by
 have hkl := FX.lt
 have hnk := FX.nk
 replace FX := FX.flb
 have hktl := Ft.lt
 have hkBl := FB.lt
 have HG := V.Fr.refl [k] w
 refine V.enter (n := 10) Tryz.func102 rfl rfl (by decide) rfl ?_
 refine V.sr ?_
 refine V.ru 2 ?_
 refine V.nt ?_
 refine V.sr ?_
 refine V.loadO T_ok FB rfl rfl rfl rfl rfl ?_
 refine V.ru 2 ?_
 refine V.loadO T_ok Ft rfl rfl rfl rfl rfl ?_
 refine V.call (rd_number (most := 1099511627776) FX) rfl rfl rfl ?_
 rintro _ w2 ⟨rfl, F1, G3⟩
 have z4 := V.Fr.size G3
 refine V.ru 4 ?_
 refine V.nt ?_
 refine V.ret ?_
 refine V.done rfl ?_
 replace HG := HG.n1 G3
 exact ⟨rfl, (F1.mono (fun _ h => h.1) hnk), HG⟩

set_option maxHeartbeats 900000 in
set_option maxRecDepth 10000 in
theorem mtake_number {w : World} {kB : Nat} {kt k kx off ty : Nat} {cs : List Value} {D : Nat → Prop} {d : List UInt8} {bad : Bool} (Ft : Cells w kt [.pointer (some ⟨k, 0, none⟩), .bool bad] 105) (FX : Rd w k D d) (Fx : Cells w kx cs ty) (hle : Nat.ble (off + 1) cs.length = true) (n1 : kt ≠ k) (n2 : kx ≠ k) (n3 : kx ≠ kt) (n4 : ¬ D kx) (n5 : ¬ D kt) (FB : Cells w kB [.pointer (some ⟨kt, 0, none⟩)] 101) (n6 : kB ≠ k)   :
    Meets Tryz.prog 101 [.pointer (some ⟨kt, 0, none⟩), .pointer (some ⟨kx, off, none⟩), .func (.func 102) #[] #[.pointer (some ⟨kB, 0, none⟩)]] w fun r w' => r = .tuple #[] ∧ Rd w' k D ((rdN d 1099511627776).2) ∧ Cells w' kt [.pointer (some ⟨k, 0, none⟩), .bool (bad || decide (¬ (rdN d 1099511627776).1.2 = 0))] 105 ∧ Cells w' kx (V.spliceL cs off [.int .i64 ((rdN d 1099511627776).1.1)]) ty ∧ Fr [k, kt, kx] w w' := by
 have hkl := FX.lt
 have hnk := FX.nk
 replace FX := FX.flb
 have hktl := Ft.lt
 have hkxl := Fx.lt
 have hkBl := FB.lt
 have HG := V.Fr.refl [k, kt, kx] w
 refine V.enter (n := 27) Tryz.func101 rfl rfl (by decide) rfl ?_
 refine V.sr ?_
 refine V.ru 1 ?_
 refine V.call (mtk_number1 (FB := FB) (Ft := Ft) (FX := FX) (n1 := by omega) (n2 := by omega)) rfl rfl rfl ?_
 rintro _ w2 ⟨rfl, F1, G3⟩
 have z4 := V.Fr.size G3
 refine V.ru 5 ?_
 refine V.nt ?_
 refine V.sr ?_
 refine V.ru 4 ?_
 replace Ft := Ft.ma G3
 refine V.loadO T_ok Ft rfl rfl rfl rfl rfl ?_
 refine V.ru 1 ?_
 refine V.orG T_ok 2 5 18 rfl rfl rfl rfl rfl rfl rfl rfl ?_
 refine V.ru 2 ?_
 refine V.storeO Ft rfl rfl rfl rfl sz4 rfl rfl rfl rfl ?_
 rintro w5 G6 z8 Fs7
 clear Ft
 have z9 := V.Fr.size G6
 have Ft := Fs7; clear Fs7
 simp only [V.spliceL, V.cellsL] at Ft
 refine V.nt ?_
 refine V.region ?_
 refine V.ru 3 ?_
 replace Fx := Fx.ma G3
 replace Fx := Fx.ma G6
 refine V.storeO Fx rfl rfl rfl rfl sz3 hle rfl rfl rfl ?_
 rintro w10 G11 z12 Fs13
 clear Fx
 have z14 := V.Fr.size G11
 have Fx := Fs13; clear Fs13
 refine V.nil ?_
 refine V.doneN rfl ?_
 replace F1 := F1.ma G6
 replace F1 := F1.ma G11
 replace Ft := Ft.ma G11
 replace HG := HG.n1 G3
 replace HG := HG.n1 G6
 replace HG := HG.n1 G11
 exact ⟨rfl, (F1.mono (fun _ h => h.1) hnk), Ft, Fx, HG⟩

set_option maxHeartbeats 900000 in
set_option maxRecDepth 10000 in
theorem mtk_number {w : World} {kt k kx off ty : Nat} {cs : List Value} {D : Nat → Prop} {d : List UInt8} {bad : Bool} (Ft : Cells w kt [.pointer (some ⟨k, 0, none⟩), .bool bad] 105) (FX : Rd w k D d) (Fx : Cells w kx cs ty) (hle : Nat.ble (off + 1) cs.length = true) (n1 : kt ≠ k) (n2 : kx ≠ k) (n3 : kx ≠ kt) (n4 : ¬ D kx) (n5 : ¬ D kt)   :
    Meets Tryz.prog 57 [.pointer (some ⟨kt, 0, none⟩), .pointer (some ⟨kx, off, none⟩)] w fun r w' => r = .tuple #[] ∧ Rd w' k D ((rdN d 1099511627776).2) ∧ Cells w' kt [.pointer (some ⟨k, 0, none⟩), .bool (bad || decide (¬ (rdN d 1099511627776).1.2 = 0))] 105 ∧ Cells w' kx (V.spliceL cs off [.int .i64 ((rdN d 1099511627776).1.1)]) ty ∧ Fr [k, kt, kx] w w' := by
 have hkl := FX.lt
 have hnk := FX.nk
 replace FX := FX.flb
 have hktl := Ft.lt
 have hkxl := Fx.lt
 have HG := V.Fr.refl [k, kt, kx] w
 refine V.enter (n := 8) Tryz.func57 rfl rfl (by decide) rfl ?_
 refine V.sr ?_
 refine V.box rfl rfl rfl rfl ?_
 rintro k1 w3 s5 s6 G4 Fk2
 have z7 := V.Fr.size G4
 try simp only [V.cellsL, V.spliceL] at Fk2
 refine V.nt ?_
 refine V.region ?_
 refine V.loadO T_ok Fk2 rfl rfl rfl rfl rfl ?_
 refine V.ru 2 ?_
 replace Ft := Ft.gr G4
 replace FX := FX.gr G4
 replace Fx := Fx.gr G4
 refine V.call (mtake_number (FB := Fk2) (n6 := by omega) (Ft := Ft) (FX := FX) (Fx := Fx) (hle := hle) (n1 := by omega) (n2 := by omega) (n3 := by omega) (n4 := fun h => n4 h.1) (n5 := fun h => n5 h.1)) rfl rfl rfl ?_
 rintro _ w11 ⟨rfl, F8, F9, F10, G12⟩
 have z13 := V.Fr.size G12
 refine V.nil ?_
 refine V.doneN rfl ?_
 replace HG := HG.grow G4
 replace HG := HG.nS G12
 exact ⟨rfl, (F8.mono (fun _ h => h.1) hnk), F9, F10, HG⟩

set_option maxHeartbeats 900000 in
set_option maxRecDepth 10000 in
theorem mtk_text1 {w : World} {kB kt k : Nat} {D : Nat → Prop} {d : List UInt8} {bad : Bool} (FB : Cells w kB [.pointer (some ⟨kt, 0, none⟩)] 101) (Ft : Cells w kt [.pointer (some ⟨k, 0, none⟩), .bool bad] 105) (FX : Rd w k D d) (n1 : kB ≠ k) (n2 : kt ≠ k)   :
    Meets Tryz.prog 105 [.pointer (some ⟨kB, 0, none⟩)] w fun r w' => r = .tuple #[.string (S (rdT d 65536).1.1), .int .i64 ((rdT d 65536).1.2)] ∧ Rd w' k D ((rdT d 65536).2) ∧ Fr [k] w w' := by
 have hkl := FX.lt
 have hnk := FX.nk
 replace FX := FX.flb
 have hktl := Ft.lt
 have hkBl := FB.lt
 have HG := V.Fr.refl [k] w
 refine V.enter (n := 10) Tryz.func105 rfl rfl (by decide) rfl ?_
 refine V.sr ?_
 refine V.ru 2 ?_
 refine V.nt ?_
 refine V.sr ?_
 refine V.loadO T_ok FB rfl rfl rfl rfl rfl ?_
 refine V.ru 2 ?_
 refine V.loadO T_ok Ft rfl rfl rfl rfl rfl ?_
 refine V.call (rd_text (most := 65536) FX) rfl rfl rfl ?_
 rintro _ w2 ⟨rfl, F1, G3⟩
 have z4 := V.Fr.size G3
 refine V.ru 4 ?_
 refine V.nt ?_
 refine V.ret ?_
 refine V.done rfl ?_
 replace HG := HG.n1 G3
 exact ⟨rfl, (F1.mono (fun _ h => h.1) hnk), HG⟩

set_option maxHeartbeats 900000 in
set_option maxRecDepth 10000 in
theorem mtake_text {w : World} {kB : Nat} {kt k kx off ty : Nat} {cs : List Value} {D : Nat → Prop} {d : List UInt8} {bad : Bool} (Ft : Cells w kt [.pointer (some ⟨k, 0, none⟩), .bool bad] 105) (FX : Rd w k D d) (Fx : Cells w kx cs ty) (hle : Nat.ble (off + 1) cs.length = true) (n1 : kt ≠ k) (n2 : kx ≠ k) (n3 : kx ≠ kt) (n4 : ¬ D kx) (n5 : ¬ D kt) (FB : Cells w kB [.pointer (some ⟨kt, 0, none⟩)] 101) (n6 : kB ≠ k)   :
    Meets Tryz.prog 104 [.pointer (some ⟨kt, 0, none⟩), .pointer (some ⟨kx, off, none⟩), .func (.func 105) #[] #[.pointer (some ⟨kB, 0, none⟩)]] w fun r w' => r = .tuple #[] ∧ Rd w' k D ((rdT d 65536).2) ∧ Cells w' kt [.pointer (some ⟨k, 0, none⟩), .bool (bad || decide (¬ (rdT d 65536).1.2 = 0))] 105 ∧ Cells w' kx (V.spliceL cs off [.string (S (rdT d 65536).1.1)]) ty ∧ Fr [k, kt, kx] w w' := by
 have hkl := FX.lt
 have hnk := FX.nk
 replace FX := FX.flb
 have hktl := Ft.lt
 have hkxl := Fx.lt
 have hkBl := FB.lt
 have HG := V.Fr.refl [k, kt, kx] w
 refine V.enter (n := 27) Tryz.func104 rfl rfl (by decide) rfl ?_
 refine V.sr ?_
 refine V.ru 1 ?_
 refine V.call (mtk_text1 (FB := FB) (Ft := Ft) (FX := FX) (n1 := by omega) (n2 := by omega)) rfl rfl rfl ?_
 rintro _ w2 ⟨rfl, F1, G3⟩
 have z4 := V.Fr.size G3
 refine V.ru 5 ?_
 refine V.nt ?_
 refine V.sr ?_
 refine V.ru 4 ?_
 replace Ft := Ft.ma G3
 refine V.loadO T_ok Ft rfl rfl rfl rfl rfl ?_
 refine V.ru 1 ?_
 refine V.orG T_ok 2 5 18 rfl rfl rfl rfl rfl rfl rfl rfl ?_
 refine V.ru 2 ?_
 refine V.storeO Ft rfl rfl rfl rfl sz4 rfl rfl rfl rfl ?_
 rintro w5 G6 z8 Fs7
 clear Ft
 have z9 := V.Fr.size G6
 have Ft := Fs7; clear Fs7
 simp only [V.spliceL, V.cellsL] at Ft
 refine V.nt ?_
 refine V.region ?_
 refine V.ru 3 ?_
 replace Fx := Fx.ma G3
 replace Fx := Fx.ma G6
 refine V.storeO Fx rfl rfl rfl rfl sz9 hle rfl rfl rfl ?_
 rintro w10 G11 z12 Fs13
 clear Fx
 have z14 := V.Fr.size G11
 have Fx := Fs13; clear Fs13
 refine V.nil ?_
 refine V.doneN rfl ?_
 replace F1 := F1.ma G6
 replace F1 := F1.ma G11
 replace Ft := Ft.ma G11
 replace HG := HG.n1 G3
 replace HG := HG.n1 G6
 replace HG := HG.n1 G11
 exact ⟨rfl, (F1.mono (fun _ h => h.1) hnk), Ft, Fx, HG⟩

set_option maxHeartbeats 900000 in
set_option maxRecDepth 10000 in
theorem mtk_text {w : World} {kt k kx off ty : Nat} {cs : List Value} {D : Nat → Prop} {d : List UInt8} {bad : Bool} (Ft : Cells w kt [.pointer (some ⟨k, 0, none⟩), .bool bad] 105) (FX : Rd w k D d) (Fx : Cells w kx cs ty) (hle : Nat.ble (off + 1) cs.length = true) (n1 : kt ≠ k) (n2 : kx ≠ k) (n3 : kx ≠ kt) (n4 : ¬ D kx) (n5 : ¬ D kt)   :
    Meets Tryz.prog 61 [.pointer (some ⟨kt, 0, none⟩), .pointer (some ⟨kx, off, none⟩)] w fun r w' => r = .tuple #[] ∧ Rd w' k D ((rdT d 65536).2) ∧ Cells w' kt [.pointer (some ⟨k, 0, none⟩), .bool (bad || decide (¬ (rdT d 65536).1.2 = 0))] 105 ∧ Cells w' kx (V.spliceL cs off [.string (S (rdT d 65536).1.1)]) ty ∧ Fr [k, kt, kx] w w' := by
 have hkl := FX.lt
 have hnk := FX.nk
 replace FX := FX.flb
 have hktl := Ft.lt
 have hkxl := Fx.lt
 have HG := V.Fr.refl [k, kt, kx] w
 refine V.enter (n := 8) Tryz.func61 rfl rfl (by decide) rfl ?_
 refine V.sr ?_
 refine V.box rfl rfl rfl rfl ?_
 rintro k1 w3 s5 s6 G4 Fk2
 have z7 := V.Fr.size G4
 try simp only [V.cellsL, V.spliceL] at Fk2
 refine V.nt ?_
 refine V.region ?_
 refine V.loadO T_ok Fk2 rfl rfl rfl rfl rfl ?_
 refine V.ru 2 ?_
 replace Ft := Ft.gr G4
 replace FX := FX.gr G4
 replace Fx := Fx.gr G4
 refine V.call (mtake_text (FB := Fk2) (n6 := by omega) (Ft := Ft) (FX := FX) (Fx := Fx) (hle := hle) (n1 := by omega) (n2 := by omega) (n3 := by omega) (n4 := fun h => n4 h.1) (n5 := fun h => n5 h.1)) rfl rfl rfl ?_
 rintro _ w11 ⟨rfl, F8, F9, F10, G12⟩
 have z13 := V.Fr.size G12
 refine V.nil ?_
 refine V.doneN rfl ?_
 replace HG := HG.grow G4
 replace HG := HG.nS G12
 exact ⟨rfl, (F8.mono (fun _ h => h.1) hnk), F9, F10, HG⟩

set_option maxHeartbeats 900000 in
set_option maxRecDepth 10000 in
theorem mtk_stamp1 {w : World} {kB kt k : Nat} {D : Nat → Prop} {d : List UInt8} {bad : Bool} (FB : Cells w kB [.pointer (some ⟨kt, 0, none⟩)] 101) (Ft : Cells w kt [.pointer (some ⟨k, 0, none⟩), .bool bad] 105) (FX : Rd w k D d) (n1 : kB ≠ k) (n2 : kt ≠ k)   :
    Meets Tryz.prog 108 [.pointer (some ⟨kB, 0, none⟩)] w fun r w' => r = .tuple #[.agg #[.int .i64 ((rdS d).1.1.1), .int .i64 ((rdS d).1.1.2)], .int .i64 ((rdS d).1.2)] ∧ Rd w' k D ((rdS d).2) ∧ Fr [k] w w' := by
 have hkl := FX.lt
 have hnk := FX.nk
 replace FX := FX.flb
 have hktl := Ft.lt
 have hkBl := FB.lt
 have HG := V.Fr.refl [k] w
 refine V.enter (n := 10) Tryz.func108 rfl rfl (by decide) rfl ?_
 refine V.sr ?_
 refine V.alloc zero33 rfl rfl rfl ?_
 rintro k1 w3 s5 s6 G4 Fk2
 have z7 := V.Fr.size G4
 try simp only [V.cellsL, V.spliceL] at Fk2
 refine V.ru 1 ?_
 refine V.nt ?_
 refine V.sr ?_
 replace FB := FB.gr G4
 refine V.loadO T_ok FB rfl rfl rfl rfl rfl ?_
 refine V.ru 2 ?_
 replace Ft := Ft.gr G4
 refine V.loadO T_ok Ft rfl rfl rfl rfl rfl ?_
 replace FX := FX.gr G4
 refine V.call (sget_spec FX) rfl rfl rfl ?_
 rintro _ w9 ⟨rfl, F8, G10⟩
 have z11 := V.Fr.size G10
 refine V.ru 2 ?_
 replace Fk2 := Fk2.ma G10
 refine V.storeO Fk2 rfl rfl rfl rfl sz33 rfl rfl rfl rfl ?_
 rintro w12 G13 z15 Fs14
 clear Fk2
 have z16 := V.Fr.size G13
 have Fk2 := Fs14; clear Fs14
 simp only [V.spliceL, V.cellsL] at Fk2
 refine V.ru 1 ?_
 refine V.nt ?_
 refine V.ret ?_
 refine V.done2 rfl (V.resV_cell T_ok Fk2 rfl rfl) (V.resV_tmp rfl) ?_
 replace F8 := F8.ma G13
 replace HG := HG.grow G4
 replace HG := HG.n1 G10
 replace HG := HG.n1 G13
 exact ⟨rfl, (F8.mono (fun _ h => h.1) hnk), HG⟩

set_option maxHeartbeats 900000 in
set_option maxRecDepth 10000 in
theorem mtake_stamp {w : World} {kB : Nat} {kt k kx off ty : Nat} {cs : List Value} {D : Nat → Prop} {d : List UInt8} {bad : Bool} (Ft : Cells w kt [.pointer (some ⟨k, 0, none⟩), .bool bad] 105) (FX : Rd w k D d) (Fx : Cells w kx cs ty) (hle : Nat.ble (off + 2) cs.length = true) (n1 : kt ≠ k) (n2 : kx ≠ k) (n3 : kx ≠ kt) (n4 : ¬ D kx) (n5 : ¬ D kt) (FB : Cells w kB [.pointer (some ⟨kt, 0, none⟩)] 101) (n6 : kB ≠ k)   :
    Meets Tryz.prog 107 [.pointer (some ⟨kt, 0, none⟩), .pointer (some ⟨kx, off, none⟩), .func (.func 108) #[] #[.pointer (some ⟨kB, 0, none⟩)]] w fun r w' => r = .tuple #[] ∧ Rd w' k D ((rdS d).2) ∧ Cells w' kt [.pointer (some ⟨k, 0, none⟩), .bool (bad || decide (¬ (rdS d).1.2 = 0))] 105 ∧ Cells w' kx (V.spliceL cs off [.int .i64 ((rdS d).1.1.1), .int .i64 ((rdS d).1.1.2)]) ty ∧ Fr [k, kt, kx] w w' := by
 have hkl := FX.lt
 have hnk := FX.nk
 replace FX := FX.flb
 have hktl := Ft.lt
 have hkxl := Fx.lt
 have hkBl := FB.lt
 have HG := V.Fr.refl [k, kt, kx] w
 refine V.enter (n := 27) Tryz.func107 rfl rfl (by decide) rfl ?_
 refine V.sr ?_
 refine V.ru 1 ?_
 refine V.call (mtk_stamp1 (FB := FB) (Ft := Ft) (FX := FX) (n1 := by omega) (n2 := by omega)) rfl rfl rfl ?_
 rintro _ w2 ⟨rfl, F1, G3⟩
 have z4 := V.Fr.size G3
 refine V.ru 3 ?_
 refine V.alloc zero33 rfl rfl rfl ?_
 rintro k5 w7 s9 s10 G8 Fk6
 have z11 := V.Fr.size G8
 try simp only [V.cellsL, V.spliceL] at Fk6
 refine V.storeO Fk6 rfl rfl rfl rfl sz33 rfl rfl rfl rfl ?_
 rintro w12 G13 z15 Fs14
 clear Fk6
 have z16 := V.Fr.size G13
 have Fk6 := Fs14; clear Fs14
 simp only [V.spliceL, V.cellsL] at Fk6
 refine V.ru 1 ?_
 refine V.nt ?_
 refine V.sr ?_
 refine V.ru 4 ?_
 replace Ft := Ft.ma G3
 replace Ft := Ft.gr G8
 replace Ft := Ft.ma G13
 refine V.loadO T_ok Ft rfl rfl rfl rfl rfl ?_
 refine V.ru 1 ?_
 refine V.orG T_ok 2 5 18 rfl rfl rfl rfl rfl rfl rfl rfl ?_
 refine V.ru 2 ?_
 refine V.storeO Ft rfl rfl rfl rfl sz4 rfl rfl rfl rfl ?_
 rintro w17 G18 z20 Fs19
 clear Ft
 have z21 := V.Fr.size G18
 have Ft := Fs19; clear Fs19
 simp only [V.spliceL, V.cellsL] at Ft
 refine V.nt ?_
 refine V.region ?_
 refine V.ru 1 ?_
 replace Fk6 := Fk6.ma G18
 refine V.loadO T_ok Fk6 rfl rfl rfl rfl rfl ?_
 refine V.ru 1 ?_
 replace Fx := Fx.ma G3
 replace Fx := Fx.gr G8
 replace Fx := Fx.ma G13
 replace Fx := Fx.ma G18
 refine V.storeO Fx rfl rfl rfl rfl sz33 hle rfl rfl rfl ?_
 rintro w22 G23 z24 Fs25
 clear Fx
 have z26 := V.Fr.size G23
 have Fx := Fs25; clear Fs25
 refine V.nil ?_
 refine V.doneN rfl ?_
 replace F1 := F1.gr G8
 replace F1 := F1.ma G13
 replace F1 := F1.ma G18
 replace F1 := F1.ma G23
 replace Ft := Ft.ma G23
 replace HG := HG.n1 G3
 replace HG := HG.grow G8
 replace HG := HG.n1 G13
 replace HG := HG.n1 G18
 replace HG := HG.n1 G23
 exact ⟨rfl, (F1.mono (fun _ h => h.1) hnk), Ft, Fx, HG⟩

set_option maxHeartbeats 900000 in
set_option maxRecDepth 10000 in
theorem mtk_stamp {w : World} {kt k kx off ty : Nat} {cs : List Value} {D : Nat → Prop} {d : List UInt8} {bad : Bool} (Ft : Cells w kt [.pointer (some ⟨k, 0, none⟩), .bool bad] 105) (FX : Rd w k D d) (Fx : Cells w kx cs ty) (hle : Nat.ble (off + 2) cs.length = true) (n1 : kt ≠ k) (n2 : kx ≠ k) (n3 : kx ≠ kt) (n4 : ¬ D kx) (n5 : ¬ D kt)   :
    Meets Tryz.prog 62 [.pointer (some ⟨kt, 0, none⟩), .pointer (some ⟨kx, off, none⟩)] w fun r w' => r = .tuple #[] ∧ Rd w' k D ((rdS d).2) ∧ Cells w' kt [.pointer (some ⟨k, 0, none⟩), .bool (bad || decide (¬ (rdS d).1.2 = 0))] 105 ∧ Cells w' kx (V.spliceL cs off [.int .i64 ((rdS d).1.1.1), .int .i64 ((rdS d).1.1.2)]) ty ∧ Fr [k, kt, kx] w w' := by
 have hkl := FX.lt
 have hnk := FX.nk
 replace FX := FX.flb
 have hktl := Ft.lt
 have hkxl := Fx.lt
 have HG := V.Fr.refl [k, kt, kx] w
 refine V.enter (n := 8) Tryz.func62 rfl rfl (by decide) rfl ?_
 refine V.sr ?_
 refine V.box rfl rfl rfl rfl ?_
 rintro k1 w3 s5 s6 G4 Fk2
 have z7 := V.Fr.size G4
 try simp only [V.cellsL, V.spliceL] at Fk2
 refine V.nt ?_
 refine V.region ?_
 refine V.loadO T_ok Fk2 rfl rfl rfl rfl rfl ?_
 refine V.ru 2 ?_
 replace Ft := Ft.gr G4
 replace FX := FX.gr G4
 replace Fx := Fx.gr G4
 refine V.call (mtake_stamp (FB := Fk2) (n6 := by omega) (Ft := Ft) (FX := FX) (Fx := Fx) (hle := hle) (n1 := by omega) (n2 := by omega) (n3 := by omega) (n4 := fun h => n4 h.1) (n5 := fun h => n5 h.1)) rfl rfl rfl ?_
 rintro _ w11 ⟨rfl, F8, F9, F10, G12⟩
 have z13 := V.Fr.size G12
 refine V.nil ?_
 refine V.doneN rfl ?_
 replace HG := HG.grow G4
 replace HG := HG.nS G12
 exact ⟨rfl, (F8.mono (fun _ h => h.1) hnk), F9, F10, HG⟩

set_option maxHeartbeats 900000 in
set_option maxRecDepth 10000 in
theorem mtake_flag {w : World} {kt k kx off ty : Nat} {cs : List Value} {D : Nat → Prop} {d : List UInt8} {bad : Bool} (Ft : Cells w kt [.pointer (some ⟨k, 0, none⟩), .bool bad] 105) (FX : Rd w k D d) (Fx : Cells w kx cs ty) (hle : Nat.ble (off + 1) cs.length = true) (n1 : kt ≠ k) (n2 : kx ≠ k) (n3 : kx ≠ kt) (n4 : ¬ D kx) (n5 : ¬ D kt)   :
    Meets Tryz.prog 58 [.pointer (some ⟨kt, 0, none⟩), .pointer (some ⟨kx, off, none⟩), .func (.func 59) #[.pointer (some ⟨k, 0, none⟩)] #[]] w fun r w' => r = .tuple #[] ∧ Rd w' k D ((rdF d).2) ∧ Cells w' kt [.pointer (some ⟨k, 0, none⟩), .bool (bad || decide (¬ (rdF d).1.2 = 0))] 105 ∧ Cells w' kx (V.spliceL cs off [.bool ((rdF d).1.1)]) ty ∧ Fr [k, kt, kx] w w' := by
 have hkl := FX.lt
 have hnk := FX.nk
 replace FX := FX.flb
 have hktl := Ft.lt
 have hkxl := Fx.lt
 have HG := V.Fr.refl [k, kt, kx] w
 refine V.enter (n := 27) Tryz.func58 rfl rfl (by decide) rfl ?_
 refine V.sr ?_
 refine V.ru 1 ?_
 refine V.call (rd_flag FX) rfl rfl rfl ?_
 rintro _ w2 ⟨rfl, F1, G3⟩
 have z4 := V.Fr.size G3
 refine V.ru 5 ?_
 refine V.nt ?_
 refine V.sr ?_
 refine V.ru 4 ?_
 replace Ft := Ft.ma G3
 refine V.loadO T_ok Ft rfl rfl rfl rfl rfl ?_
 refine V.ru 1 ?_
 refine V.orG T_ok 2 5 18 rfl rfl rfl rfl rfl rfl rfl rfl ?_
 refine V.ru 2 ?_
 refine V.storeO Ft rfl rfl rfl rfl sz4 rfl rfl rfl rfl ?_
 rintro w5 G6 z8 Fs7
 clear Ft
 have z9 := V.Fr.size G6
 have Ft := Fs7; clear Fs7
 simp only [V.spliceL, V.cellsL] at Ft
 refine V.nt ?_
 refine V.region ?_
 refine V.ru 3 ?_
 replace Fx := Fx.ma G3
 replace Fx := Fx.ma G6
 refine V.storeO Fx rfl rfl rfl rfl sz4 hle rfl rfl rfl ?_
 rintro w10 G11 z12 Fs13
 clear Fx
 have z14 := V.Fr.size G11
 have Fx := Fs13; clear Fs13
 refine V.nil ?_
 refine V.doneN rfl ?_
 replace F1 := F1.ma G6
 replace F1 := F1.ma G11
 replace Ft := Ft.ma G11
 replace HG := HG.n1 G3
 replace HG := HG.n1 G6
 replace HG := HG.n1 G11
 exact ⟨rfl, (F1.mono (fun _ h => h.1) hnk), Ft, Fx, HG⟩

set_option maxHeartbeats 900000 in
set_option maxRecDepth 10000 in
theorem mtk_rec1 {w : World} {kB kt k : Nat} {D : Nat → Prop} {d : List UInt8} {bad : Bool} (FB : Cells w kB [.pointer (some ⟨kt, 0, none⟩)] 101) (Ft : Cells w kt [.pointer (some ⟨k, 0, none⟩), .bool bad] 105) (FX : Rd w k D d) (n1 : kB ≠ k) (n2 : kt ≠ k)   :
    Meets Tryz.prog 115 [.pointer (some ⟨kB, 0, none⟩)] w fun r w' => ∃ (ra92 : Option Addr) (rc92 : Nat), r = .tuple #[.agg #[.int .i64 (((rdRec d).1.getD recZ).id), .int .i64 (((rdRec d).1.getD recZ).ep), .int .i64 (((rdRec d).1.getD recZ).st), .int .i64 (((rdRec d).1.getD recZ).aw), .int .i64 (((rdRec d).1.getD recZ).al), .int .i64 (((rdRec d).1.getD recZ).bw), .int .i64 (((rdRec d).1.getD recZ).bl), .slice ra92 (((rdRec d).1.getD recZ).ws).length rc92], .int .i64 (if (rdRec d).1.isSome = true then (0 : Int) else 11)] ∧ Sl V.Cod.write w' (V.In w.heap.size w'.heap.size) ra92 rc92 (((rdRec d).1.getD recZ).ws) ∧ Rd w' k D ((rdRec d).2) ∧ Fr [k] w w' := by
 have hkl := FX.lt
 have hnk := FX.nk
 replace FX := FX.flb
 have hktl := Ft.lt
 have hkBl := FB.lt
 have HG := V.Fr.refl [k] w
 refine V.enter (n := 10) Tryz.func115 rfl rfl (by decide) rfl ?_
 refine V.sr ?_
 refine V.alloc zero46 rfl rfl rfl ?_
 rintro k1 w3 s5 s6 G4 Fk2
 have z7 := V.Fr.size G4
 try simp only [V.cellsL, V.spliceL] at Fk2
 refine V.ru 1 ?_
 refine V.nt ?_
 refine V.sr ?_
 replace FB := FB.gr G4
 refine V.loadO T_ok FB rfl rfl rfl rfl rfl ?_
 refine V.ru 2 ?_
 replace Ft := Ft.gr G4
 refine V.loadO T_ok Ft rfl rfl rfl rfl rfl ?_
 replace FX := FX.gr G4
 refine V.call (get_spec FX) rfl rfl rfl ?_
 rintro _ w12 ⟨a8, c9, rfl, F10, F11, G13⟩
 have z14 := V.Fr.size G13
 refine V.ru 2 ?_
 replace Fk2 := Fk2.ma G13
 refine V.storeO Fk2 rfl rfl rfl rfl sz46 rfl rfl rfl rfl ?_
 rintro w15 G16 z18 Fs17
 clear Fk2
 have z19 := V.Fr.size G16
 have Fk2 := Fs17; clear Fs17
 simp only [V.spliceL, V.cellsL] at Fk2
 refine V.ru 1 ?_
 refine V.nt ?_
 refine V.ret ?_
 refine V.done2 rfl (V.resV_cell T_ok Fk2 rfl rfl) (V.resV_tmp rfl) ?_
 replace F10 := F10.ma G16
 replace F11 := F11.ma G16
 replace HG := HG.grow G4
 replace HG := HG.n1 G13
 replace HG := HG.n1 G16
 exact ⟨a8, c9, (by first | rfl | simp only [List.length_set]), F10.re, (F11.mono (fun _ h => h.1) hnk), HG⟩

set_option maxHeartbeats 900000 in
set_option maxRecDepth 10000 in
theorem mtake_rec {w : World} {kt k kx off ty : Nat} {cs : List Value} {D : Nat → Prop} {d : List UInt8} {bad : Bool} (Ft : Cells w kt [.pointer (some ⟨k, 0, none⟩), .bool bad] 105) (FX : Rd w k D d) (Fx : Cells w kx cs ty) (hle : Nat.ble (off + 8) cs.length = true) (n1 : kt ≠ k) (n2 : kx ≠ k) (n3 : kx ≠ kt) (n4 : ¬ D kx) (n5 : ¬ D kt) {kB : Nat} (FB : Cells w kB [.pointer (some ⟨kt, 0, none⟩)] 101) (n6 : kB ≠ k)   :
    Meets Tryz.prog 114 [.pointer (some ⟨kt, 0, none⟩), .pointer (some ⟨kx, off, none⟩), .func (.func 115) #[] #[.pointer (some ⟨kB, 0, none⟩)]] w fun r w' => ∃ (ra94 : Option Addr) (rc94 : Nat), r = .tuple #[] ∧ Rd w' k D ((rdRec d).2) ∧ Cells w' kt [.pointer (some ⟨k, 0, none⟩), .bool (bad || decide (¬ (if (rdRec d).1.isSome = true then (0 : Int) else 11) = 0))] 105 ∧ Cells w' kx (V.spliceL cs off [.int .i64 (((rdRec d).1.getD recZ).id), .int .i64 (((rdRec d).1.getD recZ).ep), .int .i64 (((rdRec d).1.getD recZ).st), .int .i64 (((rdRec d).1.getD recZ).aw), .int .i64 (((rdRec d).1.getD recZ).al), .int .i64 (((rdRec d).1.getD recZ).bw), .int .i64 (((rdRec d).1.getD recZ).bl), .slice ra94 (((rdRec d).1.getD recZ).ws).length rc94]) ty ∧ Sl V.Cod.write w' (V.In w.heap.size w'.heap.size) ra94 rc94 ((rdRec d).1.getD recZ).ws ∧ Fr [k, kt, kx] w w' := by
 have hkl := FX.lt
 have hnk := FX.nk
 replace FX := FX.flb
 have hktl := Ft.lt
 have hkxl := Fx.lt
 have hkBl := FB.lt
 have HG := V.Fr.refl [k, kt, kx] w
 refine V.enter (n := 27) Tryz.func114 rfl rfl (by decide) rfl ?_
 refine V.sr ?_
 refine V.ru 1 ?_
 refine V.call (mtk_rec1 (FB := FB) (Ft := Ft) (FX := FX) (n1 := by omega) (n2 := by omega)) rfl rfl rfl ?_
 rintro _ w5 ⟨a1, c2, rfl, F3, F4, G6⟩
 have z7 := V.Fr.size G6
 refine V.ru 3 ?_
 refine V.alloc zero46 rfl rfl rfl ?_
 rintro k8 w10 s12 s13 G11 Fk9
 have z14 := V.Fr.size G11
 try simp only [V.cellsL, V.spliceL] at Fk9
 refine V.storeO Fk9 rfl rfl rfl rfl sz46 rfl rfl rfl rfl ?_
 rintro w15 G16 z18 Fs17
 clear Fk9
 have z19 := V.Fr.size G16
 have Fk9 := Fs17; clear Fs17
 simp only [V.spliceL, V.cellsL] at Fk9
 refine V.ru 1 ?_
 refine V.nt ?_
 refine V.sr ?_
 refine V.ru 4 ?_
 replace Ft := Ft.ma G6
 replace Ft := Ft.gr G11
 replace Ft := Ft.ma G16
 refine V.loadO T_ok Ft rfl rfl rfl rfl rfl ?_
 refine V.ru 1 ?_
 refine V.orG T_ok 2 5 18 rfl rfl rfl rfl rfl rfl rfl rfl ?_
 refine V.ru 2 ?_
 refine V.storeO Ft rfl rfl rfl rfl sz4 rfl rfl rfl rfl ?_
 rintro w20 G21 z23 Fs22
 clear Ft
 have z24 := V.Fr.size G21
 have Ft := Fs22; clear Fs22
 simp only [V.spliceL, V.cellsL] at Ft
 refine V.nt ?_
 refine V.region ?_
 refine V.ru 1 ?_
 replace Fk9 := Fk9.ma G21
 refine V.loadO T_ok Fk9 rfl rfl rfl rfl rfl ?_
 refine V.ru 1 ?_
 replace Fx := Fx.ma G6
 replace Fx := Fx.gr G11
 replace Fx := Fx.ma G16
 replace Fx := Fx.ma G21
 refine V.storeO Fx rfl rfl rfl rfl sz46 hle rfl rfl rfl ?_
 rintro w25 G26 z27 Fs28
 clear Fx
 have z29 := V.Fr.size G26
 have Fx := Fs28; clear Fs28
 refine V.nil ?_
 refine V.doneN rfl ?_
 replace F3 := F3.gr G11
 replace F3 := F3.ma G16
 replace F3 := F3.ma G21
 replace F3 := F3.ma G26
 replace F4 := F4.gr G11
 replace F4 := F4.ma G16
 replace F4 := F4.ma G21
 replace F4 := F4.ma G26
 replace Ft := Ft.ma G26
 replace HG := HG.n1 G6
 replace HG := HG.grow G11
 replace HG := HG.n1 G16
 replace HG := HG.n1 G21
 replace HG := HG.n1 G26
 exact ⟨_, _, rfl, (F4.mono (fun _ h => h.1) hnk), Ft, Fx, F3.re, HG⟩

set_option maxHeartbeats 900000 in
set_option maxRecDepth 10000 in
theorem mtk_cmd1 {w : World} {kD : Nat} {s : ByteArray} (FDc : Cells w kD [.string s] 9) (hs : s.size ≤ 140737488355328)   :
    Meets Tryz.prog 64 [.pointer (some ⟨kD, 0, none⟩)] w fun r w' => ∃ (ra96 : Option Addr) (rc96 : Nat), r = .tuple #[.agg #[.int .i64 (((decC s.data.toList).getD cmdZ).kd), .int .i64 (((decC s.data.toList).getD cmdZ).id), .int .i64 (((decC s.data.toList).getD cmdZ).le), .int .i64 (((decC s.data.toList).getD cmdZ).nd), .int .i64 (((decC s.data.toList).getD cmdZ).ti), .int .i64 (((decC s.data.toList).getD cmdZ).te), .string (((decC s.data.toList).getD cmdZ).an), .int .i64 (((decC s.data.toList).getD cmdZ).sw), .int .i64 (((decC s.data.toList).getD cmdZ).sl), .int .i64 (((decC s.data.toList).getD cmdZ).sq), .string (((decC s.data.toList).getD cmdZ).fr), .string (((decC s.data.toList).getD cmdZ).to), .string (((decC s.data.toList).getD cmdZ).va), .bool (((decC s.data.toList).getD cmdZ).go), .int .i64 (((decC s.data.toList).getD cmdZ).aw), .int .i64 (((decC s.data.toList).getD cmdZ).al), .int .i64 (((decC s.data.toList).getD cmdZ).lw), .int .i64 (((decC s.data.toList).getD cmdZ).ll), .bool (((decC s.data.toList).getD cmdZ).cm), .bool (((decC s.data.toList).getD cmdZ).st), .slice ra96 (((decC s.data.toList).getD cmdZ).ws).length rc96, .int .i64 (((decC s.data.toList).getD cmdZ).pr)], .int .i64 (if (decC s.data.toList).isSome = true then (0 : Int) else 131)] ∧ V.Row V.Cod.write 78 w' V.None' w.heap.size w'.heap.size ra96 rc96 (((decC s.data.toList).getD cmdZ).ws) ∧ Gr w w' := by
 have hkDl := FDc.lt
 have hsl := V.length_data s
 have hsm : s.size ≤ maxLen := by simp only [maxLen]; omega
 have HG := V.Fr.refl [] w
 refine V.enter (n := 8) Tryz.func64 rfl rfl (by decide) rfl ?_
 refine V.sr ?_
 refine V.alloc zero41 rfl rfl rfl ?_
 rintro k1 w3 s5 s6 G4 Fk2
 have z7 := V.Fr.size G4
 try simp only [V.cellsL, V.spliceL] at Fk2
 refine V.ru 1 ?_
 refine V.nt ?_
 refine V.sr ?_
 replace FDc := FDc.gr G4
 refine V.loadO T_ok FDc rfl rfl rfl rfl rfl ?_
 refine V.ofStr Tryz.underlying9 Tryz.underlying31 Tryz.underlying5 rfl rfl rfl rfl (by omega) ?_
 rintro a8 c9 w11 G12 s13 F10
 have z14 := V.Fr.size G12
 refine V.call (decode_spec F10 (fun k hk => by have := hk.2; omega) V.lenA) rfl rfl rfl ?_
 rintro _ w18 ⟨a15, c16, rfl, F17, G19⟩
 have z20 := V.Fr.size G19
 refine V.ru 2 ?_
 replace Fk2 := Fk2.gr (G12.trans G19)
 refine V.storeO Fk2 rfl rfl rfl rfl sz41 rfl rfl rfl rfl ?_
 rintro w21 G22 z24 Fs23
 clear Fk2
 have z25 := V.Fr.size G22
 have Fk2 := Fs23; clear Fs23
 simp only [V.spliceL, V.cellsL] at Fk2
 refine V.ru 1 ?_
 refine V.nt ?_
 refine V.ret ?_
 refine V.done2 rfl (V.resV_cell T_ok Fk2 rfl rfl) (V.resV_tmp rfl) ?_
 replace F17 := F17.ma G22
 replace HG := HG.grow (G4.trans (G12.trans G19))
 replace HG := HG.n1 G22
 exact ⟨a15, c16, (by first | rfl | simp only [List.length_set]), F17.re, HG⟩

set_option maxHeartbeats 900000 in
set_option maxRecDepth 10000 in
theorem mtake_cmd {w : World} {kt k kx off ty : Nat} {cs : List Value} {D : Nat → Prop} {d : List UInt8} {bad : Bool} (Ft : Cells w kt [.pointer (some ⟨k, 0, none⟩), .bool bad] 105) (FX : Rd w k D d) (Fx : Cells w kx cs ty) (hle : Nat.ble (off + 22) cs.length = true) (n1 : kt ≠ k) (n2 : kx ≠ k) (n3 : kx ≠ kt) (n4 : ¬ D kx) (n5 : ¬ D kt) {kD : Nat} {s : ByteArray} (FDc : Cells w kD [.string s] 9) (hs : s.size ≤ 140737488355328)   :
    Meets Tryz.prog 63 [.pointer (some ⟨kt, 0, none⟩), .pointer (some ⟨kx, off, none⟩), .func (.func 64) #[] #[.pointer (some ⟨kD, 0, none⟩)]] w fun r w' => ∃ (ra97 : Option Addr) (rc97 : Nat), r = .tuple #[] ∧ Cells w' kt [.pointer (some ⟨k, 0, none⟩), .bool (bad || decide (¬ (if (decC s.data.toList).isSome = true then (0 : Int) else 131) = 0))] 105 ∧ Cells w' kx (V.spliceL cs off [.int .i64 (((decC s.data.toList).getD cmdZ).kd), .int .i64 (((decC s.data.toList).getD cmdZ).id), .int .i64 (((decC s.data.toList).getD cmdZ).le), .int .i64 (((decC s.data.toList).getD cmdZ).nd), .int .i64 (((decC s.data.toList).getD cmdZ).ti), .int .i64 (((decC s.data.toList).getD cmdZ).te), .string (((decC s.data.toList).getD cmdZ).an), .int .i64 (((decC s.data.toList).getD cmdZ).sw), .int .i64 (((decC s.data.toList).getD cmdZ).sl), .int .i64 (((decC s.data.toList).getD cmdZ).sq), .string (((decC s.data.toList).getD cmdZ).fr), .string (((decC s.data.toList).getD cmdZ).to), .string (((decC s.data.toList).getD cmdZ).va), .bool (((decC s.data.toList).getD cmdZ).go), .int .i64 (((decC s.data.toList).getD cmdZ).aw), .int .i64 (((decC s.data.toList).getD cmdZ).al), .int .i64 (((decC s.data.toList).getD cmdZ).lw), .int .i64 (((decC s.data.toList).getD cmdZ).ll), .bool (((decC s.data.toList).getD cmdZ).cm), .bool (((decC s.data.toList).getD cmdZ).st), .slice ra97 (((decC s.data.toList).getD cmdZ).ws).length rc97, .int .i64 (((decC s.data.toList).getD cmdZ).pr)]) ty ∧ V.Row V.Cod.write 78 w' V.None' w.heap.size w'.heap.size ra97 rc97 ((decC s.data.toList).getD cmdZ).ws ∧ Fr [kt, kx] w w' := by
 have hkl := FX.lt
 have hnk := FX.nk
 replace FX := FX.flb
 have hktl := Ft.lt
 have hkxl := Fx.lt
 have hkDl := FDc.lt
 have HG := V.Fr.refl [kt, kx] w
 refine V.enter (n := 27) Tryz.func63 rfl rfl (by decide) rfl ?_
 refine V.sr ?_
 refine V.ru 1 ?_
 refine V.call (mtk_cmd1 (FDc := FDc) (hs := by omega)) rfl rfl rfl ?_
 rintro _ w4 ⟨a1, c2, rfl, F3, G5⟩
 have z6 := V.Fr.size G5
 refine V.ru 3 ?_
 refine V.alloc zero41 rfl rfl rfl ?_
 rintro k7 w9 s11 s12 G10 Fk8
 have z13 := V.Fr.size G10
 try simp only [V.cellsL, V.spliceL] at Fk8
 refine V.storeO Fk8 rfl rfl rfl rfl sz41 rfl rfl rfl rfl ?_
 rintro w14 G15 z17 Fs16
 clear Fk8
 have z18 := V.Fr.size G15
 have Fk8 := Fs16; clear Fs16
 simp only [V.spliceL, V.cellsL] at Fk8
 refine V.ru 1 ?_
 refine V.nt ?_
 refine V.seq ?_
 replace F3 := F3.gr G10
 replace F3 := F3.ma G15
 generalize hcv : (decC s.data.toList).getD cmdZ = cv_ at F3 Fk8 ⊢
 generalize hce : (if (decC s.data.toList).isSome = true then (0 : Int) else 131) = ce_ at ⊢
 refine V.region ?_
 refine V.ru 4 ?_
 replace Ft := Ft.gr (G5.trans G10)
 replace Ft := Ft.ma G15
 refine V.loadO T_ok Ft rfl rfl rfl rfl rfl ?_
 refine V.ru 1 ?_
 refine V.orG T_ok 2 5 18 rfl rfl rfl rfl rfl rfl rfl rfl ?_
 refine V.ru 2 ?_
 refine V.storeO Ft rfl rfl rfl rfl sz4 rfl rfl rfl rfl ?_
 rintro w19 G20 z22 Fs21
 clear Ft
 have z23 := V.Fr.size G20
 have Ft := Fs21; clear Fs21
 simp only [V.spliceL, V.cellsL] at Ft
 refine V.nt ?_
 refine V.region ?_
 refine V.ru 1 ?_
 replace Fk8 := Fk8.ma G20
 refine V.loadO T_ok Fk8 rfl rfl rfl rfl rfl ?_
 refine V.ru 1 ?_
 replace Fx := Fx.gr (G5.trans G10)
 replace Fx := Fx.ma G15
 replace Fx := Fx.ma G20
 refine V.storeO Fx rfl rfl rfl rfl sz41 hle rfl rfl rfl ?_
 rintro w24 G25 z26 Fs27
 clear Fx
 have z28 := V.Fr.size G25
 have Fx := Fs27; clear Fs27
 refine V.nil ?_
 refine V.doneN rfl ?_
 replace F3 := F3.ma G20
 replace F3 := F3.ma G25
 replace Ft := Ft.ma G25
 replace HG := HG.grow (G5.trans G10)
 replace HG := HG.n1 G15
 replace HG := HG.n1 G20
 replace HG := HG.n1 G25
 exact ⟨_, _, rfl, Ft, Fx, F3.re, HG⟩

end Go.Proofs.YtmmgmkklakkooaaGreat
