/- Proved here: walks: what functions of this seat's program return and what they leave of memory, each as a contract. Conditions: stated at each theorem. -/
import Derived.Test.YtooiimhcfgjbgaaMmsg6
namespace Go.Proofs.Ytooiimhcfgjbgaa
set_option linter.unusedVariables false
set_option linter.unusedSimpArgs false
open Go
open V (Bytes Meets Env Sl Own Gr Fr Cells S)

abbrev m0 : MsgV := ⟨3, 0, 1, 0, 3, 0, 0, 0, false, [(2, [120])], [], 0, 0, cmdZ, resZ⟩
abbrev m1 : MsgV := ⟨7, 2, 0, 0, 0, 0, 0, 0, false, [], [], 0, 0, cmdZ, ⟨0, 0, 0, [(V.S [107], V.S [118])], true, 0, 0, S [], 0, 0, recZ0⟩⟩
theorem m0_ok : encE m0 = 0 := by decide +kernel
theorem m1_ok : encE m1 = 0 := by decide +kernel
theorem m0_dec : decMsg (encM m0) = some m0 := decM_enc m0_ok
theorem m1_dec : decMsg (encM m1) = some m1 := decM_enc m1_ok
theorem kvOk1 : kvOk [(V.S [107], V.S [118])] := by intro x hx; rw [List.mem_singleton.1 hx]; exact ⟨by decide, by decide⟩
theorem m0_sz : SzM m0 := ⟨szZ, szRZ⟩
theorem m1_sz : SzM m1 := ⟨szZ, ⟨kvOk1, by decide, fun _ h => by cases h⟩⟩
set_option maxHeartbeats 900000 in
set_option maxRecDepth 10000 in
theorem alive_spec {w : World}    :
    Meets Try.prog 7 [] w fun r w' => r = .bool true ∧ Gr w w' := by
 have HG := V.Fr.refl [] w
 refine V.enter (n := 75) Try.func7 rfl rfl (by decide) rfl ?_
 refine V.sr ?_
 refine V.ru 1 ?_
 refine V.nt ?_
 refine V.sr ?_
 refine V.mkMark (xs := ([120] : List UInt8)) T_ok zero5 rfl rfl sz5 rfl rfl rfl rfl rfl rfl Try.underlying5 rfl rfl rfl rfl rfl rfl ?_
 rintro k1 w4 s6 s7 G5 F3
 have z8 := V.Fr.size G5
 replace HG := HG.grow G5
 refine V.mkStruct T_ok zero56 rfl rfl rfl rfl rfl ?_
 refine V.mkSlice T_ok zero56 rfl rfl sz56 rfl rfl rfl rfl rfl rfl ?_
 rintro k9 w12 s14 s15 G13 Fk10
 have z16 := V.Fr.size G13
 try replace F3 := F3.gr G13
 replace HG := HG.grow G13
 have F11 : Sl V.Cod.ent w12 (fun k => k = k9 ∨ (V.In w.heap.size w4.heap.size) k) (some ⟨k9, 0, none⟩) ([(2, ([120] : List UInt8))] : List (Int × List UInt8)).length ([(2, ([120] : List UInt8))] : List (Int × List UInt8)) := V.Cells.sl Fk10 (V.reps_cons (x := (2, ([120] : List UInt8))) ⟨_, _, rfl, rfl, ⟨_, _, rfl, F3.mono (fun k h => .inr (h))⟩⟩ rfl rfl) (.inl rfl) (by simp [maxLen])
 have hDu17 : ∀ k, (fun k => k = k9 ∨ (V.In w.heap.size w4.heap.size) k) k → k < w12.heap.size := by intro k h; (try dsimp only at h); rcases h with h | h <;> first | omega | (have := h.2; omega) | (have := h.1; omega) | (have := hD k h; omega)
 refine V.mkStruct T_ok zero43 rfl rfl rfl rfl rfl ?_
 refine V.alloc zero43 rfl rfl rfl ?_
 rintro k18 w20 s22 s23 G21 Fk19
 have z24 := V.Fr.size G21
 try replace F3 := F3.gr G21
 try replace Fk10 := Fk10.gr G21
 try replace F11 := F11.gr G21
 replace HG := HG.grow G21
 try simp only [V.cellsL, V.spliceL] at Fk19
 refine V.storeO Fk19 rfl rfl rfl rfl sz43 rfl rfl rfl rfl ?_
 rintro w25 G26 z28 Fs27
 clear Fk19
 have z29 := V.Fr.size G26
 try replace F3 := F3.ma G26
 try replace Fk10 := Fk10.ma G26
 try replace F11 := F11.mb G26 hDu17
 replace HG := HG.n1 G26
 have Fk19 := Fs27; clear Fs27
 simp only [V.spliceL, V.cellsL] at Fk19
 refine V.nt ?_
 refine V.seq ?_
 have hz : SzM m0 := m0_sz
 refine V.region ?_
 refine V.loadO T_ok Fk19 rfl rfl rfl rfl rfl ?_
 refine V.call (mencode_spec (mm := (⟨3, 0, 1, 0, 3, 0, 0, 0, false, ([(2, ([120] : List UInt8))] : List (Int × List UInt8)), [], 0, 0, (⟨0, 0, 0, 0, 0, 0, ByteArray.empty, 0, 0, 0, ByteArray.empty, ByteArray.empty, ByteArray.empty, false, 0, 0, 0, 0, false, false, [], 0⟩ : CmdV), (⟨0, 0, 0, [], false, 0, 0, ByteArray.empty, 0, 0, (⟨0, 0, 0, 0, 0, 0, 0, []⟩ : RecV)⟩ : ResV)⟩ : MsgV)) F11 (fun k hk => by have := hDu17 k hk; omega) (Sl.nil _ _ V.None' _ _ (Nat.zero_le _)) (fun _ h => h.elim) (Sl.nil _ _ V.None' _ _ (Nat.zero_le _)) (fun _ h => h.elim) (Sl.nil _ _ V.None' _ _ (Nat.zero_le _)) (fun _ h => h.elim) (Sl.nil _ _ V.None' _ _ (Nat.zero_le _)) (fun _ h => h.elim) (by first | (with_reducible assumption) | exact hz)) rfl rfl rfl ?_
 rintro _ w33 ⟨a30, c31, rfl, F32, G34⟩
 have z35 := V.Fr.size G34
 try replace F3 := F3.gr G34
 try replace Fk10 := Fk10.gr G34
 try replace F11 := F11.gr G34
 try replace Fk19 := Fk19.gr G34
 replace HG := HG.grow G34
 refine V.ru 5 ?_
 refine V.nt ?_
 refine V.seq ?_
 have hr36 : encM (⟨3, 0, 1, 0, 3, 0, 0, 0, false, ([(2, ([120] : List UInt8))] : List (Int × List UInt8)), [], 0, 0, (⟨0, 0, 0, 0, 0, 0, ByteArray.empty, 0, 0, 0, ByteArray.empty, ByteArray.empty, ByteArray.empty, false, 0, 0, 0, 0, false, false, [], 0⟩ : CmdV), (⟨0, 0, 0, [], false, 0, 0, ByteArray.empty, 0, 0, (⟨0, 0, 0, 0, 0, 0, 0, []⟩ : RecV)⟩ : ResV)⟩ : MsgV) = encM m0 := rfl
 rw [hr36] at F32 ⊢
 clear hr36
 have hlm0 := m0_ok
 have hlnm0 : (encM m0).length ≤ 70000 := by obtain ⟨y1, y2, y3, y4⟩ := encM_ok m0_ok; rw [y3, frm_len]; omega
 refine V.region ?_
 refine V.ru 1 ?_
 refine V.call (mdecode_spec F32.sl (fun k hk => by have := hk.2; omega) V.lenA) rfl rfl rfl ?_
 rintro _ w52 ⟨a37, c38, a39, c40, a41, c42, a43, c44, a45, c46, rfl, F47, F48, F49, F50, F51, G53⟩
 have z54 := V.Fr.size G53
 try replace F3 := F3.gr G53
 try replace Fk10 := Fk10.gr G53
 try replace F11 := F11.gr G53
 try replace Fk19 := Fk19.gr G53
 try replace F32 := F32.gr G53
 replace HG := HG.grow G53
 refine V.ru 3 ?_
 refine V.alloc zero43 rfl rfl rfl ?_
 rintro k55 w57 s59 s60 G58 Fk56
 have z61 := V.Fr.size G58
 try replace F3 := F3.gr G58
 try replace Fk10 := Fk10.gr G58
 try replace F11 := F11.gr G58
 try replace Fk19 := Fk19.gr G58
 try replace F32 := F32.gr G58
 try replace F47 := F47.gr G58
 try replace F48 := F48.gr G58
 try replace F49 := F49.gr G58
 try replace F50 := F50.gr G58
 try replace F51 := F51.gr G58
 replace HG := HG.grow G58
 try simp only [V.cellsL, V.spliceL] at Fk56
 refine V.storeO Fk56 rfl rfl rfl rfl sz43 rfl rfl rfl rfl ?_
 rintro w62 G63 z65 Fs64
 clear Fk56
 have z66 := V.Fr.size G63
 try replace F3 := F3.ma G63
 try replace Fk10 := Fk10.ma G63
 try replace F11 := F11.mb G63 hDu17
 try replace Fk19 := Fk19.ma G63
 try replace F32 := F32.ma G63
 try replace F47 := F47.ma G63
 try replace F48 := F48.ma G63
 try replace F49 := F49.ma G63
 try replace F50 := F50.ma G63
 try replace F51 := F51.ma G63
 replace HG := HG.n1 G63
 have Fk56 := Fs64; clear Fs64
 simp only [V.spliceL, V.cellsL] at Fk56
 refine V.ru 1 ?_
 refine V.nt ?_
 refine V.sr ?_
 refine V.mkStruct T_ok zero58 rfl rfl rfl rfl rfl ?_
 refine V.mkSlice T_ok zero58 rfl rfl sz58 rfl rfl rfl rfl rfl rfl ?_
 rintro k67 w70 s72 s73 G71 Fk68
 have z74 := V.Fr.size G71
 try replace F3 := F3.gr G71
 try replace Fk10 := Fk10.gr G71
 try replace F11 := F11.gr G71
 try replace Fk19 := Fk19.gr G71
 try replace F32 := F32.gr G71
 try replace F47 := F47.gr G71
 try replace F48 := F48.gr G71
 try replace F49 := F49.gr G71
 try replace F50 := F50.gr G71
 try replace F51 := F51.gr G71
 try replace Fk56 := Fk56.gr G71
 replace HG := HG.grow G71
 have F69 := V.rowOfC (xs := ([((V.S [107]), (V.S [118]))] : List (ByteArray × ByteArray))) Fk68 (C := (V.Cod.pair V.Cod.str V.Cod.str)) (V.reps_cons (x := ((V.S [107]), (V.S [118]))) ⟨_, _, rfl, rfl, rfl⟩ rfl rfl) rfl
 clear Fk68
 refine V.mkStruct T_ok zero41 rfl rfl rfl rfl rfl ?_
 refine V.mkStruct T_ok zero43 rfl rfl rfl rfl rfl ?_
 refine V.alloc zero43 rfl rfl rfl ?_
 rintro k75 w77 s79 s80 G78 Fk76
 have z81 := V.Fr.size G78
 try replace F3 := F3.gr G78
 try replace Fk10 := Fk10.gr G78
 try replace F11 := F11.gr G78
 try replace Fk19 := Fk19.gr G78
 try replace F32 := F32.gr G78
 try replace F47 := F47.gr G78
 try replace F48 := F48.gr G78
 try replace F49 := F49.gr G78
 try replace F50 := F50.gr G78
 try replace F51 := F51.gr G78
 try replace Fk56 := Fk56.gr G78
 try replace F69 := F69.gr G78
 replace HG := HG.grow G78
 try simp only [V.cellsL, V.spliceL] at Fk76
 refine V.storeO Fk76 rfl rfl rfl rfl sz43 rfl rfl rfl rfl ?_
 rintro w82 G83 z85 Fs84
 clear Fk76
 have z86 := V.Fr.size G83
 try replace F3 := F3.ma G83
 try replace Fk10 := Fk10.ma G83
 try replace F11 := F11.mb G83 hDu17
 try replace Fk19 := Fk19.ma G83
 try replace F32 := F32.ma G83
 try replace F47 := F47.ma G83
 try replace F48 := F48.ma G83
 try replace F49 := F49.ma G83
 try replace F50 := F50.ma G83
 try replace F51 := F51.ma G83
 try replace Fk56 := Fk56.ma G83
 try replace F69 := F69.ma G83
 replace HG := HG.n1 G83
 have Fk76 := Fs84; clear Fs84
 simp only [V.spliceL, V.cellsL] at Fk76
 refine V.nt ?_
 refine V.seq ?_
 have hz : SzM m1 := m1_sz
 refine V.region ?_
 refine V.loadO T_ok Fk76 rfl rfl rfl rfl rfl ?_
 refine V.call (mencode_spec (mm := (⟨7, 2, 0, 0, 0, 0, 0, 0, false, [], [], 0, 0, (⟨0, 0, 0, 0, 0, 0, ByteArray.empty, 0, 0, 0, ByteArray.empty, ByteArray.empty, ByteArray.empty, false, 0, 0, 0, 0, false, false, [], 0⟩ : CmdV), (⟨0, 0, 0, ([((V.S [107]), (V.S [118]))] : List (ByteArray × ByteArray)), true, 0, 0, ByteArray.empty, 0, 0, (⟨0, 0, 0, 0, 0, 0, 0, []⟩ : RecV)⟩ : ResV)⟩ : MsgV)) (Sl.nil _ _ V.None' _ _ (Nat.zero_le _)) (fun _ h => h.elim) (Sl.nil _ _ V.None' _ _ (Nat.zero_le _)) (fun _ h => h.elim) (Sl.nil _ _ V.None' _ _ (Nat.zero_le _)) (fun _ h => h.elim) F69.sl (fun k hk => by have := hk.2; omega) (Sl.nil _ _ V.None' _ _ (Nat.zero_le _)) (fun _ h => h.elim) (by first | (with_reducible assumption) | exact hz)) rfl rfl rfl ?_
 rintro _ w90 ⟨a87, c88, rfl, F89, G91⟩
 have z92 := V.Fr.size G91
 try replace F3 := F3.gr G91
 try replace Fk10 := Fk10.gr G91
 try replace F11 := F11.gr G91
 try replace Fk19 := Fk19.gr G91
 try replace F32 := F32.gr G91
 try replace F47 := F47.gr G91
 try replace F48 := F48.gr G91
 try replace F49 := F49.gr G91
 try replace F50 := F50.gr G91
 try replace F51 := F51.gr G91
 try replace Fk56 := Fk56.gr G91
 try replace F69 := F69.gr G91
 try replace Fk76 := Fk76.gr G91
 replace HG := HG.grow G91
 refine V.ru 5 ?_
 refine V.nt ?_
 refine V.seq ?_
 have hr93 : encM (⟨7, 2, 0, 0, 0, 0, 0, 0, false, [], [], 0, 0, (⟨0, 0, 0, 0, 0, 0, ByteArray.empty, 0, 0, 0, ByteArray.empty, ByteArray.empty, ByteArray.empty, false, 0, 0, 0, 0, false, false, [], 0⟩ : CmdV), (⟨0, 0, 0, ([((V.S [107]), (V.S [118]))] : List (ByteArray × ByteArray)), true, 0, 0, ByteArray.empty, 0, 0, (⟨0, 0, 0, 0, 0, 0, 0, []⟩ : RecV)⟩ : ResV)⟩ : MsgV) = encM m1 := rfl
 rw [hr93] at F89 ⊢
 clear hr93
 have hlm1 := m1_ok
 have hlnm1 : (encM m1).length ≤ 70000 := by obtain ⟨y1, y2, y3, y4⟩ := encM_ok m1_ok; rw [y3, frm_len]; omega
 refine V.region ?_
 refine V.ru 1 ?_
 refine V.call (mdecode_spec F89.sl (fun k hk => by have := hk.2; omega) V.lenA) rfl rfl rfl ?_
 rintro _ w109 ⟨a94, c95, a96, c97, a98, c99, a100, c101, a102, c103, rfl, F104, F105, F106, F107, F108, G110⟩
 have z111 := V.Fr.size G110
 try replace F3 := F3.gr G110
 try replace Fk10 := Fk10.gr G110
 try replace F11 := F11.gr G110
 try replace Fk19 := Fk19.gr G110
 try replace F32 := F32.gr G110
 try replace F47 := F47.gr G110
 try replace F48 := F48.gr G110
 try replace F49 := F49.gr G110
 try replace F50 := F50.gr G110
 try replace F51 := F51.gr G110
 try replace Fk56 := Fk56.gr G110
 try replace F69 := F69.gr G110
 try replace Fk76 := Fk76.gr G110
 try replace F89 := F89.gr G110
 replace HG := HG.grow G110
 refine V.ru 3 ?_
 refine V.alloc zero43 rfl rfl rfl ?_
 rintro k112 w114 s116 s117 G115 Fk113
 have z118 := V.Fr.size G115
 try replace F3 := F3.gr G115
 try replace Fk10 := Fk10.gr G115
 try replace F11 := F11.gr G115
 try replace Fk19 := Fk19.gr G115
 try replace F32 := F32.gr G115
 try replace F47 := F47.gr G115
 try replace F48 := F48.gr G115
 try replace F49 := F49.gr G115
 try replace F50 := F50.gr G115
 try replace F51 := F51.gr G115
 try replace Fk56 := Fk56.gr G115
 try replace F69 := F69.gr G115
 try replace Fk76 := Fk76.gr G115
 try replace F89 := F89.gr G115
 try replace F104 := F104.gr G115
 try replace F105 := F105.gr G115
 try replace F106 := F106.gr G115
 try replace F107 := F107.gr G115
 try replace F108 := F108.gr G115
 replace HG := HG.grow G115
 try simp only [V.cellsL, V.spliceL] at Fk113
 refine V.storeO Fk113 rfl rfl rfl rfl sz43 rfl rfl rfl rfl ?_
 rintro w119 G120 z122 Fs121
 clear Fk113
 have z123 := V.Fr.size G120
 try replace F3 := F3.ma G120
 try replace Fk10 := Fk10.ma G120
 try replace F11 := F11.mb G120 hDu17
 try replace Fk19 := Fk19.ma G120
 try replace F32 := F32.ma G120
 try replace F47 := F47.ma G120
 try replace F48 := F48.ma G120
 try replace F49 := F49.ma G120
 try replace F50 := F50.ma G120
 try replace F51 := F51.ma G120
 try replace Fk56 := Fk56.ma G120
 try replace F69 := F69.ma G120
 try replace Fk76 := Fk76.ma G120
 try replace F89 := F89.ma G120
 try replace F104 := F104.ma G120
 try replace F105 := F105.ma G120
 try replace F106 := F106.ma G120
 try replace F107 := F107.ma G120
 try replace F108 := F108.ma G120
 replace HG := HG.n1 G120
 have Fk113 := Fs121; clear Fs121
 simp only [V.spliceL, V.cellsL] at Fk113
 refine V.ru 1 ?_
 refine V.nt ?_
 refine V.sr ?_
 refine V.ru 3 ?_
 refine V.splitT (j := 2) (t := 42) rfl rfl (by (first | exact decide_eq_true (show encE m0 = 0 from m0_ok))) ?_
 refine V.ru 4 ?_
 refine V.splitT (j := 6) (t := 46) rfl rfl (by (rw [m0_dec]; rfl)) ?_
 refine V.ru 4 ?_
 refine V.splitT (j := 10) (t := 50) rfl rfl (by (first | exact decide_eq_true (show encE m1 = 0 from m1_ok))) ?_
 refine V.ru 4 ?_
 refine V.splitT (j := 14) (t := 54) rfl rfl (by (rw [m1_dec]; rfl)) ?_
 refine V.yes rfl rfl rfl ?_
 refine V.loadO T_ok Fk56 rfl rfl rfl rfl rfl ?_
 refine V.yes rfl rfl rfl ?_
 refine V.loadO T_ok Fk19 rfl rfl rfl rfl rfl ?_
 refine V.yes rfl rfl rfl ?_
 refine V.call (msame_spec (a := ((decMsg (encM m0)).getD msgZ)) (b := (⟨3, 0, 1, 0, 3, 0, 0, 0, false, ([(2, ([120] : List UInt8))] : List (Int × List UInt8)), [], 0, 0, (⟨0, 0, 0, 0, 0, 0, ByteArray.empty, 0, 0, 0, ByteArray.empty, ByteArray.empty, ByteArray.empty, false, 0, 0, 0, 0, false, false, [], 0⟩ : CmdV), (⟨0, 0, 0, [], false, 0, 0, ByteArray.empty, 0, 0, (⟨0, 0, 0, 0, 0, 0, 0, []⟩ : RecV)⟩ : ResV)⟩ : MsgV)) F47.sl (fun k hk => by have := hk.2; omega) F48 (fun k hk => by have := hk.2; omega) F49.sl (fun k hk => by have := hk.2; omega) F50.sl (fun k hk => by have := hk.2; omega) F51 (fun k hk => by have := hk.2; omega) F11 (fun k hk => by have := hDu17 k hk; omega) (Sl.nil _ _ V.None' _ _ (Nat.zero_le _)) (fun _ h => h.elim) (Sl.nil _ _ V.None' _ _ (Nat.zero_le _)) (fun _ h => h.elim) (Sl.nil _ _ V.None' _ _ (Nat.zero_le _)) (fun _ h => h.elim) (Sl.nil _ _ V.None' _ _ (Nat.zero_le _)) (fun _ h => h.elim)) rfl rfl rfl ?_
 rintro _ w119_ ⟨rfl, G125⟩
 have z126 := V.Fr.size G125
 try replace F3 := F3.gr G125
 try replace Fk10 := Fk10.gr G125
 try replace F11 := F11.gr G125
 try replace Fk19 := Fk19.gr G125
 try replace F32 := F32.gr G125
 try replace F47 := F47.gr G125
 try replace F48 := F48.gr G125
 try replace F49 := F49.gr G125
 try replace F50 := F50.gr G125
 try replace F51 := F51.gr G125
 try replace Fk56 := Fk56.gr G125
 try replace F69 := F69.gr G125
 try replace Fk76 := Fk76.gr G125
 try replace F89 := F89.gr G125
 try replace F104 := F104.gr G125
 try replace F105 := F105.gr G125
 try replace F106 := F106.gr G125
 try replace F107 := F107.gr G125
 try replace F108 := F108.gr G125
 try replace Fk113 := Fk113.gr G125
 replace HG := HG.grow G125
 refine V.ru 2 ?_
 refine V.splitT (j := 19) (t := 59) rfl rfl (by (rw [m0_dec]; exact smM_self m0)) ?_
 refine V.yes rfl rfl rfl ?_
 refine V.loadO T_ok Fk113 rfl rfl rfl rfl rfl ?_
 refine V.yes rfl rfl rfl ?_
 refine V.loadO T_ok Fk76 rfl rfl rfl rfl rfl ?_
 refine V.yes rfl rfl rfl ?_
 refine V.call (msame_spec (a := ((decMsg (encM m1)).getD msgZ)) (b := (⟨7, 2, 0, 0, 0, 0, 0, 0, false, [], [], 0, 0, (⟨0, 0, 0, 0, 0, 0, ByteArray.empty, 0, 0, 0, ByteArray.empty, ByteArray.empty, ByteArray.empty, false, 0, 0, 0, 0, false, false, [], 0⟩ : CmdV), (⟨0, 0, 0, ([((V.S [107]), (V.S [118]))] : List (ByteArray × ByteArray)), true, 0, 0, ByteArray.empty, 0, 0, (⟨0, 0, 0, 0, 0, 0, 0, []⟩ : RecV)⟩ : ResV)⟩ : MsgV)) F104.sl (fun k hk => by have := hk.2; omega) F105 (fun k hk => by have := hk.2; omega) F106.sl (fun k hk => by have := hk.2; omega) F107.sl (fun k hk => by have := hk.2; omega) F108 (fun k hk => by have := hk.2; omega) (Sl.nil _ _ V.None' _ _ (Nat.zero_le _)) (fun _ h => h.elim) (Sl.nil _ _ V.None' _ _ (Nat.zero_le _)) (fun _ h => h.elim) (Sl.nil _ _ V.None' _ _ (Nat.zero_le _)) (fun _ h => h.elim) F69.sl (fun k hk => by have := hk.2; omega) (Sl.nil _ _ V.None' _ _ (Nat.zero_le _)) (fun _ h => h.elim)) rfl rfl rfl ?_
 rintro _ w124_ ⟨rfl, G128⟩
 have z129 := V.Fr.size G128
 try replace F3 := F3.gr G128
 try replace Fk10 := Fk10.gr G128
 try replace F11 := F11.gr G128
 try replace Fk19 := Fk19.gr G128
 try replace F32 := F32.gr G128
 try replace F47 := F47.gr G128
 try replace F48 := F48.gr G128
 try replace F49 := F49.gr G128
 try replace F50 := F50.gr G128
 try replace F51 := F51.gr G128
 try replace Fk56 := Fk56.gr G128
 try replace F69 := F69.gr G128
 try replace Fk76 := Fk76.gr G128
 try replace F89 := F89.gr G128
 try replace F104 := F104.gr G128
 try replace F105 := F105.gr G128
 try replace F106 := F106.gr G128
 try replace F107 := F107.gr G128
 try replace F108 := F108.gr G128
 try replace Fk113 := Fk113.gr G128
 replace HG := HG.grow G128
 refine V.ru 2 ?_
 refine V.splitT (j := 24) (t := 64) rfl rfl (by (rw [m1_dec]; exact smM_self m1)) ?_
 refine V.yes rfl rfl rfl ?_
 refine V.loadO T_ok Fk56 rfl rfl rfl rfl rfl ?_
 refine V.yes rfl rfl rfl ?_
 refine V.loadO T_ok Fk113 rfl rfl rfl rfl rfl ?_
 refine V.yes rfl rfl rfl ?_
 refine V.call (msame_spec (a := ((decMsg (encM m0)).getD msgZ)) (b := ((decMsg (encM m1)).getD msgZ)) F47.sl (fun k hk => by have := hk.2; omega) F48 (fun k hk => by have := hk.2; omega) F49.sl (fun k hk => by have := hk.2; omega) F50.sl (fun k hk => by have := hk.2; omega) F51 (fun k hk => by have := hk.2; omega) F104.sl (fun k hk => by have := hk.2; omega) F105 (fun k hk => by have := hk.2; omega) F106.sl (fun k hk => by have := hk.2; omega) F107.sl (fun k hk => by have := hk.2; omega) F108 (fun k hk => by have := hk.2; omega)) rfl rfl rfl ?_
 rintro _ w127_ ⟨rfl, G131⟩
 have z132 := V.Fr.size G131
 try replace F3 := F3.gr G131
 try replace Fk10 := Fk10.gr G131
 try replace F11 := F11.gr G131
 try replace Fk19 := Fk19.gr G131
 try replace F32 := F32.gr G131
 try replace F47 := F47.gr G131
 try replace F48 := F48.gr G131
 try replace F49 := F49.gr G131
 try replace F50 := F50.gr G131
 try replace F51 := F51.gr G131
 try replace Fk56 := Fk56.gr G131
 try replace F69 := F69.gr G131
 try replace Fk76 := Fk76.gr G131
 try replace F89 := F89.gr G131
 try replace F104 := F104.gr G131
 try replace F105 := F105.gr G131
 try replace F106 := F106.gr G131
 try replace F107 := F107.gr G131
 try replace F108 := F108.gr G131
 try replace Fk113 := Fk113.gr G131
 replace HG := HG.grow G131
 refine V.ru 3 ?_
 refine V.splitT (j := 30) (t := 70) rfl rfl (by (rw [m0_dec, m1_dec]; decide +kernel)) ?_
 refine V.yes rfl rfl rfl ?_
 refine V.mkStruct T_ok zero43 rfl rfl rfl rfl rfl ?_
 refine V.yes rfl rfl rfl ?_
 have hz : SzM msgZ := ⟨szZ, szRZ⟩
 refine V.call (mright_spec (mm := (⟨0, 0, 0, 0, 0, 0, 0, 0, false, [], [], 0, 0, (⟨0, 0, 0, 0, 0, 0, ByteArray.empty, 0, 0, 0, ByteArray.empty, ByteArray.empty, ByteArray.empty, false, 0, 0, 0, 0, false, false, [], 0⟩ : CmdV), (⟨0, 0, 0, [], false, 0, 0, ByteArray.empty, 0, 0, (⟨0, 0, 0, 0, 0, 0, 0, []⟩ : RecV)⟩ : ResV)⟩ : MsgV)) (Sl.nil _ _ V.None' _ _ (Nat.zero_le _)) (fun _ h => h.elim) (Sl.nil _ _ V.None' _ _ (Nat.zero_le _)) (fun _ h => h.elim) (Sl.nil _ _ V.None' _ _ (Nat.zero_le _)) (fun _ h => h.elim) (Sl.nil _ _ V.None' _ _ (Nat.zero_le _)) (fun _ h => h.elim) (Sl.nil _ _ V.None' _ _ (Nat.zero_le _)) (fun _ h => h.elim) (by first | (with_reducible assumption) | exact hz)) rfl rfl rfl ?_
 rintro _ w133 ⟨rfl, G134⟩
 have z135 := V.Fr.size G134
 try replace F3 := F3.gr G134
 try replace Fk10 := Fk10.gr G134
 try replace F11 := F11.gr G134
 try replace Fk19 := Fk19.gr G134
 try replace F32 := F32.gr G134
 try replace F47 := F47.gr G134
 try replace F48 := F48.gr G134
 try replace F49 := F49.gr G134
 try replace F50 := F50.gr G134
 try replace F51 := F51.gr G134
 try replace Fk56 := Fk56.gr G134
 try replace F69 := F69.gr G134
 try replace Fk76 := Fk76.gr G134
 try replace F89 := F89.gr G134
 try replace F104 := F104.gr G134
 try replace F105 := F105.gr G134
 try replace F106 := F106.gr G134
 try replace F107 := F107.gr G134
 try replace F108 := F108.gr G134
 try replace Fk113 := Fk113.gr G134
 replace HG := HG.grow G134
 refine V.ru 3 ?_
 refine V.nt ?_
 refine V.ret ?_
 refine V.done rfl ?_
 exact ⟨congrArg Value.bool (by decide +kernel), HG⟩

set_option maxHeartbeats 900000 in
set_option maxRecDepth 10000 in
theorem cfits_spec {w : World} {d : CmdV} {D_o : Nat → Prop} {c_o : Nat} {a_o : Option Addr} (F_o : Sl V.Cod.write w D_o a_o c_o d.ws) (hD_o : ∀ k, D_o k → k < w.heap.size)   :
    Meets Try.prog 12 [.agg #[.int .i64 d.kd, .int .i64 d.id, .int .i64 d.le, .int .i64 d.nd, .int .i64 d.ti, .int .i64 d.te, .string d.an, .int .i64 d.sw, .int .i64 d.sl, .int .i64 d.sq, .string d.fr, .string d.to, .string d.va, .bool d.go, .int .i64 d.aw, .int .i64 d.al, .int .i64 d.lw, .int .i64 d.ll, .bool d.cm, .bool d.st, .slice a_o d.ws.length c_o, .int .i64 d.pr]] w fun r w' => ∃ (rv1 : Bool), r = .bool rv1 ∧ Gr w w' := by
 have HG := V.Fr.refl [] w
 refine V.enter (n := 48) Try.func12 rfl rfl (by decide) rfl ?_
 refine V.sr ?_
 refine V.box rfl rfl rfl rfl ?_
 rintro k1 w3 s5 s6 G4 Fk2
 have z7 := V.Fr.size G4
 try replace F_o := F_o.gr G4
 replace HG := HG.grow G4
 try simp only [V.cellsL, V.spliceL] at Fk2
 refine V.ru 1 ?_
 refine V.nt ?_
 refine V.seq ?_
 refine V.sr ?_
 refine V.ru 1 ?_
 refine V.nt ?_
 refine V.block ?_
 have hl63a := F_o.len63
 refine V.loopM (fun m e v9 => Fr [] w v9 ∧ w3.heap.size ≤ v9.heap.size ∧ Sl V.Cod.write v9 D_o a_o c_o d.ws ∧ Cells v9 k1 [.int .i64 d.kd, .int .i64 d.id, .int .i64 d.le, .int .i64 d.nd, .int .i64 d.ti, .int .i64 d.te, .string d.an, .int .i64 d.sw, .int .i64 d.sl, .int .i64 d.sq, .string d.fr, .string d.to, .string d.va, .bool d.go, .int .i64 d.aw, .int .i64 d.al, .int .i64 d.lw, .int .i64 d.ll, .bool d.cm, .bool d.st, .slice a_o d.ws.length c_o, .int .i64 d.pr] 34 ∧ ∃ (i : Nat) , m = (d.ws).length - i ∧ i ≤ (d.ws).length ∧ e 1 = .pointer (some ⟨k1, 0, none⟩) ∧ e 3 = .int .i64 (i : Int)) ?_ ?_
 ·
  exact ⟨_, HG, (by omega), F_o, Fk2, (0), rfl, (Nat.zero_le _), rfl, rfl⟩
 clear HG F_o Fk2
 rintro _ e v9 ⟨HG, z10, F_o, Fk2, i, rfl, hia, he0_1, he0_3⟩
 refine V.knownC (t := 1) he0_1 ?_
 refine V.knownC (t := 3) he0_3 ?_
 refine V.seq ?_
 refine V.sr ?_
 refine V.ru 2 ?_
 refine V.loadO T_ok Fk2 rfl rfl rfl rfl rfl ?_
 refine V.ru 2 ?_
 refine V.nt ?_
 refine V.condT rfl (fun h2 => ?_) (fun h2 => ?_)
 ·
  try replace h2 := V.dec h2
  try simp only [V.mk] at h2
  refine V.skip ?_
  refine V.tN ?_
  refine V.seq ?_
  refine V.block ?_
  refine V.sr ?_
  refine V.ru 3 ?_
  refine V.split (j := 2) (t := 13) rfl rfl (fun g4_2 => ?_) (fun g4_2 => ?_)
  ·
   try replace g4_2 := V.dec g4_2
   try simp only [V.mk] at g4_2
   refine V.ru 9 ?_
   refine V.nt ?_
   refine V.condY rfl rfl ?_
   refine V.sr ?_
   refine V.ru 1 ?_
   refine V.nt ?_
   refine V.ret ?_
   refine V.bR ?_
   refine V.tR ?_
   refine V.tR ?_
   refine V.bR ?_
   refine V.tR ?_
   refine V.done rfl ?_
   exact ⟨_, (by first | rfl | simp only [List.length_set]), HG⟩
  ·
   try replace g4_2 := V.dec g4_2
   try simp only [V.mk] at g4_2
   refine V.ru 1 ?_
   refine V.yes rfl rfl rfl ?_
   refine V.loadO T_ok Fk2 rfl rfl rfl rfl rfl ?_
   refine V.ru 1 ?_
   refine V.yes rfl rfl rfl ?_
   refine V.elem T_ok F_o rfl rfl sz60 rfl rfl rfl rfl V.lenA V.lenA ?_
   rintro b11 o12 cs13 hx14 hb15 hR18 hA16
   obtain ⟨x17, hx17⟩ : ∃ z', d.ws[((i : Int)).toNat] = z' := ⟨_, rfl⟩
   rw [hx17] at hR18
   obtain ⟨_, _, rfl, rfl, rfl⟩ := hR18
   try simp only [Int.toNat_natCast] at hx17 hx14
   refine V.ru 1 ?_
   refine V.yes rfl rfl rfl ?_
   refine V.loadA T_ok (o0 := o12) (off := 0) hA16 rfl rfl rfl rfl rfl ?_
   refine V.ru 3 ?_
   refine V.nt ?_
   refine V.condT rfl (fun h4 => ?_) (fun h4 => ?_)
   ·
    try replace h4 := V.dec h4
    try simp only [V.mk] at h4
    refine V.sr ?_
    refine V.ru 1 ?_
    refine V.nt ?_
    refine V.ret ?_
    refine V.bR ?_
    refine V.tR ?_
    refine V.tR ?_
    refine V.bR ?_
    refine V.tR ?_
    refine V.done rfl ?_
    exact ⟨_, (by first | rfl | simp only [List.length_set]), HG⟩
   ·
    try replace h4 := V.dec h4
    try simp only [V.mk] at h4
    refine V.skip ?_
    refine V.bN ?_
    refine V.tN ?_
    refine V.region ?_
    refine V.ru 1 ?_
    refine V.addN rfl rfl rfl rfl rfl V.lenA V.lenA ?_
    refine V.ru 1 ?_
    refine V.nt ?_
    exact ⟨_, (by omega), HG, (by omega), F_o, Fk2, (i + 1), rfl, (by omega), rfl, rfl⟩
 ·
  try replace h2 := V.dec h2
  try simp only [V.mk] at h2
  refine V.exit ?_
  refine V.tX ?_
  refine V.tX ?_
  refine V.bE ?_
  refine V.tN ?_
  refine V.sr ?_
  refine V.ru 2 ?_
  refine V.loadO T_ok Fk2 rfl rfl rfl rfl rfl ?_
  refine V.ru 3 ?_
  refine V.split (j := 5) (t := 28) rfl rfl (fun g6_5 => ?_) (fun g6_5 => ?_)
  ·
   try replace g6_5 := V.dec g6_5
   try simp only [V.mk] at g6_5
   refine V.ru 2 ?_
   refine V.yes rfl rfl rfl ?_
   refine V.loadO T_ok Fk2 rfl rfl rfl rfl rfl ?_
   refine V.ru 4 ?_
   refine V.split (j := 12) (t := 35) rfl rfl (fun g6_12 => ?_) (fun g6_12 => ?_)
   ·
    try replace g6_12 := V.dec g6_12
    try simp only [V.mk] at g6_12
    refine V.ru 2 ?_
    refine V.yes rfl rfl rfl ?_
    refine V.loadO T_ok Fk2 rfl rfl rfl rfl rfl ?_
    refine V.ru 4 ?_
    refine V.split (j := 19) (t := 42) rfl rfl (fun g6_19 => ?_) (fun g6_19 => ?_)
    ·
     try replace g6_19 := V.dec g6_19
     try simp only [V.mk] at g6_19
     refine V.ru 1 ?_
     refine V.yes rfl rfl rfl ?_
     refine V.loadO T_ok Fk2 rfl rfl rfl rfl rfl ?_
     refine V.ru 4 ?_
     refine V.nt ?_
     refine V.ret ?_
     refine V.done rfl ?_
     exact ⟨_, (by first | rfl | simp only [List.length_set]), HG⟩
    ·
     try replace g6_19 := V.dec g6_19
     try simp only [V.mk] at g6_19
     refine V.ru 6 ?_
     refine V.nt ?_
     refine V.ret ?_
     refine V.done rfl ?_
     exact ⟨_, (by first | rfl | simp only [List.length_set]), HG⟩
   ·
    try replace g6_12 := V.dec g6_12
    try simp only [V.mk] at g6_12
    refine V.ru 13 ?_
    refine V.nt ?_
    refine V.ret ?_
    refine V.done rfl ?_
    exact ⟨_, (by first | rfl | simp only [List.length_set]), HG⟩
  ·
   try replace g6_5 := V.dec g6_5
   try simp only [V.mk] at g6_5
   refine V.ru 20 ?_
   refine V.nt ?_
   refine V.ret ?_
   refine V.done rfl ?_
   exact ⟨_, (by first | rfl | simp only [List.length_set]), HG⟩

end Go.Proofs.Ytooiimhcfgjbgaa
