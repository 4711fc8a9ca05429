/- Proved here: walks: what functions of this seat's program return and what they leave of memory, each as a contract. Conditions: stated at each theorem. -/
import Derived.Test.YtmmgmkklakkooaaGreatMbag3
namespace Go.Proofs.YtmmgmkklakkooaaGreat
set_option linter.unusedVariables false
set_option linter.unusedSimpArgs false
open Go
open V (Bytes Meets Env Sl Own Gr Fr Cells S)
theorem decM_none {b : List UInt8} (h : ¬ (wholeB b).2 = 0) : decMsg b = none := decM_no1 h

theorem decM_flip {m : MsgV} {k : Nat} (h : encE m = 0) (hk : k < 8 * (encM m).length - 64) : decMsg (flip1 (encM m) (64 + k)) = none := by
  obtain ⟨h1, h2, h3, h4⟩ := encM_ok h
  rw [h3] at hk ⊢
  rw [frm_len] at hk
  have := first_flip (b := bodyM m) (t := []) h2 (k := k) (by omega)
  rw [List.append_nil] at this
  exact decM_none (by rw [whole_none this]; decide)


abbrev mb : MsgV := ⟨1, 0, 1, 0, 4, 0, 0, 0, false, [], [], 0, 0, cmdZ, resZ⟩
theorem mb_ok : encE mb = 0 := by decide +kernel
theorem mb_sz : SzM mb := ⟨szZ, szRZ⟩
theorem mb_dec : decMsg (encM mb) = some mb := decM_enc mb_ok
theorem mb_len : 8 * (encM mb).length > 80 := by decide +kernel
theorem al_put : putL [] mb = [encM mb] := if_pos ⟨mb_ok, by simp⟩
theorem al_e : putE [] mb = 0 := (if_pos mb_ok).trans (if_neg (by simp))
theorem al_tw : twcL (putL [] mb) 0 = [encM mb, encM mb] := by rw [al_put]; rfl
theorem al_sp : spL (twcL (putL [] mb) 0) 0 70 = [flip1 (encM mb) (64 + 6), encM mb] := by
  rw [al_tw]
  have e : spK (encM mb).length 70 = 70 := by
    have := mb_len
    unfold spK; rw [if_neg (by decide), Int.emod_eq_of_lt (by decide) (by omega)]; rfl
  unfold spL
  rw [if_pos (by simp)]
  show [encM mb, encM mb].set 0 (flip1 (encM mb) (spK (encM mb).length 70)) = _
  rw [e]; rfl
theorem al_fl : decMsg (flip1 (encM mb) (64 + 6)) = none := decM_flip mb_ok (by have := mb_len; omega)
theorem al_look : lookB (spL (twcL (putL [] mb) 0) 0 70) 0 = false := by
  rw [al_sp]; show (decMsg (flip1 (encM mb) (64 + 6))).isSome = false; rw [al_fl]; rfl
theorem al_t1 : takeE (spL (twcL (putL [] mb) 0) 0 70) 1 = 0 := by
  rw [al_sp]; show (if (decMsg (encM mb)).isSome = true then (0 : Int) else 181) = 0; rw [mb_dec]; rfl
theorem al_m1 : lookM (spL (twcL (putL [] mb) 0) 0 70) 1 = mb := by
  rw [al_sp]; show (decMsg (encM mb)).getD msgZ = mb; rw [mb_dec]; rfl
theorem al_d1 : delL (spL (twcL (putL [] mb) 0) 0 70) 1 = [flip1 (encM mb) (64 + 6)] := by rw [al_sp]; rfl
theorem al_t2 : takeE (delL (spL (twcL (putL [] mb) 0) 0 70) 1) 0 = 181 := by
  rw [al_d1]; show (if (decMsg (flip1 (encM mb) (64 + 6))).isSome = true then (0 : Int) else 181) = 181; rw [al_fl]; rfl
theorem al_d2 : delL (delL (spL (twcL (putL [] mb) 0) 0 70) 1) 0 = [] := by rw [al_d1]; rfl

set_option maxHeartbeats 900000 in
set_option maxRecDepth 10000 in
theorem balive_spec {w : World}    :
    Meets Tryz.prog 24 [] w fun r w' => r = .bool true ∧ Gr w w' := by
 have HG := V.Fr.refl [] w
 refine V.enter (n := 56) Tryz.func24 rfl rfl (by decide) rfl ?_
 refine V.sr ?_
 refine V.ru 1 ?_
 refine V.nt ?_
 refine V.sr ?_
 refine V.call (bnew_spec) rfl rfl rfl ?_
 rintro _ w8 ⟨k1, g2, B3, rfl, ⟨h4l, h4u⟩, F5, h6, h7, G9⟩
 have z10 := V.Fr.size G9
 refine V.ru 1 ?_
 refine V.nt ?_
 refine V.seq ?_
 have hz : SzM mb := mb_sz
 have hb11 := F5.bl
 have hb11g := F5.gl
 have hb11k := F5.lt
 refine V.region ?_
 refine V.ru 1 ?_
 refine V.mkStruct T_ok zero50 rfl rfl rfl rfl rfl ?_
 refine V.call (bput_spec (mm := (⟨1, 0, 1, 0, 4, 0, 0, 0, false, [], [], 0, 0, (⟨0, 0, 0, 0, 0, 0, ByteArray.empty, 0, 0, 0, ByteArray.empty, ByteArray.empty, ByteArray.empty, false, 0, 0, 0, 0, false, false, [], 0⟩ : CmdV), (⟨0, 0, 0, [], false, 0, 0, ByteArray.empty, 0, 0, (⟨0, 0, 0, 0, 0, 0, 0, []⟩ : RecV)⟩ : ResV)⟩ : MsgV)) F5 (Sl.nil _ _ V.None' _ _ (Nat.zero_le _)) (fun _ h => h.elim) (Sl.nil _ _ V.None' _ _ (Nat.zero_le _)) (fun _ h => h.elim) (Sl.nil _ _ V.None' _ _ (Nat.zero_le _)) (fun _ h => h.elim) (Sl.nil _ _ V.None' _ _ (Nat.zero_le _)) (fun _ h => h.elim) (Sl.nil _ _ V.None' _ _ (Nat.zero_le _)) (fun _ h => h.elim) (by first | (with_reducible assumption) | exact hz)) rfl rfl rfl ?_
 rintro _ w17 ⟨g12, B13, rfl, F14, h15, h16, G18⟩
 obtain ⟨w19, G20, G21⟩ := V.Fr.two G18
 have z22 := V.Fr.size G20
 have z23 := V.Fr.size G21
 refine V.ru 1 ?_
 refine V.nt ?_
 refine V.seq ?_
 have hb24 := F14.bl
 have hb24g := F14.gl
 have hb24k := F14.lt
 refine V.region ?_
 refine V.ru 1 ?_
 refine V.call (btwice_spec (i := 0) F14) rfl rfl rfl ?_
 rintro _ w30 ⟨g25, B26, rfl, F27, h28, h29, G31⟩
 obtain ⟨w32, G33, G34⟩ := V.Fr.two G31
 have z35 := V.Fr.size G33
 have z36 := V.Fr.size G34
 refine V.nt ?_
 refine V.seq ?_
 have hb37 := F27.bl
 have hb37g := F27.gl
 have hb37k := F27.lt
 refine V.region ?_
 refine V.ru 1 ?_
 refine V.call (bspoil_spec (i := 0) (bit := 70) F27 (by omega)) rfl rfl rfl ?_
 rintro _ w43 ⟨g38, B39, rfl, F40, h41, h42, G44⟩
 obtain ⟨w45, G46, G47⟩ := V.Fr.two G44
 have z48 := V.Fr.size G46
 have z49 := V.Fr.size G47
 refine V.nt ?_
 refine V.seq ?_
 have hb50 := F40.bl
 have hb50g := F40.gl
 have hb50k := F40.lt
 refine V.region ?_
 refine V.ru 1 ?_
 refine V.call (blook_spec (i := 0) F40) rfl rfl rfl ?_
 rintro _ w66 ⟨a51, c52, a53, c54, a55, c56, a57, c58, a59, c60, rfl, F61, F62, F63, F64, F65, G67⟩
 have z68 := V.Fr.size G67
 refine V.ru 3 ?_
 replace F40 := F40.gr G67
 have hb69 := F40.bl
 have hb69g := F40.gl
 have hb69k := F40.lt
 refine V.alloc zero50 rfl rfl rfl ?_
 rintro k70 w72 s74 s75 G73 Fk71
 have z76 := V.Fr.size G73
 try simp only [V.cellsL, V.spliceL] at Fk71
 refine V.storeO Fk71 rfl rfl rfl rfl sz50 rfl rfl rfl rfl ?_
 rintro w77 G78 z80 Fs79
 clear Fk71
 have z81 := V.Fr.size G78
 have Fk71 := Fs79; clear Fs79
 simp only [V.spliceL, V.cellsL] at Fk71
 refine V.ru 1 ?_
 refine V.nt ?_
 refine V.sr ?_
 refine V.ru 1 ?_
 replace F40 := F40.gr G73
 replace F40 := F40.mv1 G78 (by (try dsimp only [V.In]); first | omega | grind)
 refine V.call (btake_spec (i := 1) F40) rfl rfl rfl ?_
 rintro _ w102 ⟨a82, c83, a84, c85, a86, c87, a88, c89, a90, c91, g92, B93, rfl, F94, F95, F96, F97, F98, F99, h100, h101, G103⟩
 obtain ⟨w104, G105, G106⟩ := V.Fr.two G103
 have z107 := V.Fr.size G105
 have z108 := V.Fr.size G106
 refine V.ru 3 ?_
 have hb109 := F99.bl
 have hb109g := F99.gl
 have hb109k := F99.lt
 refine V.alloc zero50 rfl rfl rfl ?_
 rintro k110 w112 s114 s115 G113 Fk111
 have z116 := V.Fr.size G113
 try simp only [V.cellsL, V.spliceL] at Fk111
 refine V.storeO Fk111 rfl rfl rfl rfl sz50 rfl rfl rfl rfl ?_
 rintro w117 G118 z120 Fs119
 clear Fk111
 have z121 := V.Fr.size G118
 have Fk111 := Fs119; clear Fs119
 simp only [V.spliceL, V.cellsL] at Fk111
 refine V.ru 1 ?_
 refine V.nt ?_
 refine V.sr ?_
 refine V.ru 1 ?_
 replace F99 := F99.gr G113
 replace F99 := F99.mv1 G118 (by (try dsimp only [V.In]); first | omega | grind)
 refine V.call (btake_spec (i := 0) F99) rfl rfl rfl ?_
 rintro _ w142 ⟨a122, c123, a124, c125, a126, c127, a128, c129, a130, c131, g132, B133, rfl, F134, F135, F136, F137, F138, F139, h140, h141, G143⟩
 obtain ⟨w144, G145, G146⟩ := V.Fr.two G143
 have z147 := V.Fr.size G145
 have z148 := V.Fr.size G146
 refine V.ru 3 ?_
 have hb149 := F139.bl
 have hb149g := F139.gl
 have hb149k := F139.lt
 refine V.alloc zero50 rfl rfl rfl ?_
 rintro k150 w152 s154 s155 G153 Fk151
 have z156 := V.Fr.size G153
 try simp only [V.cellsL, V.spliceL] at Fk151
 refine V.storeO Fk151 rfl rfl rfl rfl sz50 rfl rfl rfl rfl ?_
 rintro w157 G158 z160 Fs159
 clear Fk151
 have z161 := V.Fr.size G158
 have Fk151 := Fs159; clear Fs159
 simp only [V.spliceL, V.cellsL] at Fk151
 refine V.ru 1 ?_
 refine V.nt ?_
 refine V.sr ?_
 refine V.ru 3 ?_
 refine V.splitT (j := 2) (t := 34) rfl rfl (by (first | exact decide_eq_true al_e | exact congrArg Bool.not al_look | exact decide_eq_true al_t1 | exact decide_eq_true al_t2 | exact decide_eq_true (congrArg MsgV.te al_m1))) ?_
 refine V.ru 4 ?_
 refine V.splitT (j := 6) (t := 38) rfl rfl (by (first | exact decide_eq_true al_e | exact congrArg Bool.not al_look | exact decide_eq_true al_t1 | exact decide_eq_true al_t2 | exact decide_eq_true (congrArg MsgV.te al_m1))) ?_
 refine V.ru 4 ?_
 refine V.splitT (j := 10) (t := 42) rfl rfl (by (first | exact decide_eq_true al_e | exact congrArg Bool.not al_look | exact decide_eq_true al_t1 | exact decide_eq_true al_t2 | exact decide_eq_true (congrArg MsgV.te al_m1))) ?_
 refine V.ru 1 ?_
 refine V.yes rfl rfl rfl ?_
 replace Fk111 := Fk111.ma G145
 replace Fk111 := Fk111.ma G146
 replace Fk111 := Fk111.gr G153
 replace Fk111 := Fk111.ma G158
 refine V.loadO T_ok Fk111 rfl rfl rfl rfl rfl ?_
 refine V.ru 3 ?_
 refine V.splitT (j := 15) (t := 47) rfl rfl (by (first | exact decide_eq_true al_e | exact congrArg Bool.not al_look | exact decide_eq_true al_t1 | exact decide_eq_true al_t2 | exact decide_eq_true (congrArg MsgV.te al_m1))) ?_
 refine V.ru 4 ?_
 refine V.splitT (j := 19) (t := 51) rfl rfl (by (first | exact decide_eq_true al_e | exact congrArg Bool.not al_look | exact decide_eq_true al_t1 | exact decide_eq_true al_t2 | exact decide_eq_true (congrArg MsgV.te al_m1))) ?_
 refine V.ru 1 ?_
 refine V.yes rfl rfl rfl ?_
 replace F139 := F139.gr G153
 replace F139 := F139.mv1 G158 (by (try dsimp only [V.In]); first | omega | grind)
 refine V.call (blen_spec F139) rfl rfl rfl ?_
 rintro _ w162 ⟨rfl, G163⟩
 have z164 := V.Fr.size G163
 refine V.ru 3 ?_
 refine V.nt ?_
 refine V.ret ?_
 refine V.done rfl ?_
 replace HG := HG.grow G9
 replace HG := HG.n1 G20
 replace HG := HG.n1 G21
 replace HG := HG.n1 G33
 replace HG := HG.n1 G34
 replace HG := HG.n1 G46
 replace HG := HG.n1 G47
 replace HG := HG.grow (G67.trans G73)
 replace HG := HG.n1 G78
 replace HG := HG.n1 G105
 replace HG := HG.n1 G106
 replace HG := HG.grow G113
 replace HG := HG.n1 G118
 replace HG := HG.n1 G145
 replace HG := HG.n1 G146
 replace HG := HG.grow G153
 replace HG := HG.n1 G158
 replace HG := HG.grow G163
 exact ⟨congrArg Value.bool (congrArg (fun z : List (List UInt8) => decide ((z.length : Int) = 0)) al_d2), HG⟩

end Go.Proofs.YtmmgmkklakkooaaGreat
