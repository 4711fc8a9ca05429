/- Proved here: walks: what functions of this seat's program return and what they leave of memory, each as a contract. Conditions: stated at each theorem. -/
import Derived.Test.YtkklebdlbmoogaaMref13
namespace Go.Proofs.Ytkklebdlbmoogaa
set_option linter.unusedVariables false
set_option linter.unusedSimpArgs false
open Go
open V (Bytes Meets Env Sl Own Gr Fr Cells S)
set_option maxHeartbeats 900000 in
set_option maxRecDepth 10000 in
theorem rencode_spec {w : World} {d : CmdV} {D_o : Nat → Prop} {c_o : Nat} {a_o : Option Addr} (F_o : Sl V.Cod.write w D_o a_o c_o d.ws) (hD_o : ∀ k, D_o k → k < w.heap.size)  (hz : SzOk d) :
    Meets Try.prog 33 [.agg #[.int .i64 d.kd, .int .i64 d.id, .int .i64 d.le, .int .i64 d.nd, .int .i64 d.ti, .int .i64 d.te, .string d.an, .int .i64 d.sw, .int .i64 d.sl, .int .i64 d.sq, .string d.fr, .string d.to, .string d.va, .bool d.go, .int .i64 d.aw, .int .i64 d.al, .int .i64 d.lw, .int .i64 d.ll, .bool d.cm, .bool d.st, .slice a_o d.ws.length c_o, .int .i64 d.pr]] w fun r w' => ∃ (ra51 : Option Addr) (rc51 : Nat), r = .tuple #[.slice ra51 (if cmdB d = true then encB d else []).length rc51, .int .i64 (if cmdB d = true then 0 else 131)] ∧ V.Row V.Cod.byte 5 w' V.None' w.heap.size w'.heap.size ra51 rc51 (if cmdB d = true then encB d else []) ∧ Gr w w' := by
 have HG := V.Fr.refl [] w
 refine V.enter (n := 90) Try.func33 rfl rfl (by decide) rfl ?_
 refine V.seq ?_
 refine V.region ?_
 refine V.box rfl rfl rfl rfl ?_
 rintro k1 w3 s5 s6 G4 Fk2
 have z7 := V.Fr.size G4
 try replace F_o := F_o.gr G4
 replace HG := HG.grow G4
 clear G4
 try simp only [V.cellsL, V.spliceL] at Fk2
 refine V.run T_ok 2 rfl ?_
 refine V.nil ?_
 refine V.tN ?_
 refine V.seq ?_
 refine V.region ?_
 refine V.loadO T_ok Fk2 rfl rfl rfl rfl rfl ?_
 refine V.call (rcright_spec (d := d) F_o (fun k hk => by have := hD_o k hk; omega) (by first | (with_reducible assumption) | exact hz | (constructor <;> first | exact hz.an | exact hz.fr | exact hz.to | exact hz.va | exact hz.ws | exact (by decide : (S []).size ≤ 9223372036854775807) | exact (fun x hx => nomatch (show x ∈ ([] : List (ByteArray × Int)) from hx))))) rfl rfl rfl ?_
 rintro _ w8 ⟨rfl, G9⟩
 have z10 := V.Fr.size G9
 try replace F_o := F_o.gr G9
 try replace Fk2 := Fk2.gr G9
 replace HG := HG.grow G9
 clear G9
 refine V.run T_ok 1 rfl ?_
 refine V.nil ?_
 refine V.tN ?_
 refine V.seq ?_
 refine V.seq ?_
 refine V.region ?_
 refine V.run T_ok 2 rfl ?_
 refine V.nil ?_
 refine V.tN ?_
 refine V.condT rfl (fun h2 => ?_) (fun h2 => ?_)
 ·
  try replace h2 := V.dec h2
  try simp only [V.mk0, V.mk1, V.mk2, V.mk3] at h2
  refine V.seq ?_
  refine V.region ?_
  refine V.run T_ok 2 rfl ?_
  refine V.nil ?_
  refine V.tN ?_
  refine V.ret ?_
  refine V.tR ?_
  refine V.done rfl ?_
  rw [if_neg (by simp [*]), if_neg (by simp [*])]
  exact ⟨none, 0, (by first | rfl | simp only [List.length_set]), V.Row.nil, HG⟩
 ·
  try replace h2 := V.dec h2
  try simp only [V.mk0, V.mk1, V.mk2, V.mk3] at h2
  refine V.skip ?_
  refine V.tN ?_
  refine V.seq ?_
  have hcb : cmdB d = true := by simpa using h2
  have hsm := cmd_small hcb
  have hs1 := hsm.s1
  have hsk := hsm.kd
  have hsi := hsm.id
  have hsl := hsm.le
  have hsn := hsm.nd
  have hst := hsm.ti
  have hse := hsm.te
  have hsq := hsm.sq
  have hsp := hsm.pr
  have hsa := hsm.an
  have hsf := hsm.fr
  have hso := hsm.to
  have hsv := hsm.va
  have hsml : small d.ws := ⟨by have := hsm.wl; omega, fun x hx => by have := hsm.wn x hx; omega⟩
  have hwl : (wrsB d.ws).length ≤ 1018 * d.ws.length := wrsB_len hsml.2
  have hwn := hsm.wl
  have hwq := numB_len9 (v := (d.ws.length : Int)) (by omega)
  rw [Int.toNat_natCast] at hwq
  have hnkd := numB_len9 (v := d.kd) (by omega)
  have hnid := numB_len9 (v := d.id) (by omega)
  have hnle := numB_len9 (v := d.le) (by omega)
  have hnnd := numB_len9 (v := d.nd) (by omega)
  have hnti := numB_len9 (v := d.ti) (by omega)
  have hnte := numB_len9 (v := d.te) (by omega)
  have hnsq := numB_len9 (v := d.sq) (by omega)
  have hnpr := numB_len9 (v := d.pr) (by omega)
  have htan : (textB d.an.data.toList).length ≤ 25 := tb_len (s := d.an) (n := 16) (by omega) (by omega)
  have htfr : (textB d.fr.data.toList).length ≤ 25 := tb_len (s := d.fr) (n := 16) (by omega) (by omega)
  have htto : (textB d.to.data.toList).length ≤ 25 := tb_len (s := d.to) (n := 16) (by omega) (by omega)
  have htva : (textB d.va.data.toList).length ≤ 25 := tb_len (s := d.va) (n := 16) (by omega) (by omega)
  have hstsw := st_len (x := d.sw) (y := d.sl) (by omega) (by omega)
  have hstaw := st_len (x := d.aw) (y := d.al) (by omega) (by omega)
  have hstlw := st_len (x := d.lw) (y := d.ll) (by omega) (by omega)
  have hflgo : (flagB d.go).length = 1 := rfl
  have hflcm : (flagB d.cm).length = 1 := rfl
  have hflst : (flagB d.st).length = 1 := rfl
  have hnb1 := nb_len (v := d.ti) (by omega)
  have hnb2 := nb_len (v := d.te) (by omega)
  have htb1 := tb_len (s := d.an) (n := 16) (by omega) (by omega)
  have hme : (nb d.ti ++ nb d.te ++ tb d.an ++ stB d.sw d.sl).length ≤ 61 := by simp only [List.length_append, nb, tb]; omega
  refine V.region ?_
  refine V.run T_ok 1 rfl ?_
  refine V.loadO T_ok Fk2 rfl rfl rfl rfl rfl ?_
  refine V.call (rp_number (v := d.kd) (by omega)) rfl rfl rfl ?_
  rintro _ w14 ⟨a11, c12, rfl, F13, G15⟩
  have z16 := V.Fr.size G15
  try replace F_o := F_o.gr G15
  try replace Fk2 := Fk2.gr G15
  replace HG := HG.grow G15
  clear G15
  refine V.run T_ok 1 rfl ?_
  refine V.nil ?_
  refine V.tN ?_
  refine V.seq ?_
  refine V.region ?_
  refine V.run T_ok 2 rfl ?_
  refine V.loadO T_ok Fk2 rfl rfl rfl rfl rfl ?_
  refine V.call (rp_number (v := d.id) (by omega)) rfl rfl rfl ?_
  rintro _ w20 ⟨a17, c18, rfl, F19, G21⟩
  have z22 := V.Fr.size G21
  try replace F_o := F_o.gr G21
  try replace Fk2 := Fk2.gr G21
  try replace F13 := F13.gr G21
  replace HG := HG.grow G21
  clear G21
  refine V.appendR (F13) (V.From.flat V.flat_byte (D' := V.None') (F19.sl.from Try.underlying22)) elT22_22 rfl rfl rfl rfl rfl (by first | omega | (simp only [List.length_take, List.length_drop, List.length_append, List.length_cons, List.length_nil, List.length_replicate, List.length_set, V.length_data, V.S_size]; omega)) (by unfold maxLen; first | omega | (simp only [List.length_take, List.length_drop, List.length_append, List.length_cons, List.length_nil, List.length_replicate, List.length_set, V.length_data, V.S_size]; omega)) (by omega) (by omega) (fun _ h => h.elim) (fun _ h => h.elim) ?_
  rintro a23 c24 w26 G27 s28 F25
  clear F13
  have z29 := Go.RowKit.Below.size G27
  first | replace F_o := V.Sl.bl F_o G27 (by first | exact (fun _ h => by have := h.2; omega) | (intro k h; have := hD_o k h; omega)) | clear F_o | skip
  first | replace Fk2 := V.Cells.bl Fk2 G27 (by omega) | clear Fk2 | skip
  first | replace F19 := V.Row.bl F19 G27 (by first | exact ⟨fun _ h => h.elim, by omega⟩ | exact ⟨fun _ h => by have := h.2; omega, by omega⟩) | clear F19 | skip
  replace HG := HG.bl (Go.RowKit.Below.mono G27 (by omega))
  clear G27
  refine V.run T_ok 1 rfl ?_
  refine V.nil ?_
  refine V.tN ?_
  refine V.seq ?_
  refine V.region ?_
  refine V.run T_ok 2 rfl ?_
  refine V.loadO T_ok Fk2 rfl rfl rfl rfl rfl ?_
  refine V.call (rp_number (v := d.le) (by omega)) rfl rfl rfl ?_
  rintro _ w33 ⟨a30, c31, rfl, F32, G34⟩
  have z35 := V.Fr.size G34
  try replace F_o := F_o.gr G34
  try replace Fk2 := Fk2.gr G34
  try replace F19 := F19.gr G34
  try replace F25 := F25.gr G34
  replace HG := HG.grow G34
  clear G34
  refine V.appendR (F25) (V.From.flat V.flat_byte (D' := V.None') (F32.sl.from Try.underlying22)) elT22_22 rfl rfl rfl rfl rfl (by first | omega | (simp only [List.length_take, List.length_drop, List.length_append, List.length_cons, List.length_nil, List.length_replicate, List.length_set, V.length_data, V.S_size]; omega)) (by unfold maxLen; first | omega | (simp only [List.length_take, List.length_drop, List.length_append, List.length_cons, List.length_nil, List.length_replicate, List.length_set, V.length_data, V.S_size]; omega)) (by omega) (by omega) (fun _ h => h.elim) (fun _ h => h.elim) ?_
  rintro a36 c37 w39 G40 s41 F38
  clear F25
  have z42 := Go.RowKit.Below.size G40
  first | replace F_o := V.Sl.bl F_o G40 (by first | exact (fun _ h => by have := h.2; omega) | (intro k h; have := hD_o k h; omega)) | clear F_o | skip
  first | replace Fk2 := V.Cells.bl Fk2 G40 (by omega) | clear Fk2 | skip
  first | replace F19 := V.Row.bl F19 G40 (by first | exact ⟨fun _ h => h.elim, by omega⟩ | exact ⟨fun _ h => by have := h.2; omega, by omega⟩) | clear F19 | skip
  first | replace F32 := V.Row.bl F32 G40 (by first | exact ⟨fun _ h => h.elim, by omega⟩ | exact ⟨fun _ h => by have := h.2; omega, by omega⟩) | clear F32 | skip
  replace HG := HG.bl (Go.RowKit.Below.mono G40 (by omega))
  clear G40
  refine V.run T_ok 1 rfl ?_
  refine V.nil ?_
  refine V.tN ?_
  refine V.seq ?_
  refine V.region ?_
  refine V.run T_ok 2 rfl ?_
  refine V.loadO T_ok Fk2 rfl rfl rfl rfl rfl ?_
  refine V.call (rp_number (v := d.nd) (by omega)) rfl rfl rfl ?_
  rintro _ w46 ⟨a43, c44, rfl, F45, G47⟩
  have z48 := V.Fr.size G47
  try replace F_o := F_o.gr G47
  try replace Fk2 := Fk2.gr G47
  try replace F19 := F19.gr G47
  try replace F32 := F32.gr G47
  try replace F38 := F38.gr G47
  replace HG := HG.grow G47
  clear G47
  refine V.appendR (F38) (V.From.flat V.flat_byte (D' := V.None') (F45.sl.from Try.underlying22)) elT22_22 rfl rfl rfl rfl rfl (by first | omega | (simp only [List.length_take, List.length_drop, List.length_append, List.length_cons, List.length_nil, List.length_replicate, List.length_set, V.length_data, V.S_size]; omega)) (by unfold maxLen; first | omega | (simp only [List.length_take, List.length_drop, List.length_append, List.length_cons, List.length_nil, List.length_replicate, List.length_set, V.length_data, V.S_size]; omega)) (by omega) (by omega) (fun _ h => h.elim) (fun _ h => h.elim) ?_
  rintro a49 c50 w52 G53 s54 F51
  clear F38
  have z55 := Go.RowKit.Below.size G53
  first | replace F_o := V.Sl.bl F_o G53 (by first | exact (fun _ h => by have := h.2; omega) | (intro k h; have := hD_o k h; omega)) | clear F_o | skip
  first | replace Fk2 := V.Cells.bl Fk2 G53 (by omega) | clear Fk2 | skip
  first | replace F19 := V.Row.bl F19 G53 (by first | exact ⟨fun _ h => h.elim, by omega⟩ | exact ⟨fun _ h => by have := h.2; omega, by omega⟩) | clear F19 | skip
  first | replace F32 := V.Row.bl F32 G53 (by first | exact ⟨fun _ h => h.elim, by omega⟩ | exact ⟨fun _ h => by have := h.2; omega, by omega⟩) | clear F32 | skip
  first | replace F45 := V.Row.bl F45 G53 (by first | exact ⟨fun _ h => h.elim, by omega⟩ | exact ⟨fun _ h => by have := h.2; omega, by omega⟩) | clear F45 | skip
  replace HG := HG.bl (Go.RowKit.Below.mono G53 (by omega))
  clear G53
  refine V.run T_ok 1 rfl ?_
  refine V.nil ?_
  refine V.tN ?_
  refine V.seq ?_
  refine V.region ?_
  refine V.run T_ok 2 rfl ?_
  refine V.loadO T_ok Fk2 rfl rfl rfl rfl rfl ?_
  refine V.call (rmeta_spec (i := d.ti) (e := d.te) (a := d.an) (x := d.sw) (y := d.sl) (by omega) (by omega) (by omega) (by omega) (by omega)) rfl rfl rfl ?_
  rintro _ w59 ⟨a56, c57, rfl, F58, G60⟩
  have z61 := V.Fr.size G60
  try replace F_o := F_o.gr G60
  try replace Fk2 := Fk2.gr G60
  try replace F19 := F19.gr G60
  try replace F32 := F32.gr G60
  try replace F45 := F45.gr G60
  try replace F51 := F51.gr G60
  replace HG := HG.grow G60
  clear G60
  refine V.appendR (F51) (V.From.flat V.flat_byte (D' := V.None') (F58.sl.from Try.underlying22)) elT22_22 rfl rfl rfl rfl rfl (by first | omega | (simp only [List.length_take, List.length_drop, List.length_append, List.length_cons, List.length_nil, List.length_replicate, List.length_set, V.length_data, V.S_size]; omega)) (by unfold maxLen; first | omega | (simp only [List.length_take, List.length_drop, List.length_append, List.length_cons, List.length_nil, List.length_replicate, List.length_set, V.length_data, V.S_size]; omega)) (by omega) (by omega) (fun _ h => h.elim) (fun _ h => h.elim) ?_
  rintro a62 c63 w65 G66 s67 F64
  clear F51
  have z68 := Go.RowKit.Below.size G66
  first | replace F_o := V.Sl.bl F_o G66 (by first | exact (fun _ h => by have := h.2; omega) | (intro k h; have := hD_o k h; omega)) | clear F_o | skip
  first | replace Fk2 := V.Cells.bl Fk2 G66 (by omega) | clear Fk2 | skip
  first | replace F19 := V.Row.bl F19 G66 (by first | exact ⟨fun _ h => h.elim, by omega⟩ | exact ⟨fun _ h => by have := h.2; omega, by omega⟩) | clear F19 | skip
  first | replace F32 := V.Row.bl F32 G66 (by first | exact ⟨fun _ h => h.elim, by omega⟩ | exact ⟨fun _ h => by have := h.2; omega, by omega⟩) | clear F32 | skip
  first | replace F45 := V.Row.bl F45 G66 (by first | exact ⟨fun _ h => h.elim, by omega⟩ | exact ⟨fun _ h => by have := h.2; omega, by omega⟩) | clear F45 | skip
  first | replace F58 := V.Row.bl F58 G66 (by first | exact ⟨fun _ h => h.elim, by omega⟩ | exact ⟨fun _ h => by have := h.2; omega, by omega⟩) | clear F58 | skip
  replace HG := HG.bl (Go.RowKit.Below.mono G66 (by omega))
  clear G66
  refine V.run T_ok 1 rfl ?_
  refine V.nil ?_
  refine V.tN ?_
  refine V.seq ?_
  refine V.region ?_
  refine V.run T_ok 2 rfl ?_
  refine V.loadO T_ok Fk2 rfl rfl rfl rfl rfl ?_
  refine V.call (rp_number (v := d.sq) (by omega)) rfl rfl rfl ?_
  rintro _ w72 ⟨a69, c70, rfl, F71, G73⟩
  have z74 := V.Fr.size G73
  try replace F_o := F_o.gr G73
  try replace Fk2 := Fk2.gr G73
  try replace F19 := F19.gr G73
  try replace F32 := F32.gr G73
  try replace F45 := F45.gr G73
  try replace F58 := F58.gr G73
  try replace F64 := F64.gr G73
  replace HG := HG.grow G73
  clear G73
  refine V.appendR (F64) (V.From.flat V.flat_byte (D' := V.None') (F71.sl.from Try.underlying22)) elT22_22 rfl rfl rfl rfl rfl (by first | omega | (simp only [List.length_take, List.length_drop, List.length_append, List.length_cons, List.length_nil, List.length_replicate, List.length_set, V.length_data, V.S_size]; omega)) (by unfold maxLen; first | omega | (simp only [List.length_take, List.length_drop, List.length_append, List.length_cons, List.length_nil, List.length_replicate, List.length_set, V.length_data, V.S_size]; omega)) (by omega) (by omega) (fun _ h => h.elim) (fun _ h => h.elim) ?_
  rintro a75 c76 w78 G79 s80 F77
  clear F64
  have z81 := Go.RowKit.Below.size G79
  first | replace F_o := V.Sl.bl F_o G79 (by first | exact (fun _ h => by have := h.2; omega) | (intro k h; have := hD_o k h; omega)) | clear F_o | skip
  first | replace Fk2 := V.Cells.bl Fk2 G79 (by omega) | clear Fk2 | skip
  first | replace F19 := V.Row.bl F19 G79 (by first | exact ⟨fun _ h => h.elim, by omega⟩ | exact ⟨fun _ h => by have := h.2; omega, by omega⟩) | clear F19 | skip
  first | replace F32 := V.Row.bl F32 G79 (by first | exact ⟨fun _ h => h.elim, by omega⟩ | exact ⟨fun _ h => by have := h.2; omega, by omega⟩) | clear F32 | skip
  first | replace F45 := V.Row.bl F45 G79 (by first | exact ⟨fun _ h => h.elim, by omega⟩ | exact ⟨fun _ h => by have := h.2; omega, by omega⟩) | clear F45 | skip
  first | replace F58 := V.Row.bl F58 G79 (by first | exact ⟨fun _ h => h.elim, by omega⟩ | exact ⟨fun _ h => by have := h.2; omega, by omega⟩) | clear F58 | skip
  first | replace F71 := V.Row.bl F71 G79 (by first | exact ⟨fun _ h => h.elim, by omega⟩ | exact ⟨fun _ h => by have := h.2; omega, by omega⟩) | clear F71 | skip
  replace HG := HG.bl (Go.RowKit.Below.mono G79 (by omega))
  clear G79
  refine V.run T_ok 1 rfl ?_
  refine V.nil ?_
  refine V.tN ?_
  refine V.seq ?_
  refine V.region ?_
  refine V.run T_ok 3 rfl ?_
  refine V.loadO T_ok Fk2 rfl rfl rfl rfl rfl ?_
  refine V.call (rp_text (s := d.fr) (by first | omega | decide | (simp only [V.S_size, List.length_cons, List.length_nil]; omega))) rfl rfl rfl ?_
  rintro _ w85 ⟨a82, c83, rfl, F84, G86⟩
  have z87 := V.Fr.size G86
  try replace F_o := F_o.gr G86
  try replace Fk2 := Fk2.gr G86
  try replace F19 := F19.gr G86
  try replace F32 := F32.gr G86
  try replace F45 := F45.gr G86
  try replace F58 := F58.gr G86
  try replace F71 := F71.gr G86
  try replace F77 := F77.gr G86
  replace HG := HG.grow G86
  clear G86
  refine V.appendR (F77) (V.From.flat V.flat_byte (D' := V.None') (F84.sl.from Try.underlying22)) elT22_22 rfl rfl rfl rfl rfl (by first | omega | (simp only [List.length_take, List.length_drop, List.length_append, List.length_cons, List.length_nil, List.length_replicate, List.length_set, V.length_data, V.S_size]; omega)) (by unfold maxLen; first | omega | (simp only [List.length_take, List.length_drop, List.length_append, List.length_cons, List.length_nil, List.length_replicate, List.length_set, V.length_data, V.S_size]; omega)) (by omega) (by omega) (fun _ h => h.elim) (fun _ h => h.elim) ?_
  rintro a88 c89 w91 G92 s93 F90
  clear F77
  have z94 := Go.RowKit.Below.size G92
  first | replace F_o := V.Sl.bl F_o G92 (by first | exact (fun _ h => by have := h.2; omega) | (intro k h; have := hD_o k h; omega)) | clear F_o | skip
  first | replace Fk2 := V.Cells.bl Fk2 G92 (by omega) | clear Fk2 | skip
  first | replace F19 := V.Row.bl F19 G92 (by first | exact ⟨fun _ h => h.elim, by omega⟩ | exact ⟨fun _ h => by have := h.2; omega, by omega⟩) | clear F19 | skip
  first | replace F32 := V.Row.bl F32 G92 (by first | exact ⟨fun _ h => h.elim, by omega⟩ | exact ⟨fun _ h => by have := h.2; omega, by omega⟩) | clear F32 | skip
  first | replace F45 := V.Row.bl F45 G92 (by first | exact ⟨fun _ h => h.elim, by omega⟩ | exact ⟨fun _ h => by have := h.2; omega, by omega⟩) | clear F45 | skip
  first | replace F58 := V.Row.bl F58 G92 (by first | exact ⟨fun _ h => h.elim, by omega⟩ | exact ⟨fun _ h => by have := h.2; omega, by omega⟩) | clear F58 | skip
  first | replace F71 := V.Row.bl F71 G92 (by first | exact ⟨fun _ h => h.elim, by omega⟩ | exact ⟨fun _ h => by have := h.2; omega, by omega⟩) | clear F71 | skip
  first | replace F84 := V.Row.bl F84 G92 (by first | exact ⟨fun _ h => h.elim, by omega⟩ | exact ⟨fun _ h => by have := h.2; omega, by omega⟩) | clear F84 | skip
  replace HG := HG.bl (Go.RowKit.Below.mono G92 (by omega))
  clear G92
  refine V.run T_ok 1 rfl ?_
  refine V.nil ?_
  refine V.tN ?_
  refine V.seq ?_
  refine V.region ?_
  refine V.run T_ok 3 rfl ?_
  refine V.loadO T_ok Fk2 rfl rfl rfl rfl rfl ?_
  refine V.call (rp_text (s := d.to) (by first | omega | decide | (simp only [V.S_size, List.length_cons, List.length_nil]; omega))) rfl rfl rfl ?_
  rintro _ w98 ⟨a95, c96, rfl, F97, G99⟩
  have z100 := V.Fr.size G99
  try replace F_o := F_o.gr G99
  try replace Fk2 := Fk2.gr G99
  try replace F19 := F19.gr G99
  try replace F32 := F32.gr G99
  try replace F45 := F45.gr G99
  try replace F58 := F58.gr G99
  try replace F71 := F71.gr G99
  try replace F84 := F84.gr G99
  try replace F90 := F90.gr G99
  replace HG := HG.grow G99
  clear G99
  refine V.appendR (F90) (V.From.flat V.flat_byte (D' := V.None') (F97.sl.from Try.underlying22)) elT22_22 rfl rfl rfl rfl rfl (by first | omega | (simp only [List.length_take, List.length_drop, List.length_append, List.length_cons, List.length_nil, List.length_replicate, List.length_set, V.length_data, V.S_size]; omega)) (by unfold maxLen; first | omega | (simp only [List.length_take, List.length_drop, List.length_append, List.length_cons, List.length_nil, List.length_replicate, List.length_set, V.length_data, V.S_size]; omega)) (by omega) (by omega) (fun _ h => h.elim) (fun _ h => h.elim) ?_
  rintro a101 c102 w104 G105 s106 F103
  clear F90
  have z107 := Go.RowKit.Below.size G105
  first | replace F_o := V.Sl.bl F_o G105 (by first | exact (fun _ h => by have := h.2; omega) | (intro k h; have := hD_o k h; omega)) | clear F_o | skip
  first | replace Fk2 := V.Cells.bl Fk2 G105 (by omega) | clear Fk2 | skip
  first | replace F19 := V.Row.bl F19 G105 (by first | exact ⟨fun _ h => h.elim, by omega⟩ | exact ⟨fun _ h => by have := h.2; omega, by omega⟩) | clear F19 | skip
  first | replace F32 := V.Row.bl F32 G105 (by first | exact ⟨fun _ h => h.elim, by omega⟩ | exact ⟨fun _ h => by have := h.2; omega, by omega⟩) | clear F32 | skip
  first | replace F45 := V.Row.bl F45 G105 (by first | exact ⟨fun _ h => h.elim, by omega⟩ | exact ⟨fun _ h => by have := h.2; omega, by omega⟩) | clear F45 | skip
  first | replace F58 := V.Row.bl F58 G105 (by first | exact ⟨fun _ h => h.elim, by omega⟩ | exact ⟨fun _ h => by have := h.2; omega, by omega⟩) | clear F58 | skip
  first | replace F71 := V.Row.bl F71 G105 (by first | exact ⟨fun _ h => h.elim, by omega⟩ | exact ⟨fun _ h => by have := h.2; omega, by omega⟩) | clear F71 | skip
  first | replace F84 := V.Row.bl F84 G105 (by first | exact ⟨fun _ h => h.elim, by omega⟩ | exact ⟨fun _ h => by have := h.2; omega, by omega⟩) | clear F84 | skip
  first | replace F97 := V.Row.bl F97 G105 (by first | exact ⟨fun _ h => h.elim, by omega⟩ | exact ⟨fun _ h => by have := h.2; omega, by omega⟩) | clear F97 | skip
  replace HG := HG.bl (Go.RowKit.Below.mono G105 (by omega))
  clear G105
  refine V.run T_ok 1 rfl ?_
  refine V.nil ?_
  refine V.tN ?_
  refine V.seq ?_
  refine V.region ?_
  refine V.run T_ok 2 rfl ?_
  refine V.loadO T_ok Fk2 rfl rfl rfl rfl rfl ?_
  refine V.call (rp_text (s := d.va) (by first | omega | decide | (simp only [V.S_size, List.length_cons, List.length_nil]; omega))) rfl rfl rfl ?_
  rintro _ w111 ⟨a108, c109, rfl, F110, G112⟩
  have z113 := V.Fr.size G112
  try replace F_o := F_o.gr G112
  try replace Fk2 := Fk2.gr G112
  try replace F19 := F19.gr G112
  try replace F32 := F32.gr G112
  try replace F45 := F45.gr G112
  try replace F58 := F58.gr G112
  try replace F71 := F71.gr G112
  try replace F84 := F84.gr G112
  try replace F97 := F97.gr G112
  try replace F103 := F103.gr G112
  replace HG := HG.grow G112
  clear G112
  refine V.appendR (F103) (V.From.flat V.flat_byte (D' := V.None') (F110.sl.from Try.underlying22)) elT22_22 rfl rfl rfl rfl rfl (by first | omega | (simp only [List.length_take, List.length_drop, List.length_append, List.length_cons, List.length_nil, List.length_replicate, List.length_set, V.length_data, V.S_size]; omega)) (by unfold maxLen; first | omega | (simp only [List.length_take, List.length_drop, List.length_append, List.length_cons, List.length_nil, List.length_replicate, List.length_set, V.length_data, V.S_size]; omega)) (by omega) (by omega) (fun _ h => h.elim) (fun _ h => h.elim) ?_
  rintro a114 c115 w117 G118 s119 F116
  clear F103
  have z120 := Go.RowKit.Below.size G118
  first | replace F_o := V.Sl.bl F_o G118 (by first | exact (fun _ h => by have := h.2; omega) | (intro k h; have := hD_o k h; omega)) | clear F_o | skip
  first | replace Fk2 := V.Cells.bl Fk2 G118 (by omega) | clear Fk2 | skip
  first | replace F19 := V.Row.bl F19 G118 (by first | exact ⟨fun _ h => h.elim, by omega⟩ | exact ⟨fun _ h => by have := h.2; omega, by omega⟩) | clear F19 | skip
  first | replace F32 := V.Row.bl F32 G118 (by first | exact ⟨fun _ h => h.elim, by omega⟩ | exact ⟨fun _ h => by have := h.2; omega, by omega⟩) | clear F32 | skip
  first | replace F45 := V.Row.bl F45 G118 (by first | exact ⟨fun _ h => h.elim, by omega⟩ | exact ⟨fun _ h => by have := h.2; omega, by omega⟩) | clear F45 | skip
  first | replace F58 := V.Row.bl F58 G118 (by first | exact ⟨fun _ h => h.elim, by omega⟩ | exact ⟨fun _ h => by have := h.2; omega, by omega⟩) | clear F58 | skip
  first | replace F71 := V.Row.bl F71 G118 (by first | exact ⟨fun _ h => h.elim, by omega⟩ | exact ⟨fun _ h => by have := h.2; omega, by omega⟩) | clear F71 | skip
  first | replace F84 := V.Row.bl F84 G118 (by first | exact ⟨fun _ h => h.elim, by omega⟩ | exact ⟨fun _ h => by have := h.2; omega, by omega⟩) | clear F84 | skip
  first | replace F97 := V.Row.bl F97 G118 (by first | exact ⟨fun _ h => h.elim, by omega⟩ | exact ⟨fun _ h => by have := h.2; omega, by omega⟩) | clear F97 | skip
  first | replace F110 := V.Row.bl F110 G118 (by first | exact ⟨fun _ h => h.elim, by omega⟩ | exact ⟨fun _ h => by have := h.2; omega, by omega⟩) | clear F110 | skip
  replace HG := HG.bl (Go.RowKit.Below.mono G118 (by omega))
  clear G118
  refine V.run T_ok 1 rfl ?_
  refine V.nil ?_
  refine V.tN ?_
  refine V.seq ?_
  refine V.region ?_
  refine V.run T_ok 2 rfl ?_
  refine V.loadO T_ok Fk2 rfl rfl rfl rfl rfl ?_
  refine V.call (rp_flag (v := d.go)) rfl rfl rfl ?_
  rintro _ w124 ⟨a121, c122, rfl, F123, G125⟩
  have z126 := V.Fr.size G125
  try replace F_o := F_o.gr G125
  try replace Fk2 := Fk2.gr G125
  try replace F19 := F19.gr G125
  try replace F32 := F32.gr G125
  try replace F45 := F45.gr G125
  try replace F58 := F58.gr G125
  try replace F71 := F71.gr G125
  try replace F84 := F84.gr G125
  try replace F97 := F97.gr G125
  try replace F110 := F110.gr G125
  try replace F116 := F116.gr G125
  replace HG := HG.grow G125
  clear G125
  refine V.appendR (F116) (V.From.flat V.flat_byte (D' := V.None') (F123.sl.from Try.underlying22)) elT22_22 rfl rfl rfl rfl rfl (by first | omega | (simp only [List.length_take, List.length_drop, List.length_append, List.length_cons, List.length_nil, List.length_replicate, List.length_set, V.length_data, V.S_size]; omega)) (by unfold maxLen; first | omega | (simp only [List.length_take, List.length_drop, List.length_append, List.length_cons, List.length_nil, List.length_replicate, List.length_set, V.length_data, V.S_size]; omega)) (by omega) (by omega) (fun _ h => h.elim) (fun _ h => h.elim) ?_
  rintro a127 c128 w130 G131 s132 F129
  clear F116
  have z133 := Go.RowKit.Below.size G131
  first | replace F_o := V.Sl.bl F_o G131 (by first | exact (fun _ h => by have := h.2; omega) | (intro k h; have := hD_o k h; omega)) | clear F_o | skip
  first | replace Fk2 := V.Cells.bl Fk2 G131 (by omega) | clear Fk2 | skip
  first | replace F19 := V.Row.bl F19 G131 (by first | exact ⟨fun _ h => h.elim, by omega⟩ | exact ⟨fun _ h => by have := h.2; omega, by omega⟩) | clear F19 | skip
  first | replace F32 := V.Row.bl F32 G131 (by first | exact ⟨fun _ h => h.elim, by omega⟩ | exact ⟨fun _ h => by have := h.2; omega, by omega⟩) | clear F32 | skip
  first | replace F45 := V.Row.bl F45 G131 (by first | exact ⟨fun _ h => h.elim, by omega⟩ | exact ⟨fun _ h => by have := h.2; omega, by omega⟩) | clear F45 | skip
  first | replace F58 := V.Row.bl F58 G131 (by first | exact ⟨fun _ h => h.elim, by omega⟩ | exact ⟨fun _ h => by have := h.2; omega, by omega⟩) | clear F58 | skip
  first | replace F71 := V.Row.bl F71 G131 (by first | exact ⟨fun _ h => h.elim, by omega⟩ | exact ⟨fun _ h => by have := h.2; omega, by omega⟩) | clear F71 | skip
  first | replace F84 := V.Row.bl F84 G131 (by first | exact ⟨fun _ h => h.elim, by omega⟩ | exact ⟨fun _ h => by have := h.2; omega, by omega⟩) | clear F84 | skip
  first | replace F97 := V.Row.bl F97 G131 (by first | exact ⟨fun _ h => h.elim, by omega⟩ | exact ⟨fun _ h => by have := h.2; omega, by omega⟩) | clear F97 | skip
  first | replace F110 := V.Row.bl F110 G131 (by first | exact ⟨fun _ h => h.elim, by omega⟩ | exact ⟨fun _ h => by have := h.2; omega, by omega⟩) | clear F110 | skip
  first | replace F123 := V.Row.bl F123 G131 (by first | exact ⟨fun _ h => h.elim, by omega⟩ | exact ⟨fun _ h => by have := h.2; omega, by omega⟩) | clear F123 | skip
  replace HG := HG.bl (Go.RowKit.Below.mono G131 (by omega))
  clear G131
  refine V.run T_ok 1 rfl ?_
  refine V.nil ?_
  refine V.tN ?_
  refine V.seq ?_
  refine V.region ?_
  refine V.run T_ok 2 rfl ?_
  refine V.loadO T_ok Fk2 rfl rfl rfl rfl rfl ?_
  refine V.call (rsput_spec (a := d.aw) (b := d.al) (by omega) (by omega)) rfl rfl rfl ?_
  rintro _ w137 ⟨a134, c135, rfl, F136, G138⟩
  have z139 := V.Fr.size G138
  try replace F_o := F_o.gr G138
  try replace Fk2 := Fk2.gr G138
  try replace F19 := F19.gr G138
  try replace F32 := F32.gr G138
  try replace F45 := F45.gr G138
  try replace F58 := F58.gr G138
  try replace F71 := F71.gr G138
  try replace F84 := F84.gr G138
  try replace F97 := F97.gr G138
  try replace F110 := F110.gr G138
  try replace F123 := F123.gr G138
  try replace F129 := F129.gr G138
  replace HG := HG.grow G138
  clear G138
  refine V.appendR (F129) (V.From.flat V.flat_byte (D' := V.None') (F136.sl.from Try.underlying22)) elT22_22 rfl rfl rfl rfl rfl (by first | omega | (simp only [List.length_take, List.length_drop, List.length_append, List.length_cons, List.length_nil, List.length_replicate, List.length_set, V.length_data, V.S_size]; omega)) (by unfold maxLen; first | omega | (simp only [List.length_take, List.length_drop, List.length_append, List.length_cons, List.length_nil, List.length_replicate, List.length_set, V.length_data, V.S_size]; omega)) (by omega) (by omega) (fun _ h => h.elim) (fun _ h => h.elim) ?_
  rintro a140 c141 w143 G144 s145 F142
  clear F129
  have z146 := Go.RowKit.Below.size G144
  first | replace F_o := V.Sl.bl F_o G144 (by first | exact (fun _ h => by have := h.2; omega) | (intro k h; have := hD_o k h; omega)) | clear F_o | skip
  first | replace Fk2 := V.Cells.bl Fk2 G144 (by omega) | clear Fk2 | skip
  first | replace F19 := V.Row.bl F19 G144 (by first | exact ⟨fun _ h => h.elim, by omega⟩ | exact ⟨fun _ h => by have := h.2; omega, by omega⟩) | clear F19 | skip
  first | replace F32 := V.Row.bl F32 G144 (by first | exact ⟨fun _ h => h.elim, by omega⟩ | exact ⟨fun _ h => by have := h.2; omega, by omega⟩) | clear F32 | skip
  first | replace F45 := V.Row.bl F45 G144 (by first | exact ⟨fun _ h => h.elim, by omega⟩ | exact ⟨fun _ h => by have := h.2; omega, by omega⟩) | clear F45 | skip
  first | replace F58 := V.Row.bl F58 G144 (by first | exact ⟨fun _ h => h.elim, by omega⟩ | exact ⟨fun _ h => by have := h.2; omega, by omega⟩) | clear F58 | skip
  first | replace F71 := V.Row.bl F71 G144 (by first | exact ⟨fun _ h => h.elim, by omega⟩ | exact ⟨fun _ h => by have := h.2; omega, by omega⟩) | clear F71 | skip
  first | replace F84 := V.Row.bl F84 G144 (by first | exact ⟨fun _ h => h.elim, by omega⟩ | exact ⟨fun _ h => by have := h.2; omega, by omega⟩) | clear F84 | skip
  first | replace F97 := V.Row.bl F97 G144 (by first | exact ⟨fun _ h => h.elim, by omega⟩ | exact ⟨fun _ h => by have := h.2; omega, by omega⟩) | clear F97 | skip
  first | replace F110 := V.Row.bl F110 G144 (by first | exact ⟨fun _ h => h.elim, by omega⟩ | exact ⟨fun _ h => by have := h.2; omega, by omega⟩) | clear F110 | skip
  first | replace F123 := V.Row.bl F123 G144 (by first | exact ⟨fun _ h => h.elim, by omega⟩ | exact ⟨fun _ h => by have := h.2; omega, by omega⟩) | clear F123 | skip
  first | replace F136 := V.Row.bl F136 G144 (by first | exact ⟨fun _ h => h.elim, by omega⟩ | exact ⟨fun _ h => by have := h.2; omega, by omega⟩) | clear F136 | skip
  replace HG := HG.bl (Go.RowKit.Below.mono G144 (by omega))
  clear G144
  refine V.run T_ok 1 rfl ?_
  refine V.nil ?_
  refine V.tN ?_
  refine V.seq ?_
  refine V.region ?_
  refine V.run T_ok 2 rfl ?_
  refine V.loadO T_ok Fk2 rfl rfl rfl rfl rfl ?_
  refine V.call (rsput_spec (a := d.lw) (b := d.ll) (by omega) (by omega)) rfl rfl rfl ?_
  rintro _ w150 ⟨a147, c148, rfl, F149, G151⟩
  have z152 := V.Fr.size G151
  try replace F_o := F_o.gr G151
  try replace Fk2 := Fk2.gr G151
  try replace F19 := F19.gr G151
  try replace F32 := F32.gr G151
  try replace F45 := F45.gr G151
  try replace F58 := F58.gr G151
  try replace F71 := F71.gr G151
  try replace F84 := F84.gr G151
  try replace F97 := F97.gr G151
  try replace F110 := F110.gr G151
  try replace F123 := F123.gr G151
  try replace F136 := F136.gr G151
  try replace F142 := F142.gr G151
  replace HG := HG.grow G151
  clear G151
  refine V.appendR (F142) (V.From.flat V.flat_byte (D' := V.None') (F149.sl.from Try.underlying22)) elT22_22 rfl rfl rfl rfl rfl (by first | omega | (simp only [List.length_take, List.length_drop, List.length_append, List.length_cons, List.length_nil, List.length_replicate, List.length_set, V.length_data, V.S_size]; omega)) (by unfold maxLen; first | omega | (simp only [List.length_take, List.length_drop, List.length_append, List.length_cons, List.length_nil, List.length_replicate, List.length_set, V.length_data, V.S_size]; omega)) (by omega) (by omega) (fun _ h => h.elim) (fun _ h => h.elim) ?_
  rintro a153 c154 w156 G157 s158 F155
  clear F142
  have z159 := Go.RowKit.Below.size G157
  first | replace F_o := V.Sl.bl F_o G157 (by first | exact (fun _ h => by have := h.2; omega) | (intro k h; have := hD_o k h; omega)) | clear F_o | skip
  first | replace Fk2 := V.Cells.bl Fk2 G157 (by omega) | clear Fk2 | skip
  first | replace F19 := V.Row.bl F19 G157 (by first | exact ⟨fun _ h => h.elim, by omega⟩ | exact ⟨fun _ h => by have := h.2; omega, by omega⟩) | clear F19 | skip
  first | replace F32 := V.Row.bl F32 G157 (by first | exact ⟨fun _ h => h.elim, by omega⟩ | exact ⟨fun _ h => by have := h.2; omega, by omega⟩) | clear F32 | skip
  first | replace F45 := V.Row.bl F45 G157 (by first | exact ⟨fun _ h => h.elim, by omega⟩ | exact ⟨fun _ h => by have := h.2; omega, by omega⟩) | clear F45 | skip
  first | replace F58 := V.Row.bl F58 G157 (by first | exact ⟨fun _ h => h.elim, by omega⟩ | exact ⟨fun _ h => by have := h.2; omega, by omega⟩) | clear F58 | skip
  first | replace F71 := V.Row.bl F71 G157 (by first | exact ⟨fun _ h => h.elim, by omega⟩ | exact ⟨fun _ h => by have := h.2; omega, by omega⟩) | clear F71 | skip
  first | replace F84 := V.Row.bl F84 G157 (by first | exact ⟨fun _ h => h.elim, by omega⟩ | exact ⟨fun _ h => by have := h.2; omega, by omega⟩) | clear F84 | skip
  first | replace F97 := V.Row.bl F97 G157 (by first | exact ⟨fun _ h => h.elim, by omega⟩ | exact ⟨fun _ h => by have := h.2; omega, by omega⟩) | clear F97 | skip
  first | replace F110 := V.Row.bl F110 G157 (by first | exact ⟨fun _ h => h.elim, by omega⟩ | exact ⟨fun _ h => by have := h.2; omega, by omega⟩) | clear F110 | skip
  first | replace F123 := V.Row.bl F123 G157 (by first | exact ⟨fun _ h => h.elim, by omega⟩ | exact ⟨fun _ h => by have := h.2; omega, by omega⟩) | clear F123 | skip
  first | replace F136 := V.Row.bl F136 G157 (by first | exact ⟨fun _ h => h.elim, by omega⟩ | exact ⟨fun _ h => by have := h.2; omega, by omega⟩) | clear F136 | skip
  first | replace F149 := V.Row.bl F149 G157 (by first | exact ⟨fun _ h => h.elim, by omega⟩ | exact ⟨fun _ h => by have := h.2; omega, by omega⟩) | clear F149 | skip
  replace HG := HG.bl (Go.RowKit.Below.mono G157 (by omega))
  clear G157
  refine V.run T_ok 1 rfl ?_
  refine V.nil ?_
  refine V.tN ?_
  refine V.seq ?_
  refine V.region ?_
  refine V.run T_ok 2 rfl ?_
  refine V.loadO T_ok Fk2 rfl rfl rfl rfl rfl ?_
  refine V.call (rp_flag (v := d.cm)) rfl rfl rfl ?_
  rintro _ w163 ⟨a160, c161, rfl, F162, G164⟩
  have z165 := V.Fr.size G164
  try replace F_o := F_o.gr G164
  try replace Fk2 := Fk2.gr G164
  try replace F19 := F19.gr G164
  try replace F32 := F32.gr G164
  try replace F45 := F45.gr G164
  try replace F58 := F58.gr G164
  try replace F71 := F71.gr G164
  try replace F84 := F84.gr G164
  try replace F97 := F97.gr G164
  try replace F110 := F110.gr G164
  try replace F123 := F123.gr G164
  try replace F136 := F136.gr G164
  try replace F149 := F149.gr G164
  try replace F155 := F155.gr G164
  replace HG := HG.grow G164
  clear G164
  refine V.appendR (F155) (V.From.flat V.flat_byte (D' := V.None') (F162.sl.from Try.underlying22)) elT22_22 rfl rfl rfl rfl rfl (by first | omega | (simp only [List.length_take, List.length_drop, List.length_append, List.length_cons, List.length_nil, List.length_replicate, List.length_set, V.length_data, V.S_size]; omega)) (by unfold maxLen; first | omega | (simp only [List.length_take, List.length_drop, List.length_append, List.length_cons, List.length_nil, List.length_replicate, List.length_set, V.length_data, V.S_size]; omega)) (by omega) (by omega) (fun _ h => h.elim) (fun _ h => h.elim) ?_
  rintro a166 c167 w169 G170 s171 F168
  clear F155
  have z172 := Go.RowKit.Below.size G170
  first | replace F_o := V.Sl.bl F_o G170 (by first | exact (fun _ h => by have := h.2; omega) | (intro k h; have := hD_o k h; omega)) | clear F_o | skip
  first | replace Fk2 := V.Cells.bl Fk2 G170 (by omega) | clear Fk2 | skip
  first | replace F19 := V.Row.bl F19 G170 (by first | exact ⟨fun _ h => h.elim, by omega⟩ | exact ⟨fun _ h => by have := h.2; omega, by omega⟩) | clear F19 | skip
  first | replace F32 := V.Row.bl F32 G170 (by first | exact ⟨fun _ h => h.elim, by omega⟩ | exact ⟨fun _ h => by have := h.2; omega, by omega⟩) | clear F32 | skip
  first | replace F45 := V.Row.bl F45 G170 (by first | exact ⟨fun _ h => h.elim, by omega⟩ | exact ⟨fun _ h => by have := h.2; omega, by omega⟩) | clear F45 | skip
  first | replace F58 := V.Row.bl F58 G170 (by first | exact ⟨fun _ h => h.elim, by omega⟩ | exact ⟨fun _ h => by have := h.2; omega, by omega⟩) | clear F58 | skip
  first | replace F71 := V.Row.bl F71 G170 (by first | exact ⟨fun _ h => h.elim, by omega⟩ | exact ⟨fun _ h => by have := h.2; omega, by omega⟩) | clear F71 | skip
  first | replace F84 := V.Row.bl F84 G170 (by first | exact ⟨fun _ h => h.elim, by omega⟩ | exact ⟨fun _ h => by have := h.2; omega, by omega⟩) | clear F84 | skip
  first | replace F97 := V.Row.bl F97 G170 (by first | exact ⟨fun _ h => h.elim, by omega⟩ | exact ⟨fun _ h => by have := h.2; omega, by omega⟩) | clear F97 | skip
  first | replace F110 := V.Row.bl F110 G170 (by first | exact ⟨fun _ h => h.elim, by omega⟩ | exact ⟨fun _ h => by have := h.2; omega, by omega⟩) | clear F110 | skip
  first | replace F123 := V.Row.bl F123 G170 (by first | exact ⟨fun _ h => h.elim, by omega⟩ | exact ⟨fun _ h => by have := h.2; omega, by omega⟩) | clear F123 | skip
  first | replace F136 := V.Row.bl F136 G170 (by first | exact ⟨fun _ h => h.elim, by omega⟩ | exact ⟨fun _ h => by have := h.2; omega, by omega⟩) | clear F136 | skip
  first | replace F149 := V.Row.bl F149 G170 (by first | exact ⟨fun _ h => h.elim, by omega⟩ | exact ⟨fun _ h => by have := h.2; omega, by omega⟩) | clear F149 | skip
  first | replace F162 := V.Row.bl F162 G170 (by first | exact ⟨fun _ h => h.elim, by omega⟩ | exact ⟨fun _ h => by have := h.2; omega, by omega⟩) | clear F162 | skip
  replace HG := HG.bl (Go.RowKit.Below.mono G170 (by omega))
  clear G170
  refine V.run T_ok 1 rfl ?_
  refine V.nil ?_
  refine V.tN ?_
  refine V.seq ?_
  refine V.region ?_
  refine V.run T_ok 2 rfl ?_
  refine V.loadO T_ok Fk2 rfl rfl rfl rfl rfl ?_
  refine V.call (rp_flag (v := d.st)) rfl rfl rfl ?_
  rintro _ w176 ⟨a173, c174, rfl, F175, G177⟩
  have z178 := V.Fr.size G177
  try replace F_o := F_o.gr G177
  try replace Fk2 := Fk2.gr G177
  try replace F19 := F19.gr G177
  try replace F32 := F32.gr G177
  try replace F45 := F45.gr G177
  try replace F58 := F58.gr G177
  try replace F71 := F71.gr G177
  try replace F84 := F84.gr G177
  try replace F97 := F97.gr G177
  try replace F110 := F110.gr G177
  try replace F123 := F123.gr G177
  try replace F136 := F136.gr G177
  try replace F149 := F149.gr G177
  try replace F162 := F162.gr G177
  try replace F168 := F168.gr G177
  replace HG := HG.grow G177
  clear G177
  refine V.appendR (F168) (V.From.flat V.flat_byte (D' := V.None') (F175.sl.from Try.underlying22)) elT22_22 rfl rfl rfl rfl rfl (by first | omega | (simp only [List.length_take, List.length_drop, List.length_append, List.length_cons, List.length_nil, List.length_replicate, List.length_set, V.length_data, V.S_size]; omega)) (by unfold maxLen; first | omega | (simp only [List.length_take, List.length_drop, List.length_append, List.length_cons, List.length_nil, List.length_replicate, List.length_set, V.length_data, V.S_size]; omega)) (by omega) (by omega) (fun _ h => h.elim) (fun _ h => h.elim) ?_
  rintro a179 c180 w182 G183 s184 F181
  clear F168
  have z185 := Go.RowKit.Below.size G183
  first | replace F_o := V.Sl.bl F_o G183 (by first | exact (fun _ h => by have := h.2; omega) | (intro k h; have := hD_o k h; omega)) | clear F_o | skip
  first | replace Fk2 := V.Cells.bl Fk2 G183 (by omega) | clear Fk2 | skip
  first | replace F19 := V.Row.bl F19 G183 (by first | exact ⟨fun _ h => h.elim, by omega⟩ | exact ⟨fun _ h => by have := h.2; omega, by omega⟩) | clear F19 | skip
  first | replace F32 := V.Row.bl F32 G183 (by first | exact ⟨fun _ h => h.elim, by omega⟩ | exact ⟨fun _ h => by have := h.2; omega, by omega⟩) | clear F32 | skip
  first | replace F45 := V.Row.bl F45 G183 (by first | exact ⟨fun _ h => h.elim, by omega⟩ | exact ⟨fun _ h => by have := h.2; omega, by omega⟩) | clear F45 | skip
  first | replace F58 := V.Row.bl F58 G183 (by first | exact ⟨fun _ h => h.elim, by omega⟩ | exact ⟨fun _ h => by have := h.2; omega, by omega⟩) | clear F58 | skip
  first | replace F71 := V.Row.bl F71 G183 (by first | exact ⟨fun _ h => h.elim, by omega⟩ | exact ⟨fun _ h => by have := h.2; omega, by omega⟩) | clear F71 | skip
  first | replace F84 := V.Row.bl F84 G183 (by first | exact ⟨fun _ h => h.elim, by omega⟩ | exact ⟨fun _ h => by have := h.2; omega, by omega⟩) | clear F84 | skip
  first | replace F97 := V.Row.bl F97 G183 (by first | exact ⟨fun _ h => h.elim, by omega⟩ | exact ⟨fun _ h => by have := h.2; omega, by omega⟩) | clear F97 | skip
  first | replace F110 := V.Row.bl F110 G183 (by first | exact ⟨fun _ h => h.elim, by omega⟩ | exact ⟨fun _ h => by have := h.2; omega, by omega⟩) | clear F110 | skip
  first | replace F123 := V.Row.bl F123 G183 (by first | exact ⟨fun _ h => h.elim, by omega⟩ | exact ⟨fun _ h => by have := h.2; omega, by omega⟩) | clear F123 | skip
  first | replace F136 := V.Row.bl F136 G183 (by first | exact ⟨fun _ h => h.elim, by omega⟩ | exact ⟨fun _ h => by have := h.2; omega, by omega⟩) | clear F136 | skip
  first | replace F149 := V.Row.bl F149 G183 (by first | exact ⟨fun _ h => h.elim, by omega⟩ | exact ⟨fun _ h => by have := h.2; omega, by omega⟩) | clear F149 | skip
  first | replace F162 := V.Row.bl F162 G183 (by first | exact ⟨fun _ h => h.elim, by omega⟩ | exact ⟨fun _ h => by have := h.2; omega, by omega⟩) | clear F162 | skip
  first | replace F175 := V.Row.bl F175 G183 (by first | exact ⟨fun _ h => h.elim, by omega⟩ | exact ⟨fun _ h => by have := h.2; omega, by omega⟩) | clear F175 | skip
  replace HG := HG.bl (Go.RowKit.Below.mono G183 (by omega))
  clear G183
  refine V.run T_ok 1 rfl ?_
  refine V.nil ?_
  refine V.tN ?_
  refine V.seq ?_
  refine V.region ?_
  refine V.run T_ok 2 rfl ?_
  refine V.loadO T_ok Fk2 rfl rfl rfl rfl rfl ?_
  refine V.call (rlist_spec F_o (fun k hk => by have := hD_o k hk; omega) (by first | assumption | exact ⟨s1, s2⟩)) rfl rfl rfl ?_
  rintro _ w189 ⟨a186, c187, rfl, F188, G190⟩
  have z191 := V.Fr.size G190
  try replace F_o := F_o.gr G190
  try replace Fk2 := Fk2.gr G190
  try replace F19 := F19.gr G190
  try replace F32 := F32.gr G190
  try replace F45 := F45.gr G190
  try replace F58 := F58.gr G190
  try replace F71 := F71.gr G190
  try replace F84 := F84.gr G190
  try replace F97 := F97.gr G190
  try replace F110 := F110.gr G190
  try replace F123 := F123.gr G190
  try replace F136 := F136.gr G190
  try replace F149 := F149.gr G190
  try replace F162 := F162.gr G190
  try replace F175 := F175.gr G190
  try replace F181 := F181.gr G190
  replace HG := HG.grow G190
  clear G190
  refine V.appendR (F181) (V.From.flat V.flat_byte (D' := V.None') (F188.sl.from Try.underlying22)) elT22_22 rfl rfl rfl rfl rfl (by first | omega | (simp only [List.length_take, List.length_drop, List.length_append, List.length_cons, List.length_nil, List.length_replicate, List.length_set, V.length_data, V.S_size]; omega)) (by unfold maxLen; first | omega | (simp only [List.length_take, List.length_drop, List.length_append, List.length_cons, List.length_nil, List.length_replicate, List.length_set, V.length_data, V.S_size]; omega)) (by omega) (by omega) (fun _ h => h.elim) (fun _ h => h.elim) ?_
  rintro a192 c193 w195 G196 s197 F194
  clear F181
  have z198 := Go.RowKit.Below.size G196
  first | replace F_o := V.Sl.bl F_o G196 (by first | exact (fun _ h => by have := h.2; omega) | (intro k h; have := hD_o k h; omega)) | clear F_o | skip
  first | replace Fk2 := V.Cells.bl Fk2 G196 (by omega) | clear Fk2 | skip
  first | replace F19 := V.Row.bl F19 G196 (by first | exact ⟨fun _ h => h.elim, by omega⟩ | exact ⟨fun _ h => by have := h.2; omega, by omega⟩) | clear F19 | skip
  first | replace F32 := V.Row.bl F32 G196 (by first | exact ⟨fun _ h => h.elim, by omega⟩ | exact ⟨fun _ h => by have := h.2; omega, by omega⟩) | clear F32 | skip
  first | replace F45 := V.Row.bl F45 G196 (by first | exact ⟨fun _ h => h.elim, by omega⟩ | exact ⟨fun _ h => by have := h.2; omega, by omega⟩) | clear F45 | skip
  first | replace F58 := V.Row.bl F58 G196 (by first | exact ⟨fun _ h => h.elim, by omega⟩ | exact ⟨fun _ h => by have := h.2; omega, by omega⟩) | clear F58 | skip
  first | replace F71 := V.Row.bl F71 G196 (by first | exact ⟨fun _ h => h.elim, by omega⟩ | exact ⟨fun _ h => by have := h.2; omega, by omega⟩) | clear F71 | skip
  first | replace F84 := V.Row.bl F84 G196 (by first | exact ⟨fun _ h => h.elim, by omega⟩ | exact ⟨fun _ h => by have := h.2; omega, by omega⟩) | clear F84 | skip
  first | replace F97 := V.Row.bl F97 G196 (by first | exact ⟨fun _ h => h.elim, by omega⟩ | exact ⟨fun _ h => by have := h.2; omega, by omega⟩) | clear F97 | skip
  first | replace F110 := V.Row.bl F110 G196 (by first | exact ⟨fun _ h => h.elim, by omega⟩ | exact ⟨fun _ h => by have := h.2; omega, by omega⟩) | clear F110 | skip
  first | replace F123 := V.Row.bl F123 G196 (by first | exact ⟨fun _ h => h.elim, by omega⟩ | exact ⟨fun _ h => by have := h.2; omega, by omega⟩) | clear F123 | skip
  first | replace F136 := V.Row.bl F136 G196 (by first | exact ⟨fun _ h => h.elim, by omega⟩ | exact ⟨fun _ h => by have := h.2; omega, by omega⟩) | clear F136 | skip
  first | replace F149 := V.Row.bl F149 G196 (by first | exact ⟨fun _ h => h.elim, by omega⟩ | exact ⟨fun _ h => by have := h.2; omega, by omega⟩) | clear F149 | skip
  first | replace F162 := V.Row.bl F162 G196 (by first | exact ⟨fun _ h => h.elim, by omega⟩ | exact ⟨fun _ h => by have := h.2; omega, by omega⟩) | clear F162 | skip
  first | replace F175 := V.Row.bl F175 G196 (by first | exact ⟨fun _ h => h.elim, by omega⟩ | exact ⟨fun _ h => by have := h.2; omega, by omega⟩) | clear F175 | skip
  first | replace F188 := V.Row.bl F188 G196 (by first | exact ⟨fun _ h => h.elim, by omega⟩ | exact ⟨fun _ h => by have := h.2; omega, by omega⟩) | clear F188 | skip
  replace HG := HG.bl (Go.RowKit.Below.mono G196 (by omega))
  clear G196
  refine V.run T_ok 1 rfl ?_
  refine V.nil ?_
  refine V.tN ?_
  refine V.seq ?_
  refine V.region ?_
  refine V.run T_ok 2 rfl ?_
  refine V.loadO T_ok Fk2 rfl rfl rfl rfl rfl ?_
  refine V.call (rp_number (v := d.pr) (by omega)) rfl rfl rfl ?_
  rintro _ w202 ⟨a199, c200, rfl, F201, G203⟩
  have z204 := V.Fr.size G203
  try replace F_o := F_o.gr G203
  try replace Fk2 := Fk2.gr G203
  try replace F19 := F19.gr G203
  try replace F32 := F32.gr G203
  try replace F45 := F45.gr G203
  try replace F58 := F58.gr G203
  try replace F71 := F71.gr G203
  try replace F84 := F84.gr G203
  try replace F97 := F97.gr G203
  try replace F110 := F110.gr G203
  try replace F123 := F123.gr G203
  try replace F136 := F136.gr G203
  try replace F149 := F149.gr G203
  try replace F162 := F162.gr G203
  try replace F175 := F175.gr G203
  try replace F188 := F188.gr G203
  try replace F194 := F194.gr G203
  replace HG := HG.grow G203
  clear G203
  refine V.appendR (F194) (V.From.flat V.flat_byte (D' := V.None') (F201.sl.from Try.underlying22)) elT22_22 rfl rfl rfl rfl rfl (by first | omega | (simp only [List.length_take, List.length_drop, List.length_append, List.length_cons, List.length_nil, List.length_replicate, List.length_set, V.length_data, V.S_size]; omega)) (by unfold maxLen; first | omega | (simp only [List.length_take, List.length_drop, List.length_append, List.length_cons, List.length_nil, List.length_replicate, List.length_set, V.length_data, V.S_size]; omega)) (by omega) (by omega) (fun _ h => h.elim) (fun _ h => h.elim) ?_
  rintro a205 c206 w208 G209 s210 F207
  clear F194
  have z211 := Go.RowKit.Below.size G209
  first | replace F_o := V.Sl.bl F_o G209 (by first | exact (fun _ h => by have := h.2; omega) | (intro k h; have := hD_o k h; omega)) | clear F_o | skip
  first | replace Fk2 := V.Cells.bl Fk2 G209 (by omega) | clear Fk2 | skip
  first | replace F19 := V.Row.bl F19 G209 (by first | exact ⟨fun _ h => h.elim, by omega⟩ | exact ⟨fun _ h => by have := h.2; omega, by omega⟩) | clear F19 | skip
  first | replace F32 := V.Row.bl F32 G209 (by first | exact ⟨fun _ h => h.elim, by omega⟩ | exact ⟨fun _ h => by have := h.2; omega, by omega⟩) | clear F32 | skip
  first | replace F45 := V.Row.bl F45 G209 (by first | exact ⟨fun _ h => h.elim, by omega⟩ | exact ⟨fun _ h => by have := h.2; omega, by omega⟩) | clear F45 | skip
  first | replace F58 := V.Row.bl F58 G209 (by first | exact ⟨fun _ h => h.elim, by omega⟩ | exact ⟨fun _ h => by have := h.2; omega, by omega⟩) | clear F58 | skip
  first | replace F71 := V.Row.bl F71 G209 (by first | exact ⟨fun _ h => h.elim, by omega⟩ | exact ⟨fun _ h => by have := h.2; omega, by omega⟩) | clear F71 | skip
  first | replace F84 := V.Row.bl F84 G209 (by first | exact ⟨fun _ h => h.elim, by omega⟩ | exact ⟨fun _ h => by have := h.2; omega, by omega⟩) | clear F84 | skip
  first | replace F97 := V.Row.bl F97 G209 (by first | exact ⟨fun _ h => h.elim, by omega⟩ | exact ⟨fun _ h => by have := h.2; omega, by omega⟩) | clear F97 | skip
  first | replace F110 := V.Row.bl F110 G209 (by first | exact ⟨fun _ h => h.elim, by omega⟩ | exact ⟨fun _ h => by have := h.2; omega, by omega⟩) | clear F110 | skip
  first | replace F123 := V.Row.bl F123 G209 (by first | exact ⟨fun _ h => h.elim, by omega⟩ | exact ⟨fun _ h => by have := h.2; omega, by omega⟩) | clear F123 | skip
  first | replace F136 := V.Row.bl F136 G209 (by first | exact ⟨fun _ h => h.elim, by omega⟩ | exact ⟨fun _ h => by have := h.2; omega, by omega⟩) | clear F136 | skip
  first | replace F149 := V.Row.bl F149 G209 (by first | exact ⟨fun _ h => h.elim, by omega⟩ | exact ⟨fun _ h => by have := h.2; omega, by omega⟩) | clear F149 | skip
  first | replace F162 := V.Row.bl F162 G209 (by first | exact ⟨fun _ h => h.elim, by omega⟩ | exact ⟨fun _ h => by have := h.2; omega, by omega⟩) | clear F162 | skip
  first | replace F175 := V.Row.bl F175 G209 (by first | exact ⟨fun _ h => h.elim, by omega⟩ | exact ⟨fun _ h => by have := h.2; omega, by omega⟩) | clear F175 | skip
  first | replace F188 := V.Row.bl F188 G209 (by first | exact ⟨fun _ h => h.elim, by omega⟩ | exact ⟨fun _ h => by have := h.2; omega, by omega⟩) | clear F188 | skip
  first | replace F201 := V.Row.bl F201 G209 (by first | exact ⟨fun _ h => h.elim, by omega⟩ | exact ⟨fun _ h => by have := h.2; omega, by omega⟩) | clear F201 | skip
  replace HG := HG.bl (Go.RowKit.Below.mono G209 (by omega))
  clear G209
  refine V.run T_ok 2 rfl ?_
  refine V.nil ?_
  refine V.tN ?_
  refine V.ret ?_
  refine V.done rfl ?_
  rw [if_pos hcb, if_pos hcb, show encB d = (((((((((((((((numB d.kd.toNat) ++ (numB d.id.toNat)) ++ (numB d.le.toNat)) ++ (numB d.nd.toNat)) ++ (nb d.ti ++ nb d.te ++ tb d.an ++ stB d.sw d.sl)) ++ (numB d.sq.toNat)) ++ (textB d.fr.data.toList)) ++ (textB d.to.data.toList)) ++ (textB d.va.data.toList)) ++ (flagB d.go)) ++ (stB d.aw d.al)) ++ (stB d.lw d.ll)) ++ (flagB d.cm)) ++ (flagB d.st)) ++ (numB d.ws.length ++ wrsB d.ws)) ++ (numB d.pr.toNat) by have hwb : wrsB d.ws = d.ws.flatMap wb := rfl; rw [hwb]; simp [encB, part6, part5, part4, part3, part2, part1, hdL, txL, nb, tb, List.append_assoc]]
  exact ⟨a205, c206, (by first | rfl | simp only [List.length_set]), F207.re, HG⟩


def gm1 (d : RfV) : RfV := rfN d 1099511627776
def gm2 (d : RfV) : RfV := rfN (gm1 d) 1099511627776
def gm3 (d : RfV) : RfV := rfT (gm2 d) 8
def gm4 (d : RfV) : RfV := rfS (gm3 d)

set_option maxHeartbeats 900000 in
set_option maxRecDepth 10000 in
theorem rgetmeta_spec {w : World} {k : Nat} {D : Nat → Prop} {d : RfV} (FX : Rf w k D d)   :
    Meets Try.prog 28 [.pointer (some ⟨k, 0, none⟩)] w fun r w' => r = .agg #[.int .i64 ((rdN (d.bs.drop d.i) 1099511627776).1.1), .int .i64 ((rdN ((gm1 d).bs.drop (gm1 d).i) 1099511627776).1.1), .string (S (rdT ((gm2 d).bs.drop (gm2 d).i) 8).1.1), .int .i64 ((rdS ((gm3 d).bs.drop (gm3 d).i)).1.1.1), .int .i64 ((rdS ((gm3 d).bs.drop (gm3 d).i)).1.1.2)] ∧ Rf w' k D (gm4 d) ∧ Fr [k] w w' := by
 have hkl := FX.lt
 have hnk := FX.nk
 replace FX := FX.flb
 have HG := V.Fr.refl [k] w
 refine V.enter (n := 17) Try.func28 rfl rfl (by decide) rfl ?_
 refine V.seq ?_
 refine V.region ?_
 refine V.alloc zero28 rfl rfl rfl ?_
 rintro k1 w3 s5 s6 G4 Fk2
 have z7 := V.Fr.size G4
 try replace FX := FX.gr G4
 replace HG := HG.grow G4
 clear G4
 try simp only [V.cellsL, V.spliceL] at Fk2
 refine V.nil ?_
 refine V.tN ?_
 refine V.seq ?_
 refine V.region ?_
 refine V.alloc zero28 rfl rfl rfl ?_
 rintro k8 w10 s12 s13 G11 Fk9
 have z14 := V.Fr.size G11
 try replace FX := FX.gr G11
 try replace Fk2 := Fk2.gr G11
 replace HG := HG.grow G11
 clear G11
 try simp only [V.cellsL, V.spliceL] at Fk9
 refine V.nil ?_
 refine V.tN ?_
 refine V.seq ?_
 refine V.region ?_
 refine V.run T_ok 1 rfl ?_
 refine V.call (rf_n (most := 1099511627776) FX) rfl rfl rfl ?_
 rintro _ w16 ⟨rfl, F15, G17⟩
 have z18 := V.Fr.size G17
 first | replace FX := FX.mv1 G17 (by first | exact ⟨by omega, by assumption⟩ | exact ⟨by omega, fun h => absurd h.1 (by assumption)⟩ | exact ⟨by omega, fun h => absurd h.1.1 (by assumption)⟩ | exact ⟨by omega, fun h => by first | (have h2 := h.1; have h3 := h.2; omega) | (have h2 := h; dsimp only at h2; omega)⟩ | first | omega | exact fun h => h | exact ⟨by omega, fun h => h⟩ | (intro h; first | (have := hD _ h; omega)) | (refine ⟨by omega, ?_⟩; intro h; first | (have := hD _ h; omega))) | clear FX | skip
 first | replace Fk2 := Fk2.mv1 G17 (by omega) | clear Fk2 | skip
 first | replace Fk9 := Fk9.mv1 G17 (by omega) | clear Fk9 | skip
 replace HG := HG.n1 G17
 clear G17
 refine V.run T_ok 1 rfl ?_
 refine V.storeO Fk9 rfl rfl rfl rfl sz3 rfl rfl rfl rfl ?_
 rintro w19 G20 z22 Fs21
 clear Fk9
 have z23 := V.Fr.size G20
 first | replace Fk2 := Fk2.mv1 G20 (by omega) | clear Fk2 | skip
 first | replace F15 := F15.mv1 G20 (by first | exact ⟨by omega, by assumption⟩ | exact ⟨by omega, fun h => absurd h.1 (by assumption)⟩ | exact ⟨by omega, fun h => absurd h.1.1 (by assumption)⟩ | exact ⟨by omega, fun h => by first | (have h2 := h.1; have h3 := h.2; omega) | (have h2 := h; dsimp only at h2; omega)⟩ | first | omega | exact fun h => h | exact ⟨by omega, fun h => h⟩ | (intro h; first | (have := hD _ h; omega)) | (refine ⟨by omega, ?_⟩; intro h; first | (have := hD _ h; omega))) | clear F15 | skip
 replace HG := HG.n1 G20
 clear G20
 have Fk9 := Fs21; clear Fs21
 simp only [V.spliceL, V.cellsL] at Fk9
 refine V.nil ?_
 refine V.tN ?_
 refine V.seq ?_
 refine V.region ?_
 refine V.run T_ok 1 rfl ?_
 refine V.call (rf_n (most := 1099511627776) F15) rfl rfl rfl ?_
 rintro _ w25 ⟨rfl, F24, G26⟩
 have z27 := V.Fr.size G26
 first | replace Fk2 := Fk2.mv1 G26 (by omega) | clear Fk2 | skip
 first | replace F15 := F15.mv1 G26 (by first | exact ⟨by omega, by assumption⟩ | exact ⟨by omega, fun h => absurd h.1 (by assumption)⟩ | exact ⟨by omega, fun h => absurd h.1.1 (by assumption)⟩ | exact ⟨by omega, fun h => by first | (have h2 := h.1; have h3 := h.2; omega) | (have h2 := h; dsimp only at h2; omega)⟩ | first | omega | exact fun h => h | exact ⟨by omega, fun h => h⟩ | (intro h; first | (have := hD _ h; omega)) | (refine ⟨by omega, ?_⟩; intro h; first | (have := hD _ h; omega))) | clear F15 | skip
 first | replace Fk9 := Fk9.mv1 G26 (by omega) | clear Fk9 | skip
 replace HG := HG.n1 G26
 clear G26
 refine V.run T_ok 1 rfl ?_
 refine V.storeO Fk9 rfl rfl rfl rfl sz3 rfl rfl rfl rfl ?_
 rintro w28 G29 z31 Fs30
 clear Fk9
 have z32 := V.Fr.size G29
 first | replace Fk2 := Fk2.mv1 G29 (by omega) | clear Fk2 | skip
 first | replace F24 := F24.mv1 G29 (by first | exact ⟨by omega, by assumption⟩ | exact ⟨by omega, fun h => absurd h.1 (by assumption)⟩ | exact ⟨by omega, fun h => absurd h.1.1 (by assumption)⟩ | exact ⟨by omega, fun h => by first | (have h2 := h.1; have h3 := h.2; omega) | (have h2 := h; dsimp only at h2; omega)⟩ | first | omega | exact fun h => h | exact ⟨by omega, fun h => h⟩ | (intro h; first | (have := hD _ h; omega)) | (refine ⟨by omega, ?_⟩; intro h; first | (have := hD _ h; omega))) | clear F24 | skip
 replace HG := HG.n1 G29
 clear G29
 have Fk9 := Fs30; clear Fs30
 simp only [V.spliceL, V.cellsL] at Fk9
 refine V.nil ?_
 refine V.tN ?_
 refine V.seq ?_
 refine V.region ?_
 refine V.run T_ok 1 rfl ?_
 refine V.call (rf_t (most := 8) F24) rfl rfl rfl ?_
 rintro _ w34 ⟨rfl, F33, G35⟩
 have z36 := V.Fr.size G35
 first | replace Fk2 := Fk2.mv1 G35 (by omega) | clear Fk2 | skip
 first | replace F24 := F24.mv1 G35 (by first | exact ⟨by omega, by assumption⟩ | exact ⟨by omega, fun h => absurd h.1 (by assumption)⟩ | exact ⟨by omega, fun h => absurd h.1.1 (by assumption)⟩ | exact ⟨by omega, fun h => by first | (have h2 := h.1; have h3 := h.2; omega) | (have h2 := h; dsimp only at h2; omega)⟩ | first | omega | exact fun h => h | exact ⟨by omega, fun h => h⟩ | (intro h; first | (have := hD _ h; omega)) | (refine ⟨by omega, ?_⟩; intro h; first | (have := hD _ h; omega))) | clear F24 | skip
 first | replace Fk9 := Fk9.mv1 G35 (by omega) | clear Fk9 | skip
 replace HG := HG.n1 G35
 clear G35
 refine V.run T_ok 1 rfl ?_
 refine V.storeO Fk9 rfl rfl rfl rfl sz9 rfl rfl rfl rfl ?_
 rintro w37 G38 z40 Fs39
 clear Fk9
 have z41 := V.Fr.size G38
 first | replace Fk2 := Fk2.mv1 G38 (by omega) | clear Fk2 | skip
 first | replace F33 := F33.mv1 G38 (by first | exact ⟨by omega, by assumption⟩ | exact ⟨by omega, fun h => absurd h.1 (by assumption)⟩ | exact ⟨by omega, fun h => absurd h.1.1 (by assumption)⟩ | exact ⟨by omega, fun h => by first | (have h2 := h.1; have h3 := h.2; omega) | (have h2 := h; dsimp only at h2; omega)⟩ | first | omega | exact fun h => h | exact ⟨by omega, fun h => h⟩ | (intro h; first | (have := hD _ h; omega)) | (refine ⟨by omega, ?_⟩; intro h; first | (have := hD _ h; omega))) | clear F33 | skip
 replace HG := HG.n1 G38
 clear G38
 have Fk9 := Fs39; clear Fs39
 simp only [V.spliceL, V.cellsL] at Fk9
 refine V.nil ?_
 refine V.tN ?_
 refine V.seq ?_
 refine V.region ?_
 refine V.run T_ok 1 rfl ?_
 refine V.call (rsg_spec F33) rfl rfl rfl ?_
 rintro _ w43 ⟨rfl, F42, G44⟩
 have z45 := V.Fr.size G44
 first | replace Fk2 := Fk2.mv1 G44 (by omega) | clear Fk2 | skip
 first | replace F33 := F33.mv1 G44 (by first | exact ⟨by omega, by assumption⟩ | exact ⟨by omega, fun h => absurd h.1 (by assumption)⟩ | exact ⟨by omega, fun h => absurd h.1.1 (by assumption)⟩ | exact ⟨by omega, fun h => by first | (have h2 := h.1; have h3 := h.2; omega) | (have h2 := h; dsimp only at h2; omega)⟩ | first | omega | exact fun h => h | exact ⟨by omega, fun h => h⟩ | (intro h; first | (have := hD _ h; omega)) | (refine ⟨by omega, ?_⟩; intro h; first | (have := hD _ h; omega))) | clear F33 | skip
 first | replace Fk9 := Fk9.mv1 G44 (by omega) | clear Fk9 | skip
 replace HG := HG.n1 G44
 clear G44
 refine V.run T_ok 1 rfl ?_
 refine V.storeO Fk9 rfl rfl rfl rfl sz26 rfl rfl rfl rfl ?_
 rintro w46 G47 z49 Fs48
 clear Fk9
 have z50 := V.Fr.size G47
 first | replace Fk2 := Fk2.mv1 G47 (by omega) | clear Fk2 | skip
 first | replace F42 := F42.mv1 G47 (by first | exact ⟨by omega, by assumption⟩ | exact ⟨by omega, fun h => absurd h.1 (by assumption)⟩ | exact ⟨by omega, fun h => absurd h.1.1 (by assumption)⟩ | exact ⟨by omega, fun h => by first | (have h2 := h.1; have h3 := h.2; omega) | (have h2 := h; dsimp only at h2; omega)⟩ | first | omega | exact fun h => h | exact ⟨by omega, fun h => h⟩ | (intro h; first | (have := hD _ h; omega)) | (refine ⟨by omega, ?_⟩; intro h; first | (have := hD _ h; omega))) | clear F42 | skip
 replace HG := HG.n1 G47
 clear G47
 have Fk9 := Fs48; clear Fs48
 simp only [V.spliceL, V.cellsL] at Fk9
 refine V.nil ?_
 refine V.tN ?_
 refine V.seq ?_
 refine V.region ?_
 refine V.loadO T_ok Fk9 rfl rfl rfl rfl rfl ?_
 refine V.storeO Fk2 rfl rfl rfl rfl sz28 rfl rfl rfl rfl ?_
 rintro w51 G52 z54 Fs53
 clear Fk2
 have z55 := V.Fr.size G52
 first | replace F42 := F42.mv1 G52 (by first | exact ⟨by omega, by assumption⟩ | exact ⟨by omega, fun h => absurd h.1 (by assumption)⟩ | exact ⟨by omega, fun h => absurd h.1.1 (by assumption)⟩ | exact ⟨by omega, fun h => by first | (have h2 := h.1; have h3 := h.2; omega) | (have h2 := h; dsimp only at h2; omega)⟩ | first | omega | exact fun h => h | exact ⟨by omega, fun h => h⟩ | (intro h; first | (have := hD _ h; omega)) | (refine ⟨by omega, ?_⟩; intro h; first | (have := hD _ h; omega))) | clear F42 | skip
 first | replace Fk9 := Fk9.mv1 G52 (by omega) | clear Fk9 | skip
 replace HG := HG.n1 G52
 clear G52
 have Fk2 := Fs53; clear Fs53
 simp only [V.spliceL, V.cellsL] at Fk2
 refine V.nil ?_
 refine V.tN ?_
 refine V.ret ?_
 refine V.done1 rfl (V.resV_cell T_ok Fk2 rfl rfl) ?_
 simp only [gm4, gm3, gm2, gm1]
 exact ⟨(by first | rfl | simp only [List.length_set]), (F42.mono (fun _ h => h.1) hnk), HG⟩


def jN {α : Type} (o : RfV) (m : Int) (k : Int → RfV → α) : α := k (rdN (o.bs.drop o.i) m).1.1 (rfN o m)
def jT {α : Type} (o : RfV) (m : Int) (k : ByteArray → RfV → α) : α := k (S (rdT (o.bs.drop o.i) m).1.1) (rfT o m)
def jS {α : Type} (o : RfV) (k : Int → Int → RfV → α) : α := k (rdS (o.bs.drop o.i)).1.1.1 (rdS (o.bs.drop o.i)).1.1.2 (rfS o)
def jF {α : Type} (o : RfV) (k : Bool → RfV → α) : α := k (rdF (o.bs.drop o.i)).1.1 (rfF o)
def jW {α : Type} (o : RfV) (k : List (ByteArray × Int) → RfV → α) : α := k (rfWrs o).1 (rfWrs o).2
def jM {α : Type} (o : RfV) (k : Int → Int → ByteArray → Int → Int → RfV → α) : α := k (rdN (o.bs.drop o.i) 1099511627776).1.1 (rdN ((gm1 o).bs.drop (gm1 o).i) 1099511627776).1.1 (S (rdT ((gm2 o).bs.drop (gm2 o).i) 8).1.1) (rdS ((gm3 o).bs.drop (gm3 o).i)).1.1.1 (rdS ((gm3 o).bs.drop (gm3 o).i)).1.1.2 (gm4 o)
theorem jN_eq {α : Type} {o o' : RfV} {m q : Int} {k : Int → RfV → α} (h1 : (rdN (o.bs.drop o.i) m).1.1 = q) (h2 : rfN o m = o') : jN o m k = k q o' := by subst h1 h2; rfl
theorem jT_eq {α : Type} {o o' : RfV} {m : Int} {q : ByteArray} {k : ByteArray → RfV → α} (h1 : S (rdT (o.bs.drop o.i) m).1.1 = q) (h2 : rfT o m = o') : jT o m k = k q o' := by subst h1 h2; rfl
theorem jS_eq {α : Type} {o o' : RfV} {q r : Int} {k : Int → Int → RfV → α} (h1 : (rdS (o.bs.drop o.i)).1.1.1 = q) (h0 : (rdS (o.bs.drop o.i)).1.1.2 = r) (h2 : rfS o = o') : jS o k = k q r o' := by subst h1 h0 h2; rfl
theorem jF_eq {α : Type} {o o' : RfV} {q : Bool} {k : Bool → RfV → α} (h1 : (rdF (o.bs.drop o.i)).1.1 = q) (h2 : rfF o = o') : jF o k = k q o' := by subst h1 h2; rfl
theorem jW_eq {α : Type} {o o' : RfV} {q : List (ByteArray × Int)} {k : List (ByteArray × Int) → RfV → α} (h1 : (rfWrs o).1 = q) (h2 : (rfWrs o).2 = o') : jW o k = k q o' := by subst h1 h2; rfl
theorem jM_eq {α : Type} {o o' : RfV} {a b d e : Int} {c : ByteArray} {k : Int → Int → ByteArray → Int → Int → RfV → α} (h1 : (rdN (o.bs.drop o.i) 1099511627776).1.1 = a) (h2 : (rdN ((gm1 o).bs.drop (gm1 o).i) 1099511627776).1.1 = b) (h3 : S (rdT ((gm2 o).bs.drop (gm2 o).i) 8).1.1 = c) (h4 : (rdS ((gm3 o).bs.drop (gm3 o).i)).1.1.1 = d) (h5 : (rdS ((gm3 o).bs.drop (gm3 o).i)).1.1.2 = e) (h6 : gm4 o = o') : jM o k = k a b c d e o' := by subst h1 h2 h3 h4 h5 h6; rfl
/-- what the reference reads, whatever comes of it -/
def rAll (b : List UInt8) : CmdV × RfV :=
  jN ⟨b, 0, false⟩ 99 fun kd o => jN o 1099511627776 fun id o => jN o 1099511627776 fun le o => jN o 1099511627776 fun nd o => jM o fun ti te an sw sl o => jN o 1099511627776 fun sq o =>
  jT o 99 fun fr o => jT o 99 fun to o => jT o 99 fun va o => jF o fun go o => jS o fun aw al o => jS o fun lw ll o => jF o fun cm o => jF o fun st o => jW o fun ws o => jN o 1099511627776 fun pr o =>
  (⟨kd, id, le, nd, ti, te, an, sw, sl, sq, fr, to, va, go, aw, al, lw, ll, cm, st, ws, pr⟩, o)
/-- a reader that is well, and what lies ahead of it -/
structure At (o : RfV) (r : List UInt8) : Prop where
  bad : o.bad = false
  rest : o.bs.drop o.i = r
theorem jN_nb {α : Type} {o : RfV} {m v : Int} {r : List UInt8} {k : Int → RfV → α} (h : At o (nb v ++ r)) (h0 : 0 ≤ v) (h1 : v ≤ m) (h2 : v ≤ 9223372036854775807) : ∃ o', At o' r ∧ jN o m k = k v o' := by
  have e := rdN_num (v := v.toNat) (most := m) (by omega) (by omega) r
  rw [Int.toNat_of_nonneg h0] at e
  have e' : rdN (o.bs.drop o.i) m = ((v, 0), r) := by rw [h.rest]; exact e
  refine ⟨rfN o m, ⟨by simp [rfN, h.bad, e'], ?_⟩, by unfold jN; rw [e']⟩
  have e2 := rdN_snd (o.bs.drop o.i) m
  rw [e'] at e2
  simp only [rfN]
  rw [List.drop_drop] at e2
  exact e2.symm
theorem jT_tb {α : Type} {o : RfV} {m : Int} {v : ByteArray} {r : List UInt8} {k : ByteArray → RfV → α} (h : At o (tb v ++ r)) (h1 : (v.size : Int) ≤ m) (h2 : v.size ≤ 1000) : ∃ o', At o' r ∧ jT o m k = k v o' := by
  have e := rdT_text (s := v.data.toList) (r := r) (most := m) (by rw [V.length_data]; omega) (by rw [V.length_data]; omega)
  have e' : rdT (o.bs.drop o.i) m = ((v.data.toList, 0), r) := by rw [h.rest]; exact e
  refine ⟨rfT o m, ⟨by simp [rfT, h.bad, e'], ?_⟩, by unfold jT; rw [e']; simp [S_of]⟩
  have e2 := rdT_snd (o.bs.drop o.i) m
  rw [e'] at e2
  simp only [rfT]
  rw [List.drop_drop] at e2
  exact e2.symm
theorem jS_st {α : Type} {o : RfV} {x y : Int} {r : List UInt8} {k : Int → Int → RfV → α} (h : At o (stB x y ++ r)) (h1 : stR x y) : ∃ o', At o' r ∧ jS o k = k x y o' := by
  have e' : rdS (o.bs.drop o.i) = (((x, y), 0), r) := by rw [h.rest]; exact rdS_stB h1 r
  refine ⟨rfS o, ⟨by simp [rfS, h.bad, e'], ?_⟩, by unfold jS; rw [e']⟩
  have e2 := rdS_snd (o.bs.drop o.i)
  rw [e'] at e2
  simp only [rfS]
  rw [List.drop_drop] at e2
  exact e2.symm
theorem jF_fl {α : Type} {o : RfV} {f : Bool} {r : List UInt8} {k : Bool → RfV → α} (h : At o (flagB f ++ r)) : ∃ o', At o' r ∧ jF o k = k f o' := by
  have e' : rdF (o.bs.drop o.i) = ((f, 0), r) := by rw [h.rest]; exact rdF_flag f r
  refine ⟨rfF o, ⟨by simp [rfF, h.bad, e'], ?_⟩, by unfold jF; rw [e']⟩
  have e2 : (rdF (o.bs.drop o.i)).2 = (o.bs.drop o.i).drop (rdC (o.bs.drop o.i) 1) := rdN_snd (o.bs.drop o.i) 1
  rw [e'] at e2
  simp only [rfF]
  rw [List.drop_drop] at e2
  exact e2.symm
theorem rfWr_ws : ∀ (ws : List (ByteArray × Int)) (o : RfV) (r : List UInt8), At o (ws.flatMap wb ++ r) → (∀ x ∈ ws, x.1.size ≤ 8 ∧ 0 ≤ x.2 ∧ x.2 ≤ 1099511627776) → (rfWr ws.length o).1 = ws ∧ At (rfWr ws.length o).2 r
  | [], o, r, h, _ => ⟨rfl, h.bad, by have h2 := h.rest; simp at h2; exact h2⟩
  | x :: ws, o, r, h, hw => by
    have hx := hw x (by simp)
    obtain ⟨o1, h1, e1⟩ := jT_tb (m := 8) (k := fun s o => (s, o)) (v := x.1) (r := nb x.2 ++ (ws.flatMap wb ++ r)) (o := o) ⟨h.bad, by rw [h.rest]; simp [wb, List.append_assoc]⟩ (by omega) (by omega)
    obtain ⟨o2, h2, e2⟩ := jN_nb (m := 1099511627776) (k := fun s o => (s, o)) h1 hx.2.1 hx.2.2 (by omega)
    unfold jT at e1
    unfold jN at e2
    simp only [Prod.mk.injEq] at e1 e2
    have ih := rfWr_ws ws o2 r h2 (fun y hy => hw y (by simp [hy]))
    rw [List.length_cons]
    unfold rfWr
    rw [if_neg (by rw [h.bad]; decide), e1.1, e1.2, e2.1, e2.2]
    exact ⟨by simp only; rw [ih.1], ih.2⟩
theorem jW_ws {α : Type} {o : RfV} {ws : List (ByteArray × Int)} {r : List UInt8} {k : List (ByteArray × Int) → RfV → α} (h : At o (nb ws.length ++ (ws.flatMap wb ++ r))) (hl : ws.length ≤ 8) (hw : ∀ x ∈ ws, x.1.size ≤ 8 ∧ 0 ≤ x.2 ∧ x.2 ≤ 1099511627776) : ∃ o', At o' r ∧ jW o k = k ws o' := by
  obtain ⟨o1, h1, e1⟩ := jN_nb (m := 8) (k := fun s o => (s, o)) h (by omega) (by omega) (by omega)
  unfold jN at e1
  simp only [Prod.mk.injEq] at e1
  have := rfWr_ws ws o1 r h1 hw
  have e : rfWrs o = rfWr ws.length o1 := by unfold rfWrs; rw [e1.1, e1.2, Int.toNat_natCast]
  exact ⟨(rfWrs o).2, e ▸ this.2, by unfold jW; rw [show (rfWrs o).1 = ws by rw [e]; exact this.1]⟩
theorem jM_meta {α : Type} {o : RfV} {i e : Int} {a : ByteArray} {x y : Int} {r : List UInt8} {k : Int → Int → ByteArray → Int → Int → RfV → α} (h : At o (nb i ++ (nb e ++ (tb a ++ (stB x y ++ r))))) (h1 : 0 ≤ i ∧ i ≤ 1099511627776) (h2 : 0 ≤ e ∧ e ≤ 1099511627776) (h3 : a.size ≤ 8) (h4 : stR x y) : ∃ o', At o' r ∧ jM o k = k i e a x y o' := by
  obtain ⟨o1, g1, e1⟩ := jN_nb (m := 1099511627776) (k := fun s o => (s, o)) h h1.1 h1.2 (by omega)
  obtain ⟨o2, g2, e2⟩ := jN_nb (m := 1099511627776) (k := fun s o => (s, o)) g1 h2.1 h2.2 (by omega)
  obtain ⟨o3, g3, e3⟩ := jT_tb (m := 8) (k := fun s o => (s, o)) g2 (by omega) (by omega)
  obtain ⟨o4, g4, e4⟩ := jS_st (k := fun s t o => (s, t, o)) g3 h4
  unfold jN at e1 e2
  unfold jT at e3
  unfold jS at e4
  simp only [Prod.mk.injEq] at e1 e2 e3 e4
  have f1 : gm1 o = o1 := e1.2
  have f2 : gm2 o = o2 := by unfold gm2; rw [f1]; exact e2.2
  have f3 : gm3 o = o3 := by unfold gm3; rw [f2]; exact e3.2
  have f4 : gm4 o = o4 := by unfold gm4; rw [f3]; exact e4.2.2
  exact ⟨o4, g4, by unfold jM; rw [f1, f2, f3, f4, e1.1, e2.1, e3.1, e4.1, e4.2.1]⟩
theorem rAll_enc {c : CmdV} (h : cmdB c = true) : ∃ o, rAll (encB c) = (c, o) ∧ o.bad = false := by
  have hs := cmd_small h
  have hl := cmd_low h
  have h0 : At (⟨encB c, 0, false⟩ : RfV) (nb c.kd ++ (nb c.id ++ (nb c.le ++ (nb c.nd ++ (nb c.ti ++ (nb c.te ++ (tb c.an ++ (stB c.sw c.sl ++ (nb c.sq ++ (tb c.fr ++ (tb c.to ++ (tb c.va ++ (flagB c.go ++ (stB c.aw c.al ++ (stB c.lw c.ll ++ (flagB c.cm ++ (flagB c.st ++ (nb c.ws.length ++ (c.ws.flatMap wb ++ (nb c.pr ++ [])))))))))))))))))))) := ⟨rfl, by rw [← enc_eq]; simp⟩
  unfold rAll
  have := hs.kd; have := hs.id; have := hs.le; have := hs.nd; have := hs.ti; have := hs.te; have := hs.sq; have := hs.pr; have := hs.an; have := hs.fr; have := hs.to; have := hs.va
  obtain ⟨o1, g1, e1⟩ := jN_nb (m := 99) h0 hl.kd (by omega) (by omega); rw [e1]
  obtain ⟨o2, g2, e2⟩ := jN_nb (m := 1099511627776) g1 hl.id (by omega) (by omega); rw [e2]
  obtain ⟨o3, g3, e3⟩ := jN_nb (m := 1099511627776) g2 hl.le (by omega) (by omega); rw [e3]
  obtain ⟨o4, g4, e4⟩ := jN_nb (m := 1099511627776) g3 hl.nd (by omega) (by omega); rw [e4]
  obtain ⟨o5, g5, e5⟩ := jM_meta g4 ⟨hl.ti, by omega⟩ ⟨hl.te, by omega⟩ (by omega) hl.s1; rw [e5]
  obtain ⟨o6, g6, e6⟩ := jN_nb (m := 1099511627776) g5 hl.sq (by omega) (by omega); rw [e6]
  obtain ⟨o7, g7, e7⟩ := jT_tb (m := 99) g6 (by omega) (by omega); rw [e7]
  obtain ⟨o8, g8, e8⟩ := jT_tb (m := 99) g7 (by omega) (by omega); rw [e8]
  obtain ⟨o9, g9, e9⟩ := jT_tb (m := 99) g8 (by omega) (by omega); rw [e9]
  obtain ⟨o10, g10, e10⟩ := jF_fl g9; rw [e10]
  obtain ⟨o11, g11, e11⟩ := jS_st g10 hl.s2; rw [e11]
  obtain ⟨o12, g12, e12⟩ := jS_st g11 hl.s3; rw [e12]
  obtain ⟨o13, g13, e13⟩ := jF_fl g12; rw [e13]
  obtain ⟨o14, g14, e14⟩ := jF_fl g13; rw [e14]
  obtain ⟨o15, g15, e15⟩ := jW_ws g14 hs.wl (fun x hx => ⟨(hs.wn x hx).1, hl.wn x hx, (hs.wn x hx).2⟩); rw [e15]
  obtain ⟨o16, g16, e16⟩ := jN_nb (m := 1099511627776) g15 hl.pr (by omega) (by omega); rw [e16]
  exact ⟨o16, rfl, g16.bad⟩
theorem decR_no {b : List UInt8} {c : CmdV} {o : RfV} (hR : rAll b = (c, o)) (h : ¬ (o.bad = false ∧ cmdB c = true ∧ encB c = b)) : decC b = none := by
  cases hd : decC b with
  | none => rfl
  | some c' =>
    obtain ⟨h1, h2⟩ := decC_some hd
    obtain ⟨o', e1, e2⟩ := rAll_enc h1
    rw [← h2, hR] at e1
    obtain ⟨rfl, rfl⟩ := Prod.mk.inj e1
    exact absurd ⟨e2, h1, h2.symm⟩ h
theorem decR_yes {b : List UInt8} {c : CmdV} (h2 : cmdB c = true) (h3 : encB c = b) : decC b = some c := by rw [← h3]; exact decC_enc h2
theorem rdT_le (d : List UInt8) {m : Int} (hm : 0 ≤ m) : ((rdT d m).1.1.length : Int) ≤ m := by
  unfold rdT
  split
  · simp; exact hm
  · simp only [List.length_take]; omega
theorem szR {d : List UInt8} {m : Int} {q : ByteArray} (h : S (rdT d m).1.1 = q) (h0 : 0 ≤ m) (h1 : m ≤ 1000) : q.size ≤ 9223372036854775807 := by
  have := rdT_le d h0
  subst h; rw [V.S_size]; omega

set_option maxHeartbeats 900000 in
set_option maxRecDepth 10000 in
theorem rdecode_spec {w : World}  {D_b : Nat → Prop} {c_b : Nat} {a_b : Option Addr} {b : List UInt8} (F_b : Sl V.Cod.byte w D_b a_b c_b b) (hD_b : ∀ k, D_b k → k < w.heap.size) (hl : b.length ≤ 140737488355328) :
    Meets Try.prog 10 [.slice a_b b.length c_b] w fun r w' => ∃ (ra53 : Option Addr) (rc53 : Nat), r = .tuple #[.agg #[.int .i64 (((decC b).getD cmdZ).kd), .int .i64 (((decC b).getD cmdZ).id), .int .i64 (((decC b).getD cmdZ).le), .int .i64 (((decC b).getD cmdZ).nd), .int .i64 (((decC b).getD cmdZ).ti), .int .i64 (((decC b).getD cmdZ).te), .string (((decC b).getD cmdZ).an), .int .i64 (((decC b).getD cmdZ).sw), .int .i64 (((decC b).getD cmdZ).sl), .int .i64 (((decC b).getD cmdZ).sq), .string (((decC b).getD cmdZ).fr), .string (((decC b).getD cmdZ).to), .string (((decC b).getD cmdZ).va), .bool (((decC b).getD cmdZ).go), .int .i64 (((decC b).getD cmdZ).aw), .int .i64 (((decC b).getD cmdZ).al), .int .i64 (((decC b).getD cmdZ).lw), .int .i64 (((decC b).getD cmdZ).ll), .bool (((decC b).getD cmdZ).cm), .bool (((decC b).getD cmdZ).st), .slice ra53 (((decC b).getD cmdZ).ws).length rc53, .int .i64 (((decC b).getD cmdZ).pr)], .int .i64 (if (decC b).isSome = true then 0 else 131)] ∧ V.Row V.Cod.write 65 w' V.None' w.heap.size w'.heap.size ra53 rc53 (((decC b).getD cmdZ).ws) ∧ Gr w w' := by
 have HG := V.Fr.refl [] w
 refine V.enter (n := 82) Try.func10 rfl rfl (by decide) rfl ?_
 refine V.seq ?_
 refine V.region ?_
 refine V.alloc zero33 rfl rfl rfl ?_
 rintro k1 w3 s5 s6 G4 Fk2
 have z7 := V.Fr.size G4
 try replace F_b := F_b.gr G4
 replace HG := HG.grow G4
 clear G4
 try simp only [V.cellsL, V.spliceL] at Fk2
 refine V.run T_ok 1 rfl ?_
 refine V.nil ?_
 refine V.tN ?_
 refine V.seq ?_
 refine V.region ?_
 refine V.run T_ok 1 rfl ?_
 refine V.call (rp_open F_b (fun k hk => by have := hD_b k hk; omega)) rfl rfl rfl ?_
 rintro _ w11 ⟨k8, rfl, ⟨h9l, h9u⟩, F10, G12⟩
 have z13 := V.Fr.size G12
 try replace F_b := F_b.gr G12
 try replace Fk2 := Fk2.gr G12
 replace HG := HG.grow G12
 clear G12
 refine V.run T_ok 1 rfl ?_
 refine V.nil ?_
 refine V.tN ?_
 refine V.seq ?_
 refine V.region ?_
 refine V.alloc zero33 rfl rfl rfl ?_
 rintro k14 w16 s18 s19 G17 Fk15
 have z20 := V.Fr.size G17
 try replace F_b := F_b.gr G17
 try replace Fk2 := Fk2.gr G17
 try replace F10 := F10.gr G17
 replace HG := HG.grow G17
 clear G17
 try simp only [V.cellsL, V.spliceL] at Fk15
 refine V.nil ?_
 refine V.tN ?_
 refine V.seq ?_
 refine V.region ?_
 refine V.run T_ok 1 rfl ?_
 refine V.call (rf_n (most := 99) F10) rfl rfl rfl ?_
 rintro _ w22 ⟨rfl, F21, G23⟩
 have z24 := V.Fr.size G23
 first | replace F_b := F_b.mb G23 hD_b | clear F_b | skip
 first | replace Fk2 := Fk2.mv1 G23 (by omega) | clear Fk2 | skip
 first | replace F10 := F10.mv1 G23 (by first | exact ⟨by omega, by assumption⟩ | exact ⟨by omega, fun h => absurd h.1 (by assumption)⟩ | exact ⟨by omega, fun h => absurd h.1.1 (by assumption)⟩ | exact ⟨by omega, fun h => by first | (have h2 := h.1; have h3 := h.2; omega) | (have h2 := h; dsimp only at h2; omega)⟩ | first | omega | exact fun h => h | exact ⟨by omega, fun h => h⟩ | (intro h; first | (have := hD_b _ h; omega)) | (refine ⟨by omega, ?_⟩; intro h; first | (have := hD_b _ h; omega))) | clear F10 | skip
 first | replace Fk15 := Fk15.mv1 G23 (by omega) | clear Fk15 | skip
 replace HG := HG.n1 G23
 clear G23
 refine V.run T_ok 1 rfl ?_
 refine V.storeO Fk15 rfl rfl rfl rfl sz24 rfl rfl rfl rfl ?_
 rintro w25 G26 z28 Fs27
 clear Fk15
 have z29 := V.Fr.size G26
 first | replace F_b := F_b.mb G26 hD_b | clear F_b | skip
 first | replace Fk2 := Fk2.mv1 G26 (by omega) | clear Fk2 | skip
 first | replace F21 := F21.mv1 G26 (by first | exact ⟨by omega, by assumption⟩ | exact ⟨by omega, fun h => absurd h.1 (by assumption)⟩ | exact ⟨by omega, fun h => absurd h.1.1 (by assumption)⟩ | exact ⟨by omega, fun h => by first | (have h2 := h.1; have h3 := h.2; omega) | (have h2 := h; dsimp only at h2; omega)⟩ | first | omega | exact fun h => h | exact ⟨by omega, fun h => h⟩ | (intro h; first | (have := hD_b _ h; omega)) | (refine ⟨by omega, ?_⟩; intro h; first | (have := hD_b _ h; omega))) | clear F21 | skip
 replace HG := HG.n1 G26
 clear G26
 have Fk15 := Fs27; clear Fs27
 simp only [V.spliceL, V.cellsL] at Fk15
 refine V.nil ?_
 refine V.tN ?_
 refine V.seq ?_
 have z30 : w16.heap.size ≤ w25.heap.size := by omega
 try clear z21
 try clear z22
 try clear z23
 try clear z24
 try clear z25
 try clear z26
 try clear z27
 try clear z28
 try clear z29
 generalize eo1 : rfN (⟨b, 0, false⟩ : RfV) 99 = o1 at F21
 generalize hq1_0 : (rdN (b.drop 0) 99).1.1 = q1_0 at Fk15 ⊢
 refine V.region ?_
 refine V.run T_ok 1 rfl ?_
 refine V.call (rf_n (most := 1099511627776) F21) rfl rfl rfl ?_
 rintro _ w32 ⟨rfl, F31, G33⟩
 have z34 := V.Fr.size G33
 first | replace F_b := F_b.mb G33 hD_b | clear F_b | skip
 first | replace Fk2 := Fk2.mv1 G33 (by omega) | clear Fk2 | skip
 first | replace F21 := F21.mv1 G33 (by first | exact ⟨by omega, by assumption⟩ | exact ⟨by omega, fun h => absurd h.1 (by assumption)⟩ | exact ⟨by omega, fun h => absurd h.1.1 (by assumption)⟩ | exact ⟨by omega, fun h => by first | (have h2 := h.1; have h3 := h.2; omega) | (have h2 := h; dsimp only at h2; omega)⟩ | first | omega | exact fun h => h | exact ⟨by omega, fun h => h⟩ | (intro h; first | (have := hD_b _ h; omega)) | (refine ⟨by omega, ?_⟩; intro h; first | (have := hD_b _ h; omega))) | clear F21 | skip
 first | replace Fk15 := Fk15.mv1 G33 (by omega) | clear Fk15 | skip
 replace HG := HG.n1 G33
 clear G33
 refine V.run T_ok 1 rfl ?_
 refine V.storeO Fk15 rfl rfl rfl rfl sz3 rfl rfl rfl rfl ?_
 rintro w35 G36 z38 Fs37
 clear Fk15
 have z39 := V.Fr.size G36
 first | replace F_b := F_b.mb G36 hD_b | clear F_b | skip
 first | replace Fk2 := Fk2.mv1 G36 (by omega) | clear Fk2 | skip
 first | replace F31 := F31.mv1 G36 (by first | exact ⟨by omega, by assumption⟩ | exact ⟨by omega, fun h => absurd h.1 (by assumption)⟩ | exact ⟨by omega, fun h => absurd h.1.1 (by assumption)⟩ | exact ⟨by omega, fun h => by first | (have h2 := h.1; have h3 := h.2; omega) | (have h2 := h; dsimp only at h2; omega)⟩ | first | omega | exact fun h => h | exact ⟨by omega, fun h => h⟩ | (intro h; first | (have := hD_b _ h; omega)) | (refine ⟨by omega, ?_⟩; intro h; first | (have := hD_b _ h; omega))) | clear F31 | skip
 replace HG := HG.n1 G36
 clear G36
 have Fk15 := Fs37; clear Fs37
 simp only [V.spliceL, V.cellsL] at Fk15
 refine V.nil ?_
 refine V.tN ?_
 refine V.seq ?_
 have z40 : w25.heap.size ≤ w35.heap.size := by omega
 try clear z31
 try clear z32
 try clear z33
 try clear z34
 try clear z35
 try clear z36
 try clear z37
 try clear z38
 try clear z39
 generalize eo2 : rfN o1 1099511627776 = o2 at F31
 generalize hq2_0 : (rdN (o1.bs.drop o1.i) 1099511627776).1.1 = q2_0 at Fk15 ⊢
 refine V.region ?_
 refine V.run T_ok 1 rfl ?_
 refine V.call (rf_n (most := 1099511627776) F31) rfl rfl rfl ?_
 rintro _ w42 ⟨rfl, F41, G43⟩
 have z44 := V.Fr.size G43
 first | replace F_b := F_b.mb G43 hD_b | clear F_b | skip
 first | replace Fk2 := Fk2.mv1 G43 (by omega) | clear Fk2 | skip
 first | replace F31 := F31.mv1 G43 (by first | exact ⟨by omega, by assumption⟩ | exact ⟨by omega, fun h => absurd h.1 (by assumption)⟩ | exact ⟨by omega, fun h => absurd h.1.1 (by assumption)⟩ | exact ⟨by omega, fun h => by first | (have h2 := h.1; have h3 := h.2; omega) | (have h2 := h; dsimp only at h2; omega)⟩ | first | omega | exact fun h => h | exact ⟨by omega, fun h => h⟩ | (intro h; first | (have := hD_b _ h; omega)) | (refine ⟨by omega, ?_⟩; intro h; first | (have := hD_b _ h; omega))) | clear F31 | skip
 first | replace Fk15 := Fk15.mv1 G43 (by omega) | clear Fk15 | skip
 replace HG := HG.n1 G43
 clear G43
 refine V.run T_ok 1 rfl ?_
 refine V.storeO Fk15 rfl rfl rfl rfl sz3 rfl rfl rfl rfl ?_
 rintro w45 G46 z48 Fs47
 clear Fk15
 have z49 := V.Fr.size G46
 first | replace F_b := F_b.mb G46 hD_b | clear F_b | skip
 first | replace Fk2 := Fk2.mv1 G46 (by omega) | clear Fk2 | skip
 first | replace F41 := F41.mv1 G46 (by first | exact ⟨by omega, by assumption⟩ | exact ⟨by omega, fun h => absurd h.1 (by assumption)⟩ | exact ⟨by omega, fun h => absurd h.1.1 (by assumption)⟩ | exact ⟨by omega, fun h => by first | (have h2 := h.1; have h3 := h.2; omega) | (have h2 := h; dsimp only at h2; omega)⟩ | first | omega | exact fun h => h | exact ⟨by omega, fun h => h⟩ | (intro h; first | (have := hD_b _ h; omega)) | (refine ⟨by omega, ?_⟩; intro h; first | (have := hD_b _ h; omega))) | clear F41 | skip
 replace HG := HG.n1 G46
 clear G46
 have Fk15 := Fs47; clear Fs47
 simp only [V.spliceL, V.cellsL] at Fk15
 refine V.nil ?_
 refine V.tN ?_
 refine V.seq ?_
 have z50 : w35.heap.size ≤ w45.heap.size := by omega
 try clear z41
 try clear z42
 try clear z43
 try clear z44
 try clear z45
 try clear z46
 try clear z47
 try clear z48
 try clear z49
 generalize eo3 : rfN o2 1099511627776 = o3 at F41
 generalize hq3_0 : (rdN (o2.bs.drop o2.i) 1099511627776).1.1 = q3_0 at Fk15 ⊢
 refine V.region ?_
 refine V.run T_ok 1 rfl ?_
 refine V.call (rf_n (most := 1099511627776) F41) rfl rfl rfl ?_
 rintro _ w52 ⟨rfl, F51, G53⟩
 have z54 := V.Fr.size G53
 first | replace F_b := F_b.mb G53 hD_b | clear F_b | skip
 first | replace Fk2 := Fk2.mv1 G53 (by omega) | clear Fk2 | skip
 first | replace F41 := F41.mv1 G53 (by first | exact ⟨by omega, by assumption⟩ | exact ⟨by omega, fun h => absurd h.1 (by assumption)⟩ | exact ⟨by omega, fun h => absurd h.1.1 (by assumption)⟩ | exact ⟨by omega, fun h => by first | (have h2 := h.1; have h3 := h.2; omega) | (have h2 := h; dsimp only at h2; omega)⟩ | first | omega | exact fun h => h | exact ⟨by omega, fun h => h⟩ | (intro h; first | (have := hD_b _ h; omega)) | (refine ⟨by omega, ?_⟩; intro h; first | (have := hD_b _ h; omega))) | clear F41 | skip
 first | replace Fk15 := Fk15.mv1 G53 (by omega) | clear Fk15 | skip
 replace HG := HG.n1 G53
 clear G53
 refine V.run T_ok 1 rfl ?_
 refine V.storeO Fk15 rfl rfl rfl rfl sz3 rfl rfl rfl rfl ?_
 rintro w55 G56 z58 Fs57
 clear Fk15
 have z59 := V.Fr.size G56
 first | replace F_b := F_b.mb G56 hD_b | clear F_b | skip
 first | replace Fk2 := Fk2.mv1 G56 (by omega) | clear Fk2 | skip
 first | replace F51 := F51.mv1 G56 (by first | exact ⟨by omega, by assumption⟩ | exact ⟨by omega, fun h => absurd h.1 (by assumption)⟩ | exact ⟨by omega, fun h => absurd h.1.1 (by assumption)⟩ | exact ⟨by omega, fun h => by first | (have h2 := h.1; have h3 := h.2; omega) | (have h2 := h; dsimp only at h2; omega)⟩ | first | omega | exact fun h => h | exact ⟨by omega, fun h => h⟩ | (intro h; first | (have := hD_b _ h; omega)) | (refine ⟨by omega, ?_⟩; intro h; first | (have := hD_b _ h; omega))) | clear F51 | skip
 replace HG := HG.n1 G56
 clear G56
 have Fk15 := Fs57; clear Fs57
 simp only [V.spliceL, V.cellsL] at Fk15
 refine V.nil ?_
 refine V.tN ?_
 refine V.seq ?_
 have z60 : w45.heap.size ≤ w55.heap.size := by omega
 try clear z51
 try clear z52
 try clear z53
 try clear z54
 try clear z55
 try clear z56
 try clear z57
 try clear z58
 try clear z59
 generalize eo4 : rfN o3 1099511627776 = o4 at F51
 generalize hq4_0 : (rdN (o3.bs.drop o3.i) 1099511627776).1.1 = q4_0 at Fk15 ⊢
 refine V.region ?_
 refine V.run T_ok 1 rfl ?_
 refine V.call (rgetmeta_spec F51) rfl rfl rfl ?_
 rintro _ w62 ⟨rfl, F61, G63⟩
 have z64 := V.Fr.size G63
 first | replace F_b := F_b.mb G63 hD_b | clear F_b | skip
 first | replace Fk2 := Fk2.mv1 G63 (by omega) | clear Fk2 | skip
 first | replace F51 := F51.mv1 G63 (by first | exact ⟨by omega, by assumption⟩ | exact ⟨by omega, fun h => absurd h.1 (by assumption)⟩ | exact ⟨by omega, fun h => absurd h.1.1 (by assumption)⟩ | exact ⟨by omega, fun h => by first | (have h2 := h.1; have h3 := h.2; omega) | (have h2 := h; dsimp only at h2; omega)⟩ | first | omega | exact fun h => h | exact ⟨by omega, fun h => h⟩ | (intro h; first | (have := hD_b _ h; omega)) | (refine ⟨by omega, ?_⟩; intro h; first | (have := hD_b _ h; omega))) | clear F51 | skip
 first | replace Fk15 := Fk15.mv1 G63 (by omega) | clear Fk15 | skip
 replace HG := HG.n1 G63
 clear G63
 refine V.run T_ok 1 rfl ?_
 refine V.storeO Fk15 rfl rfl rfl rfl sz28 rfl rfl rfl rfl ?_
 rintro w65 G66 z68 Fs67
 clear Fk15
 have z69 := V.Fr.size G66
 first | replace F_b := F_b.mb G66 hD_b | clear F_b | skip
 first | replace Fk2 := Fk2.mv1 G66 (by omega) | clear Fk2 | skip
 first | replace F61 := F61.mv1 G66 (by first | exact ⟨by omega, by assumption⟩ | exact ⟨by omega, fun h => absurd h.1 (by assumption)⟩ | exact ⟨by omega, fun h => absurd h.1.1 (by assumption)⟩ | exact ⟨by omega, fun h => by first | (have h2 := h.1; have h3 := h.2; omega) | (have h2 := h; dsimp only at h2; omega)⟩ | first | omega | exact fun h => h | exact ⟨by omega, fun h => h⟩ | (intro h; first | (have := hD_b _ h; omega)) | (refine ⟨by omega, ?_⟩; intro h; first | (have := hD_b _ h; omega))) | clear F61 | skip
 replace HG := HG.n1 G66
 clear G66
 have Fk15 := Fs67; clear Fs67
 simp only [V.spliceL, V.cellsL] at Fk15
 refine V.nil ?_
 refine V.tN ?_
 refine V.seq ?_
 have z70 : w55.heap.size ≤ w65.heap.size := by omega
 try clear z61
 try clear z62
 try clear z63
 try clear z64
 try clear z65
 try clear z66
 try clear z67
 try clear z68
 try clear z69
 generalize eo5 : gm4 o4 = o5 at F61
 generalize hq5_0 : (rdN (o4.bs.drop o4.i) 1099511627776).1.1 = q5_0 at Fk15 ⊢
 generalize hq5_1 : (rdN ((gm1 o4).bs.drop (gm1 o4).i) 1099511627776).1.1 = q5_1 at Fk15 ⊢
 generalize hq5_2 : S (rdT ((gm2 o4).bs.drop (gm2 o4).i) 8).1.1 = q5_2 at Fk15 ⊢
 have hzq5_2 := szR hq5_2 (by decide) (by decide)
 generalize hq5_3 : (rdS ((gm3 o4).bs.drop (gm3 o4).i)).1.1.1 = q5_3 at Fk15 ⊢
 generalize hq5_4 : (rdS ((gm3 o4).bs.drop (gm3 o4).i)).1.1.2 = q5_4 at Fk15 ⊢
 refine V.region ?_
 refine V.run T_ok 1 rfl ?_
 refine V.call (rf_n (most := 1099511627776) F61) rfl rfl rfl ?_
 rintro _ w72 ⟨rfl, F71, G73⟩
 have z74 := V.Fr.size G73
 first | replace F_b := F_b.mb G73 hD_b | clear F_b | skip
 first | replace Fk2 := Fk2.mv1 G73 (by omega) | clear Fk2 | skip
 first | replace F61 := F61.mv1 G73 (by first | exact ⟨by omega, by assumption⟩ | exact ⟨by omega, fun h => absurd h.1 (by assumption)⟩ | exact ⟨by omega, fun h => absurd h.1.1 (by assumption)⟩ | exact ⟨by omega, fun h => by first | (have h2 := h.1; have h3 := h.2; omega) | (have h2 := h; dsimp only at h2; omega)⟩ | first | omega | exact fun h => h | exact ⟨by omega, fun h => h⟩ | (intro h; first | (have := hD_b _ h; omega)) | (refine ⟨by omega, ?_⟩; intro h; first | (have := hD_b _ h; omega))) | clear F61 | skip
 first | replace Fk15 := Fk15.mv1 G73 (by omega) | clear Fk15 | skip
 replace HG := HG.n1 G73
 clear G73
 refine V.run T_ok 1 rfl ?_
 refine V.storeO Fk15 rfl rfl rfl rfl sz3 rfl rfl rfl rfl ?_
 rintro w75 G76 z78 Fs77
 clear Fk15
 have z79 := V.Fr.size G76
 first | replace F_b := F_b.mb G76 hD_b | clear F_b | skip
 first | replace Fk2 := Fk2.mv1 G76 (by omega) | clear Fk2 | skip
 first | replace F71 := F71.mv1 G76 (by first | exact ⟨by omega, by assumption⟩ | exact ⟨by omega, fun h => absurd h.1 (by assumption)⟩ | exact ⟨by omega, fun h => absurd h.1.1 (by assumption)⟩ | exact ⟨by omega, fun h => by first | (have h2 := h.1; have h3 := h.2; omega) | (have h2 := h; dsimp only at h2; omega)⟩ | first | omega | exact fun h => h | exact ⟨by omega, fun h => h⟩ | (intro h; first | (have := hD_b _ h; omega)) | (refine ⟨by omega, ?_⟩; intro h; first | (have := hD_b _ h; omega))) | clear F71 | skip
 replace HG := HG.n1 G76
 clear G76
 have Fk15 := Fs77; clear Fs77
 simp only [V.spliceL, V.cellsL] at Fk15
 refine V.nil ?_
 refine V.tN ?_
 refine V.seq ?_
 have z80 : w65.heap.size ≤ w75.heap.size := by omega
 try clear z71
 try clear z72
 try clear z73
 try clear z74
 try clear z75
 try clear z76
 try clear z77
 try clear z78
 try clear z79
 generalize eo6 : rfN o5 1099511627776 = o6 at F71
 generalize hq6_0 : (rdN (o5.bs.drop o5.i) 1099511627776).1.1 = q6_0 at Fk15 ⊢
 refine V.region ?_
 refine V.run T_ok 1 rfl ?_
 refine V.call (rf_t (most := 99) F71) rfl rfl rfl ?_
 rintro _ w82 ⟨rfl, F81, G83⟩
 have z84 := V.Fr.size G83
 first | replace F_b := F_b.mb G83 hD_b | clear F_b | skip
 first | replace Fk2 := Fk2.mv1 G83 (by omega) | clear Fk2 | skip
 first | replace F71 := F71.mv1 G83 (by first | exact ⟨by omega, by assumption⟩ | exact ⟨by omega, fun h => absurd h.1 (by assumption)⟩ | exact ⟨by omega, fun h => absurd h.1.1 (by assumption)⟩ | exact ⟨by omega, fun h => by first | (have h2 := h.1; have h3 := h.2; omega) | (have h2 := h; dsimp only at h2; omega)⟩ | first | omega | exact fun h => h | exact ⟨by omega, fun h => h⟩ | (intro h; first | (have := hD_b _ h; omega)) | (refine ⟨by omega, ?_⟩; intro h; first | (have := hD_b _ h; omega))) | clear F71 | skip
 first | replace Fk15 := Fk15.mv1 G83 (by omega) | clear Fk15 | skip
 replace HG := HG.n1 G83
 clear G83
 refine V.run T_ok 2 rfl ?_
 refine V.storeO Fk15 rfl rfl rfl rfl sz9 rfl rfl rfl rfl ?_
 rintro w85 G86 z88 Fs87
 clear Fk15
 have z89 := V.Fr.size G86
 first | replace F_b := F_b.mb G86 hD_b | clear F_b | skip
 first | replace Fk2 := Fk2.mv1 G86 (by omega) | clear Fk2 | skip
 first | replace F81 := F81.mv1 G86 (by first | exact ⟨by omega, by assumption⟩ | exact ⟨by omega, fun h => absurd h.1 (by assumption)⟩ | exact ⟨by omega, fun h => absurd h.1.1 (by assumption)⟩ | exact ⟨by omega, fun h => by first | (have h2 := h.1; have h3 := h.2; omega) | (have h2 := h; dsimp only at h2; omega)⟩ | first | omega | exact fun h => h | exact ⟨by omega, fun h => h⟩ | (intro h; first | (have := hD_b _ h; omega)) | (refine ⟨by omega, ?_⟩; intro h; first | (have := hD_b _ h; omega))) | clear F81 | skip
 replace HG := HG.n1 G86
 clear G86
 have Fk15 := Fs87; clear Fs87
 simp only [V.spliceL, V.cellsL] at Fk15
 refine V.nil ?_
 refine V.tN ?_
 refine V.seq ?_
 have z90 : w75.heap.size ≤ w85.heap.size := by omega
 try clear z81
 try clear z82
 try clear z83
 try clear z84
 try clear z85
 try clear z86
 try clear z87
 try clear z88
 try clear z89
 generalize eo7 : rfT o6 99 = o7 at F81
 generalize hq7_0 : S (rdT (o6.bs.drop o6.i) 99).1.1 = q7_0 at Fk15 ⊢
 have hzq7_0 := szR hq7_0 (by decide) (by decide)
 refine V.region ?_
 refine V.run T_ok 1 rfl ?_
 refine V.call (rf_t (most := 99) F81) rfl rfl rfl ?_
 rintro _ w92 ⟨rfl, F91, G93⟩
 have z94 := V.Fr.size G93
 first | replace F_b := F_b.mb G93 hD_b | clear F_b | skip
 first | replace Fk2 := Fk2.mv1 G93 (by omega) | clear Fk2 | skip
 first | replace F81 := F81.mv1 G93 (by first | exact ⟨by omega, by assumption⟩ | exact ⟨by omega, fun h => absurd h.1 (by assumption)⟩ | exact ⟨by omega, fun h => absurd h.1.1 (by assumption)⟩ | exact ⟨by omega, fun h => by first | (have h2 := h.1; have h3 := h.2; omega) | (have h2 := h; dsimp only at h2; omega)⟩ | first | omega | exact fun h => h | exact ⟨by omega, fun h => h⟩ | (intro h; first | (have := hD_b _ h; omega)) | (refine ⟨by omega, ?_⟩; intro h; first | (have := hD_b _ h; omega))) | clear F81 | skip
 first | replace Fk15 := Fk15.mv1 G93 (by omega) | clear Fk15 | skip
 replace HG := HG.n1 G93
 clear G93
 refine V.run T_ok 2 rfl ?_
 refine V.storeO Fk15 rfl rfl rfl rfl sz9 rfl rfl rfl rfl ?_
 rintro w95 G96 z98 Fs97
 clear Fk15
 have z99 := V.Fr.size G96
 first | replace F_b := F_b.mb G96 hD_b | clear F_b | skip
 first | replace Fk2 := Fk2.mv1 G96 (by omega) | clear Fk2 | skip
 first | replace F91 := F91.mv1 G96 (by first | exact ⟨by omega, by assumption⟩ | exact ⟨by omega, fun h => absurd h.1 (by assumption)⟩ | exact ⟨by omega, fun h => absurd h.1.1 (by assumption)⟩ | exact ⟨by omega, fun h => by first | (have h2 := h.1; have h3 := h.2; omega) | (have h2 := h; dsimp only at h2; omega)⟩ | first | omega | exact fun h => h | exact ⟨by omega, fun h => h⟩ | (intro h; first | (have := hD_b _ h; omega)) | (refine ⟨by omega, ?_⟩; intro h; first | (have := hD_b _ h; omega))) | clear F91 | skip
 replace HG := HG.n1 G96
 clear G96
 have Fk15 := Fs97; clear Fs97
 simp only [V.spliceL, V.cellsL] at Fk15
 refine V.nil ?_
 refine V.tN ?_
 refine V.seq ?_
 have z100 : w85.heap.size ≤ w95.heap.size := by omega
 try clear z91
 try clear z92
 try clear z93
 try clear z94
 try clear z95
 try clear z96
 try clear z97
 try clear z98
 try clear z99
 generalize eo8 : rfT o7 99 = o8 at F91
 generalize hq8_0 : S (rdT (o7.bs.drop o7.i) 99).1.1 = q8_0 at Fk15 ⊢
 have hzq8_0 := szR hq8_0 (by decide) (by decide)
 refine V.region ?_
 refine V.run T_ok 1 rfl ?_
 refine V.call (rf_t (most := 99) F91) rfl rfl rfl ?_
 rintro _ w102 ⟨rfl, F101, G103⟩
 have z104 := V.Fr.size G103
 first | replace F_b := F_b.mb G103 hD_b | clear F_b | skip
 first | replace Fk2 := Fk2.mv1 G103 (by omega) | clear Fk2 | skip
 first | replace F91 := F91.mv1 G103 (by first | exact ⟨by omega, by assumption⟩ | exact ⟨by omega, fun h => absurd h.1 (by assumption)⟩ | exact ⟨by omega, fun h => absurd h.1.1 (by assumption)⟩ | exact ⟨by omega, fun h => by first | (have h2 := h.1; have h3 := h.2; omega) | (have h2 := h; dsimp only at h2; omega)⟩ | first | omega | exact fun h => h | exact ⟨by omega, fun h => h⟩ | (intro h; first | (have := hD_b _ h; omega)) | (refine ⟨by omega, ?_⟩; intro h; first | (have := hD_b _ h; omega))) | clear F91 | skip
 first | replace Fk15 := Fk15.mv1 G103 (by omega) | clear Fk15 | skip
 replace HG := HG.n1 G103
 clear G103
 refine V.run T_ok 1 rfl ?_
 refine V.storeO Fk15 rfl rfl rfl rfl sz9 rfl rfl rfl rfl ?_
 rintro w105 G106 z108 Fs107
 clear Fk15
 have z109 := V.Fr.size G106
 first | replace F_b := F_b.mb G106 hD_b | clear F_b | skip
 first | replace Fk2 := Fk2.mv1 G106 (by omega) | clear Fk2 | skip
 first | replace F101 := F101.mv1 G106 (by first | exact ⟨by omega, by assumption⟩ | exact ⟨by omega, fun h => absurd h.1 (by assumption)⟩ | exact ⟨by omega, fun h => absurd h.1.1 (by assumption)⟩ | exact ⟨by omega, fun h => by first | (have h2 := h.1; have h3 := h.2; omega) | (have h2 := h; dsimp only at h2; omega)⟩ | first | omega | exact fun h => h | exact ⟨by omega, fun h => h⟩ | (intro h; first | (have := hD_b _ h; omega)) | (refine ⟨by omega, ?_⟩; intro h; first | (have := hD_b _ h; omega))) | clear F101 | skip
 replace HG := HG.n1 G106
 clear G106
 have Fk15 := Fs107; clear Fs107
 simp only [V.spliceL, V.cellsL] at Fk15
 refine V.nil ?_
 refine V.tN ?_
 refine V.seq ?_
 have z110 : w95.heap.size ≤ w105.heap.size := by omega
 try clear z101
 try clear z102
 try clear z103
 try clear z104
 try clear z105
 try clear z106
 try clear z107
 try clear z108
 try clear z109
 generalize eo9 : rfT o8 99 = o9 at F101
 generalize hq9_0 : S (rdT (o8.bs.drop o8.i) 99).1.1 = q9_0 at Fk15 ⊢
 have hzq9_0 := szR hq9_0 (by decide) (by decide)
 refine V.region ?_
 refine V.run T_ok 1 rfl ?_
 refine V.call (rf_f F101) rfl rfl rfl ?_
 rintro _ w112 ⟨rfl, F111, G113⟩
 have z114 := V.Fr.size G113
 first | replace F_b := F_b.mb G113 hD_b | clear F_b | skip
 first | replace Fk2 := Fk2.mv1 G113 (by omega) | clear Fk2 | skip
 first | replace F101 := F101.mv1 G113 (by first | exact ⟨by omega, by assumption⟩ | exact ⟨by omega, fun h => absurd h.1 (by assumption)⟩ | exact ⟨by omega, fun h => absurd h.1.1 (by assumption)⟩ | exact ⟨by omega, fun h => by first | (have h2 := h.1; have h3 := h.2; omega) | (have h2 := h; dsimp only at h2; omega)⟩ | first | omega | exact fun h => h | exact ⟨by omega, fun h => h⟩ | (intro h; first | (have := hD_b _ h; omega)) | (refine ⟨by omega, ?_⟩; intro h; first | (have := hD_b _ h; omega))) | clear F101 | skip
 first | replace Fk15 := Fk15.mv1 G113 (by omega) | clear Fk15 | skip
 replace HG := HG.n1 G113
 clear G113
 refine V.run T_ok 1 rfl ?_
 refine V.storeO Fk15 rfl rfl rfl rfl sz4 rfl rfl rfl rfl ?_
 rintro w115 G116 z118 Fs117
 clear Fk15
 have z119 := V.Fr.size G116
 first | replace F_b := F_b.mb G116 hD_b | clear F_b | skip
 first | replace Fk2 := Fk2.mv1 G116 (by omega) | clear Fk2 | skip
 first | replace F111 := F111.mv1 G116 (by first | exact ⟨by omega, by assumption⟩ | exact ⟨by omega, fun h => absurd h.1 (by assumption)⟩ | exact ⟨by omega, fun h => absurd h.1.1 (by assumption)⟩ | exact ⟨by omega, fun h => by first | (have h2 := h.1; have h3 := h.2; omega) | (have h2 := h; dsimp only at h2; omega)⟩ | first | omega | exact fun h => h | exact ⟨by omega, fun h => h⟩ | (intro h; first | (have := hD_b _ h; omega)) | (refine ⟨by omega, ?_⟩; intro h; first | (have := hD_b _ h; omega))) | clear F111 | skip
 replace HG := HG.n1 G116
 clear G116
 have Fk15 := Fs117; clear Fs117
 simp only [V.spliceL, V.cellsL] at Fk15
 refine V.nil ?_
 refine V.tN ?_
 refine V.seq ?_
 have z120 : w105.heap.size ≤ w115.heap.size := by omega
 try clear z111
 try clear z112
 try clear z113
 try clear z114
 try clear z115
 try clear z116
 try clear z117
 try clear z118
 try clear z119
 generalize eo10 : rfF o9 = o10 at F111
 generalize hq10_0 : (rdF (o9.bs.drop o9.i)).1.1 = q10_0 at Fk15 ⊢
 refine V.region ?_
 refine V.run T_ok 1 rfl ?_
 refine V.call (rsg_spec F111) rfl rfl rfl ?_
 rintro _ w122 ⟨rfl, F121, G123⟩
 have z124 := V.Fr.size G123
 first | replace F_b := F_b.mb G123 hD_b | clear F_b | skip
 first | replace Fk2 := Fk2.mv1 G123 (by omega) | clear Fk2 | skip
 first | replace F111 := F111.mv1 G123 (by first | exact ⟨by omega, by assumption⟩ | exact ⟨by omega, fun h => absurd h.1 (by assumption)⟩ | exact ⟨by omega, fun h => absurd h.1.1 (by assumption)⟩ | exact ⟨by omega, fun h => by first | (have h2 := h.1; have h3 := h.2; omega) | (have h2 := h; dsimp only at h2; omega)⟩ | first | omega | exact fun h => h | exact ⟨by omega, fun h => h⟩ | (intro h; first | (have := hD_b _ h; omega)) | (refine ⟨by omega, ?_⟩; intro h; first | (have := hD_b _ h; omega))) | clear F111 | skip
 first | replace Fk15 := Fk15.mv1 G123 (by omega) | clear Fk15 | skip
 replace HG := HG.n1 G123
 clear G123
 refine V.run T_ok 1 rfl ?_
 refine V.storeO Fk15 rfl rfl rfl rfl sz26 rfl rfl rfl rfl ?_
 rintro w125 G126 z128 Fs127
 clear Fk15
 have z129 := V.Fr.size G126
 first | replace F_b := F_b.mb G126 hD_b | clear F_b | skip
 first | replace Fk2 := Fk2.mv1 G126 (by omega) | clear Fk2 | skip
 first | replace F121 := F121.mv1 G126 (by first | exact ⟨by omega, by assumption⟩ | exact ⟨by omega, fun h => absurd h.1 (by assumption)⟩ | exact ⟨by omega, fun h => absurd h.1.1 (by assumption)⟩ | exact ⟨by omega, fun h => by first | (have h2 := h.1; have h3 := h.2; omega) | (have h2 := h; dsimp only at h2; omega)⟩ | first | omega | exact fun h => h | exact ⟨by omega, fun h => h⟩ | (intro h; first | (have := hD_b _ h; omega)) | (refine ⟨by omega, ?_⟩; intro h; first | (have := hD_b _ h; omega))) | clear F121 | skip
 replace HG := HG.n1 G126
 clear G126
 have Fk15 := Fs127; clear Fs127
 simp only [V.spliceL, V.cellsL] at Fk15
 refine V.nil ?_
 refine V.tN ?_
 refine V.seq ?_
 have z130 : w115.heap.size ≤ w125.heap.size := by omega
 try clear z121
 try clear z122
 try clear z123
 try clear z124
 try clear z125
 try clear z126
 try clear z127
 try clear z128
 try clear z129
 generalize eo11 : rfS o10 = o11 at F121
 generalize hq11_0 : ((rdS (o10.bs.drop o10.i)).1.1).1 = q11_0 at Fk15 ⊢
 generalize hq11_1 : ((rdS (o10.bs.drop o10.i)).1.1).2 = q11_1 at Fk15 ⊢
 refine V.region ?_
 refine V.run T_ok 1 rfl ?_
 refine V.call (rsg_spec F121) rfl rfl rfl ?_
 rintro _ w132 ⟨rfl, F131, G133⟩
 have z134 := V.Fr.size G133
 first | replace F_b := F_b.mb G133 hD_b | clear F_b | skip
 first | replace Fk2 := Fk2.mv1 G133 (by omega) | clear Fk2 | skip
 first | replace F121 := F121.mv1 G133 (by first | exact ⟨by omega, by assumption⟩ | exact ⟨by omega, fun h => absurd h.1 (by assumption)⟩ | exact ⟨by omega, fun h => absurd h.1.1 (by assumption)⟩ | exact ⟨by omega, fun h => by first | (have h2 := h.1; have h3 := h.2; omega) | (have h2 := h; dsimp only at h2; omega)⟩ | first | omega | exact fun h => h | exact ⟨by omega, fun h => h⟩ | (intro h; first | (have := hD_b _ h; omega)) | (refine ⟨by omega, ?_⟩; intro h; first | (have := hD_b _ h; omega))) | clear F121 | skip
 first | replace Fk15 := Fk15.mv1 G133 (by omega) | clear Fk15 | skip
 replace HG := HG.n1 G133
 clear G133
 refine V.run T_ok 1 rfl ?_
 refine V.storeO Fk15 rfl rfl rfl rfl sz26 rfl rfl rfl rfl ?_
 rintro w135 G136 z138 Fs137
 clear Fk15
 have z139 := V.Fr.size G136
 first | replace F_b := F_b.mb G136 hD_b | clear F_b | skip
 first | replace Fk2 := Fk2.mv1 G136 (by omega) | clear Fk2 | skip
 first | replace F131 := F131.mv1 G136 (by first | exact ⟨by omega, by assumption⟩ | exact ⟨by omega, fun h => absurd h.1 (by assumption)⟩ | exact ⟨by omega, fun h => absurd h.1.1 (by assumption)⟩ | exact ⟨by omega, fun h => by first | (have h2 := h.1; have h3 := h.2; omega) | (have h2 := h; dsimp only at h2; omega)⟩ | first | omega | exact fun h => h | exact ⟨by omega, fun h => h⟩ | (intro h; first | (have := hD_b _ h; omega)) | (refine ⟨by omega, ?_⟩; intro h; first | (have := hD_b _ h; omega))) | clear F131 | skip
 replace HG := HG.n1 G136
 clear G136
 have Fk15 := Fs137; clear Fs137
 simp only [V.spliceL, V.cellsL] at Fk15
 refine V.nil ?_
 refine V.tN ?_
 refine V.seq ?_
 have z140 : w125.heap.size ≤ w135.heap.size := by omega
 try clear z131
 try clear z132
 try clear z133
 try clear z134
 try clear z135
 try clear z136
 try clear z137
 try clear z138
 try clear z139
 generalize eo12 : rfS o11 = o12 at F131
 generalize hq12_0 : ((rdS (o11.bs.drop o11.i)).1.1).1 = q12_0 at Fk15 ⊢
 generalize hq12_1 : ((rdS (o11.bs.drop o11.i)).1.1).2 = q12_1 at Fk15 ⊢
 refine V.region ?_
 refine V.run T_ok 1 rfl ?_
 refine V.call (rf_f F131) rfl rfl rfl ?_
 rintro _ w142 ⟨rfl, F141, G143⟩
 have z144 := V.Fr.size G143
 first | replace F_b := F_b.mb G143 hD_b | clear F_b | skip
 first | replace Fk2 := Fk2.mv1 G143 (by omega) | clear Fk2 | skip
 first | replace F131 := F131.mv1 G143 (by first | exact ⟨by omega, by assumption⟩ | exact ⟨by omega, fun h => absurd h.1 (by assumption)⟩ | exact ⟨by omega, fun h => absurd h.1.1 (by assumption)⟩ | exact ⟨by omega, fun h => by first | (have h2 := h.1; have h3 := h.2; omega) | (have h2 := h; dsimp only at h2; omega)⟩ | first | omega | exact fun h => h | exact ⟨by omega, fun h => h⟩ | (intro h; first | (have := hD_b _ h; omega)) | (refine ⟨by omega, ?_⟩; intro h; first | (have := hD_b _ h; omega))) | clear F131 | skip
 first | replace Fk15 := Fk15.mv1 G143 (by omega) | clear Fk15 | skip
 replace HG := HG.n1 G143
 clear G143
 refine V.run T_ok 1 rfl ?_
 refine V.storeO Fk15 rfl rfl rfl rfl sz4 rfl rfl rfl rfl ?_
 rintro w145 G146 z148 Fs147
 clear Fk15
 have z149 := V.Fr.size G146
 first | replace F_b := F_b.mb G146 hD_b | clear F_b | skip
 first | replace Fk2 := Fk2.mv1 G146 (by omega) | clear Fk2 | skip
 first | replace F141 := F141.mv1 G146 (by first | exact ⟨by omega, by assumption⟩ | exact ⟨by omega, fun h => absurd h.1 (by assumption)⟩ | exact ⟨by omega, fun h => absurd h.1.1 (by assumption)⟩ | exact ⟨by omega, fun h => by first | (have h2 := h.1; have h3 := h.2; omega) | (have h2 := h; dsimp only at h2; omega)⟩ | first | omega | exact fun h => h | exact ⟨by omega, fun h => h⟩ | (intro h; first | (have := hD_b _ h; omega)) | (refine ⟨by omega, ?_⟩; intro h; first | (have := hD_b _ h; omega))) | clear F141 | skip
 replace HG := HG.n1 G146
 clear G146
 have Fk15 := Fs147; clear Fs147
 simp only [V.spliceL, V.cellsL] at Fk15
 refine V.nil ?_
 refine V.tN ?_
 refine V.seq ?_
 have z150 : w135.heap.size ≤ w145.heap.size := by omega
 try clear z141
 try clear z142
 try clear z143
 try clear z144
 try clear z145
 try clear z146
 try clear z147
 try clear z148
 try clear z149
 generalize eo13 : rfF o12 = o13 at F141
 generalize hq13_0 : (rdF (o12.bs.drop o12.i)).1.1 = q13_0 at Fk15 ⊢
 refine V.region ?_
 refine V.run T_ok 1 rfl ?_
 refine V.call (rf_f F141) rfl rfl rfl ?_
 rintro _ w152 ⟨rfl, F151, G153⟩
 have z154 := V.Fr.size G153
 first | replace F_b := F_b.mb G153 hD_b | clear F_b | skip
 first | replace Fk2 := Fk2.mv1 G153 (by omega) | clear Fk2 | skip
 first | replace F141 := F141.mv1 G153 (by first | exact ⟨by omega, by assumption⟩ | exact ⟨by omega, fun h => absurd h.1 (by assumption)⟩ | exact ⟨by omega, fun h => absurd h.1.1 (by assumption)⟩ | exact ⟨by omega, fun h => by first | (have h2 := h.1; have h3 := h.2; omega) | (have h2 := h; dsimp only at h2; omega)⟩ | first | omega | exact fun h => h | exact ⟨by omega, fun h => h⟩ | (intro h; first | (have := hD_b _ h; omega)) | (refine ⟨by omega, ?_⟩; intro h; first | (have := hD_b _ h; omega))) | clear F141 | skip
 first | replace Fk15 := Fk15.mv1 G153 (by omega) | clear Fk15 | skip
 replace HG := HG.n1 G153
 clear G153
 refine V.run T_ok 1 rfl ?_
 refine V.storeO Fk15 rfl rfl rfl rfl sz4 rfl rfl rfl rfl ?_
 rintro w155 G156 z158 Fs157
 clear Fk15
 have z159 := V.Fr.size G156
 first | replace F_b := F_b.mb G156 hD_b | clear F_b | skip
 first | replace Fk2 := Fk2.mv1 G156 (by omega) | clear Fk2 | skip
 first | replace F151 := F151.mv1 G156 (by first | exact ⟨by omega, by assumption⟩ | exact ⟨by omega, fun h => absurd h.1 (by assumption)⟩ | exact ⟨by omega, fun h => absurd h.1.1 (by assumption)⟩ | exact ⟨by omega, fun h => by first | (have h2 := h.1; have h3 := h.2; omega) | (have h2 := h; dsimp only at h2; omega)⟩ | first | omega | exact fun h => h | exact ⟨by omega, fun h => h⟩ | (intro h; first | (have := hD_b _ h; omega)) | (refine ⟨by omega, ?_⟩; intro h; first | (have := hD_b _ h; omega))) | clear F151 | skip
 replace HG := HG.n1 G156
 clear G156
 have Fk15 := Fs157; clear Fs157
 simp only [V.spliceL, V.cellsL] at Fk15
 refine V.nil ?_
 refine V.tN ?_
 refine V.seq ?_
 have z160 : w145.heap.size ≤ w155.heap.size := by omega
 try clear z151
 try clear z152
 try clear z153
 try clear z154
 try clear z155
 try clear z156
 try clear z157
 try clear z158
 try clear z159
 generalize eo14 : rfF o13 = o14 at F151
 generalize hq14_0 : (rdF (o13.bs.drop o13.i)).1.1 = q14_0 at Fk15 ⊢
 refine V.region ?_
 refine V.run T_ok 1 rfl ?_
 refine V.call (rwr_spec F151) rfl rfl rfl ?_
 rintro _ w165 ⟨a161, c162, rfl, F163, F164, G166⟩
 have z167 := V.Fr.size G166
 first | replace F_b := F_b.mb G166 hD_b | clear F_b | skip
 first | replace Fk2 := Fk2.mv1 G166 (by omega) | clear Fk2 | skip
 first | replace F151 := F151.mv1 G166 (by first | exact ⟨by omega, by assumption⟩ | exact ⟨by omega, fun h => absurd h.1 (by assumption)⟩ | exact ⟨by omega, fun h => absurd h.1.1 (by assumption)⟩ | exact ⟨by omega, fun h => by first | (have h2 := h.1; have h3 := h.2; omega) | (have h2 := h; dsimp only at h2; omega)⟩ | first | omega | exact fun h => h | exact ⟨by omega, fun h => h⟩ | (intro h; first | (have := hD_b _ h; omega)) | (refine ⟨by omega, ?_⟩; intro h; first | (have := hD_b _ h; omega))) | clear F151 | skip
 first | replace Fk15 := Fk15.mv1 G166 (by omega) | clear Fk15 | skip
 replace HG := HG.n1 G166
 clear G166
 refine V.run T_ok 1 rfl ?_
 refine V.storeO Fk15 rfl rfl rfl rfl sz31 rfl rfl rfl rfl ?_
 rintro w168 G169 z171 Fs170
 clear Fk15
 have z172 := V.Fr.size G169
 first | replace F_b := F_b.mb G169 hD_b | clear F_b | skip
 first | replace Fk2 := Fk2.mv1 G169 (by omega) | clear Fk2 | skip
 first | replace F163 := F163.ma G169 | clear F163 | skip
 first | replace F164 := F164.mv1 G169 (by first | exact ⟨by omega, by assumption⟩ | exact ⟨by omega, fun h => absurd h.1 (by assumption)⟩ | exact ⟨by omega, fun h => absurd h.1.1 (by assumption)⟩ | exact ⟨by omega, fun h => by first | (have h2 := h.1; have h3 := h.2; omega) | (have h2 := h; dsimp only at h2; omega)⟩ | first | omega | exact fun h => h | exact ⟨by omega, fun h => h⟩ | (intro h; first | (have := hD_b _ h; omega)) | (refine ⟨by omega, ?_⟩; intro h; first | (have := hD_b _ h; omega))) | clear F164 | skip
 replace HG := HG.n1 G169
 clear G169
 have Fk15 := Fs170; clear Fs170
 simp only [V.spliceL, V.cellsL] at Fk15
 refine V.nil ?_
 refine V.tN ?_
 refine V.seq ?_
 have z173 : w155.heap.size ≤ w168.heap.size := by omega
 have hhF163_15 : w165.heap.size ≤ w168.heap.size := by omega
 try clear z161
 try clear z162
 try clear z163
 try clear z164
 try clear z165
 try clear z166
 try clear z167
 try clear z168
 try clear z169
 try clear z170
 try clear z171
 try clear z172
 have hko : keysOk ((rfWrs o14).1) := rfWr_keys _ _
 generalize eo15 : (rfWrs o14).2 = o15 at F164
 generalize hq15_0 : (rfWrs o14).1 = q15_0 at F163 Fk15 hko ⊢
 refine V.region ?_
 refine V.run T_ok 1 rfl ?_
 refine V.call (rf_n (most := 1099511627776) F164) rfl rfl rfl ?_
 rintro _ w175 ⟨rfl, F174, G176⟩
 have z177 := V.Fr.size G176
 first | replace F_b := F_b.mb G176 hD_b | clear F_b | skip
 first | replace Fk2 := Fk2.mv1 G176 (by omega) | clear Fk2 | skip
 first | replace F163 := F163.ma G176 | clear F163 | skip
 first | replace F164 := F164.mv1 G176 (by first | exact ⟨by omega, by assumption⟩ | exact ⟨by omega, fun h => absurd h.1 (by assumption)⟩ | exact ⟨by omega, fun h => absurd h.1.1 (by assumption)⟩ | exact ⟨by omega, fun h => by first | (have h2 := h.1; have h3 := h.2; omega) | (have h2 := h; dsimp only at h2; omega)⟩ | first | omega | exact fun h => h | exact ⟨by omega, fun h => h⟩ | (intro h; first | (have := hD_b _ h; omega)) | (refine ⟨by omega, ?_⟩; intro h; first | (have := hD_b _ h; omega))) | clear F164 | skip
 first | replace Fk15 := Fk15.mv1 G176 (by omega) | clear Fk15 | skip
 replace HG := HG.n1 G176
 clear G176
 refine V.run T_ok 1 rfl ?_
 refine V.storeO Fk15 rfl rfl rfl rfl sz3 rfl rfl rfl rfl ?_
 rintro w178 G179 z181 Fs180
 clear Fk15
 have z182 := V.Fr.size G179
 first | replace F_b := F_b.mb G179 hD_b | clear F_b | skip
 first | replace Fk2 := Fk2.mv1 G179 (by omega) | clear Fk2 | skip
 first | replace F163 := F163.ma G179 | clear F163 | skip
 first | replace F174 := F174.mv1 G179 (by first | exact ⟨by omega, by assumption⟩ | exact ⟨by omega, fun h => absurd h.1 (by assumption)⟩ | exact ⟨by omega, fun h => absurd h.1.1 (by assumption)⟩ | exact ⟨by omega, fun h => by first | (have h2 := h.1; have h3 := h.2; omega) | (have h2 := h; dsimp only at h2; omega)⟩ | first | omega | exact fun h => h | exact ⟨by omega, fun h => h⟩ | (intro h; first | (have := hD_b _ h; omega)) | (refine ⟨by omega, ?_⟩; intro h; first | (have := hD_b _ h; omega))) | clear F174 | skip
 replace HG := HG.n1 G179
 clear G179
 have Fk15 := Fs180; clear Fs180
 simp only [V.spliceL, V.cellsL] at Fk15
 refine V.nil ?_
 refine V.tN ?_
 refine V.seq ?_
 have z183 : w168.heap.size ≤ w178.heap.size := by omega
 have hhF163_16 : w165.heap.size ≤ w178.heap.size := by omega
 try clear z174
 try clear z175
 try clear z176
 try clear z177
 try clear z178
 try clear z179
 try clear z180
 try clear z181
 try clear z182
 generalize eo16 : rfN o15 1099511627776 = o16 at F174
 generalize hq16_0 : (rdN (o15.bs.drop o15.i) 1099511627776).1.1 = q16_0 at Fk15 ⊢
 have hR : rAll b = ((⟨q1_0, q2_0, q3_0, q4_0, q5_0, q5_1, q5_2, q5_3, q5_4, q6_0, q7_0, q8_0, q9_0, q10_0, q11_0, q11_1, q12_0, q12_1, q13_0, q14_0, q15_0, q16_0⟩ : CmdV), o16) := by
  unfold rAll; rw [jN_eq hq1_0 eo1, jN_eq hq2_0 eo2, jN_eq hq3_0 eo3, jN_eq hq4_0 eo4, jM_eq hq5_0 hq5_1 hq5_2 hq5_3 hq5_4 eo5, jN_eq hq6_0 eo6, jT_eq hq7_0 eo7, jT_eq hq8_0 eo8, jT_eq hq9_0 eo9, jF_eq hq10_0 eo10, jS_eq hq11_0 hq11_1 eo11, jS_eq hq12_0 hq12_1 eo12, jF_eq hq13_0 eo13, jF_eq hq14_0 eo14, jW_eq hq15_0 eo15, jN_eq hq16_0 eo16]
 have hsz : SzOk (⟨q1_0, q2_0, q3_0, q4_0, q5_0, q5_1, q5_2, q5_3, q5_4, q6_0, q7_0, q8_0, q9_0, q10_0, q11_0, q11_1, q12_0, q12_1, q13_0, q14_0, q15_0, q16_0⟩ : CmdV) := ⟨hzq5_2, hzq7_0, hzq8_0, hzq9_0, hko⟩
 clear hq1_0
 clear eo1
 clear hq2_0
 clear eo2
 clear hq3_0
 clear eo3
 clear hq4_0
 clear eo4
 clear hq5_0
 clear hq5_1
 clear hq5_2
 clear hq5_3
 clear hq5_4
 clear eo5
 clear hq6_0
 clear eo6
 clear hq7_0
 clear eo7
 clear hq8_0
 clear eo8
 clear hq9_0
 clear eo9
 clear hq10_0
 clear eo10
 clear hq11_0
 clear hq11_1
 clear eo11
 clear hq12_0
 clear hq12_1
 clear eo12
 clear hq13_0
 clear eo13
 clear hq14_0
 clear eo14
 clear hq15_0
 clear eo15
 clear hq16_0
 clear eo16
 refine V.region ?_
 refine V.loadO T_ok Fk15 rfl rfl rfl rfl rfl ?_
 refine V.call (rencode_spec (d := (⟨q1_0, q2_0, q3_0, q4_0, q5_0, q5_1, q5_2, q5_3, q5_4, q6_0, q7_0, q8_0, q9_0, q10_0, q11_0, q11_1, q12_0, q12_1, q13_0, q14_0, q15_0, q16_0⟩ : CmdV)) F163.sl (fun k hk => by have := hk.2; omega) (by first | (with_reducible assumption) | exact hz | (constructor <;> first | exact hz.an | exact hz.fr | exact hz.to | exact hz.va | exact hz.ws | exact (by decide : (S []).size ≤ 9223372036854775807) | exact (fun x hx => nomatch (show x ∈ ([] : List (ByteArray × Int)) from hx))))) rfl rfl rfl ?_
 rintro _ w187 ⟨a184, c185, rfl, F186, G188⟩
 have z189 := V.Fr.size G188
 try replace F_b := F_b.gr G188
 try replace Fk2 := Fk2.gr G188
 try replace F163 := F163.gr G188
 try replace F174 := F174.gr G188
 try replace Fk15 := Fk15.gr G188
 replace HG := HG.grow G188
 clear G188
 refine V.run T_ok 5 rfl ?_
 refine V.nil ?_
 refine V.tN ?_
 refine V.seq ?_
 refine V.seq ?_
 obtain ⟨a190, c191, F193, F192⟩ := F174.ex
 refine V.region ?_
 refine V.run T_ok 3 rfl ?_
 refine V.loadO T_ok F193 rfl rfl rfl rfl rfl ?_
 refine V.run T_ok 1 rfl ?_
 refine V.orG T_ok 2 4 69 rfl rfl rfl rfl rfl rfl rfl rfl ?_
 refine V.run T_ok 1 rfl ?_
 refine V.split (j := 8) (t := 73) rfl rfl (fun g20_8 => ?_) (fun g20_8 => ?_)
 ·
  try replace g20_8 := V.dec g20_8
  try simp only [V.mk0, V.mk1, V.mk2, V.mk3] at g20_8
  refine V.run T_ok 6 rfl ?_
  refine V.nil ?_
  refine V.tN ?_
  refine V.condY rfl rfl ?_
  refine V.seq ?_
  refine V.region ?_
  refine V.mkStruct T_ok zero33 rfl rfl rfl rfl rfl ?_
  refine V.storeO Fk2 rfl rfl rfl rfl sz33 rfl rfl rfl rfl ?_
  rintro w194 G195 z197 Fs196
  clear Fk2
  have z198 := V.Fr.size G195
  first | replace F_b := F_b.mb G195 hD_b | clear F_b | skip
  first | replace F163 := F163.ma G195 | clear F163 | skip
  first | replace F174 := F174.mv1 G195 (by first | exact ⟨by omega, by assumption⟩ | exact ⟨by omega, fun h => absurd h.1 (by assumption)⟩ | exact ⟨by omega, fun h => absurd h.1.1 (by assumption)⟩ | exact ⟨by omega, fun h => by first | (have h2 := h.1; have h3 := h.2; omega) | (have h2 := h; dsimp only at h2; omega)⟩ | first | omega | exact fun h => h | exact ⟨by omega, fun h => h⟩ | (intro h; first | (have := hD_b _ h; omega)) | (refine ⟨by omega, ?_⟩; intro h; first | (have := hD_b _ h; omega))) | clear F174 | skip
  first | replace Fk15 := Fk15.mv1 G195 (by omega) | clear Fk15 | skip
  first | replace F186 := F186.ma G195 | clear F186 | skip
  first | replace F192 := F192.ma G195 | clear F192 | skip
  first | replace F193 := F193.mv1 G195 (by omega) | clear F193 | skip
  replace HG := HG.n1 G195
  clear G195
  have Fk2 := Fs196; clear Fs196
  simp only [V.spliceL, V.cellsL] at Fk2
  refine V.run T_ok 1 rfl ?_
  refine V.nil ?_
  refine V.tN ?_
  refine V.ret ?_
  refine V.tR ?_
  refine V.done2 rfl (V.resV_cell T_ok Fk2 rfl rfl) (V.resV_tmp rfl) ?_
  rw [show decC b = none from decR_no hR (by rintro ⟨h1, h2, h3⟩; first | (rcases g20_8 with g | g; (rw [h1] at g; cases g); exact g (if_pos h2)) | exact h20 (by rw [if_pos h2, h3]))]
  exact ⟨none, 0, (by first | rfl | simp only [List.length_set]), V.Row.nil, HG⟩
 ·
  try replace g20_8 := V.dec g20_8
  try simp only [V.mk0, V.mk1, V.mk2, V.mk3] at g20_8
  refine V.run T_ok 1 rfl ?_
  refine V.yes rfl rfl rfl ?_
  refine V.toStr F186.sl Try.underlying22 Try.underlying5 Try.underlying9 rfl rfl rfl rfl ?_
  refine V.run T_ok 1 rfl ?_
  refine V.yes rfl rfl rfl ?_
  refine V.toStr F_b Try.underlying22 Try.underlying5 Try.underlying9 rfl rfl rfl rfl ?_
  refine V.run T_ok 2 rfl ?_
  refine V.nil ?_
  refine V.tN ?_
  refine V.condT rfl (fun h20 => ?_) (fun h20 => ?_)
  ·
   try replace h20 := V.dec h20
   try simp only [V.mk0, V.mk1, V.mk2, V.mk3] at h20
   refine V.seq ?_
   refine V.region ?_
   refine V.mkStruct T_ok zero33 rfl rfl rfl rfl rfl ?_
   refine V.storeO Fk2 rfl rfl rfl rfl sz33 rfl rfl rfl rfl ?_
   rintro w199 G200 z202 Fs201
   clear Fk2
   have z203 := V.Fr.size G200
   first | replace F_b := F_b.mb G200 hD_b | clear F_b | skip
   first | replace F163 := F163.ma G200 | clear F163 | skip
   first | replace F174 := F174.mv1 G200 (by first | exact ⟨by omega, by assumption⟩ | exact ⟨by omega, fun h => absurd h.1 (by assumption)⟩ | exact ⟨by omega, fun h => absurd h.1.1 (by assumption)⟩ | exact ⟨by omega, fun h => by first | (have h2 := h.1; have h3 := h.2; omega) | (have h2 := h; dsimp only at h2; omega)⟩ | first | omega | exact fun h => h | exact ⟨by omega, fun h => h⟩ | (intro h; first | (have := hD_b _ h; omega)) | (refine ⟨by omega, ?_⟩; intro h; first | (have := hD_b _ h; omega))) | clear F174 | skip
   first | replace Fk15 := Fk15.mv1 G200 (by omega) | clear Fk15 | skip
   first | replace F186 := F186.ma G200 | clear F186 | skip
   first | replace F192 := F192.ma G200 | clear F192 | skip
   first | replace F193 := F193.mv1 G200 (by omega) | clear F193 | skip
   replace HG := HG.n1 G200
   clear G200
   have Fk2 := Fs201; clear Fs201
   simp only [V.spliceL, V.cellsL] at Fk2
   refine V.run T_ok 1 rfl ?_
   refine V.nil ?_
   refine V.tN ?_
   refine V.ret ?_
   refine V.tR ?_
   refine V.done2 rfl (V.resV_cell T_ok Fk2 rfl rfl) (V.resV_tmp rfl) ?_
   rw [show decC b = none from decR_no hR (by rintro ⟨h1, h2, h3⟩; first | (rcases g20_8 with g | g; (rw [h1] at g; cases g); exact g (if_pos h2)) | exact h20 (by rw [if_pos h2, h3]))]
   exact ⟨none, 0, (by first | rfl | simp only [List.length_set]), V.Row.nil, HG⟩
  ·
   try replace h20 := V.dec h20
   try simp only [V.mk0, V.mk1, V.mk2, V.mk3] at h20
   refine V.skip ?_
   refine V.tN ?_
   refine V.seq ?_
   refine V.region ?_
   refine V.loadO T_ok Fk15 rfl rfl rfl rfl rfl ?_
   refine V.storeO Fk2 rfl rfl rfl rfl sz33 rfl rfl rfl rfl ?_
   rintro w204 G205 z207 Fs206
   clear Fk2
   have z208 := V.Fr.size G205
   first | replace F_b := F_b.mb G205 hD_b | clear F_b | skip
   first | replace F163 := F163.ma G205 | clear F163 | skip
   first | replace F174 := F174.mv1 G205 (by first | exact ⟨by omega, by assumption⟩ | exact ⟨by omega, fun h => absurd h.1 (by assumption)⟩ | exact ⟨by omega, fun h => absurd h.1.1 (by assumption)⟩ | exact ⟨by omega, fun h => by first | (have h2 := h.1; have h3 := h.2; omega) | (have h2 := h; dsimp only at h2; omega)⟩ | first | omega | exact fun h => h | exact ⟨by omega, fun h => h⟩ | (intro h; first | (have := hD_b _ h; omega)) | (refine ⟨by omega, ?_⟩; intro h; first | (have := hD_b _ h; omega))) | clear F174 | skip
   first | replace Fk15 := Fk15.mv1 G205 (by omega) | clear Fk15 | skip
   first | replace F186 := F186.ma G205 | clear F186 | skip
   first | replace F192 := F192.ma G205 | clear F192 | skip
   first | replace F193 := F193.mv1 G205 (by omega) | clear F193 | skip
   replace HG := HG.n1 G205
   clear G205
   have Fk2 := Fs206; clear Fs206
   simp only [V.spliceL, V.cellsL] at Fk2
   refine V.run T_ok 1 rfl ?_
   refine V.nil ?_
   refine V.tN ?_
   refine V.ret ?_
   refine V.done2 rfl (V.resV_cell T_ok Fk2 rfl rfl) (V.resV_tmp rfl) ?_
   obtain ⟨-, g8⟩ := g20_8
   have hcb := err_ok g8
   rw [if_pos hcb] at h20
   rw [show decC b = some ⟨q1_0, q2_0, q3_0, q4_0, q5_0, q5_1, q5_2, q5_3, q5_4, q6_0, q7_0, q8_0, q9_0, q10_0, q11_0, q11_1, q12_0, q12_1, q13_0, q14_0, q15_0, q16_0⟩ from decR_yes hcb (by first | exact h20 | exact V.S_inj.1 h20)]
   exact ⟨a161, c162, (by first | rfl | simp only [List.length_set]), F163.re, HG⟩

set_option maxHeartbeats 900000 in
set_option maxRecDepth 10000 in
theorem rsame_spec {w : World} {a : CmdV} {D_p : Nat → Prop} {c_p : Nat} {a_p : Option Addr} (F_p : Sl V.Cod.write w D_p a_p c_p a.ws) (hD_p : ∀ k, D_p k → k < w.heap.size) {b : CmdV} {D_q : Nat → Prop} {c_q : Nat} {a_q : Option Addr} (F_q : Sl V.Cod.write w D_q a_q c_q b.ws) (hD_q : ∀ k, D_q k → k < w.heap.size)   :
    Meets Try.prog 11 [.agg #[.int .i64 a.kd, .int .i64 a.id, .int .i64 a.le, .int .i64 a.nd, .int .i64 a.ti, .int .i64 a.te, .string a.an, .int .i64 a.sw, .int .i64 a.sl, .int .i64 a.sq, .string a.fr, .string a.to, .string a.va, .bool a.go, .int .i64 a.aw, .int .i64 a.al, .int .i64 a.lw, .int .i64 a.ll, .bool a.cm, .bool a.st, .slice a_p a.ws.length c_p, .int .i64 a.pr], .agg #[.int .i64 b.kd, .int .i64 b.id, .int .i64 b.le, .int .i64 b.nd, .int .i64 b.ti, .int .i64 b.te, .string b.an, .int .i64 b.sw, .int .i64 b.sl, .int .i64 b.sq, .string b.fr, .string b.to, .string b.va, .bool b.go, .int .i64 b.aw, .int .i64 b.al, .int .i64 b.lw, .int .i64 b.ll, .bool b.cm, .bool b.st, .slice a_q b.ws.length c_q, .int .i64 b.pr]] w fun r w' => r = .bool (smB a b) ∧ Gr w w' := by
 have HG := V.Fr.refl [] w
 refine V.enter (n := 131) Try.func11 rfl rfl (by decide) rfl ?_
 refine V.seq ?_
 refine V.region ?_
 refine V.box rfl rfl rfl rfl ?_
 rintro k1 w3 s5 s6 G4 Fk2
 have z7 := V.Fr.size G4
 try replace F_p := F_p.gr G4
 try replace F_q := F_q.gr G4
 replace HG := HG.grow G4
 clear G4
 try simp only [V.cellsL, V.spliceL] at Fk2
 refine V.box rfl rfl rfl rfl ?_
 rintro k8 w10 s12 s13 G11 Fk9
 have z14 := V.Fr.size G11
 try replace F_p := F_p.gr G11
 try replace F_q := F_q.gr G11
 try replace Fk2 := Fk2.gr G11
 replace HG := HG.grow G11
 clear G11
 try simp only [V.cellsL, V.spliceL] at Fk9
 refine V.run T_ok 1 rfl ?_
 refine V.nil ?_
 refine V.tN ?_
 refine V.seq ?_
 refine V.seq ?_
 refine V.region ?_
 refine V.run T_ok 1 rfl ?_
 refine V.loadO T_ok Fk2 rfl rfl rfl rfl rfl ?_
 refine V.run T_ok 2 rfl ?_
 refine V.loadO T_ok Fk9 rfl rfl rfl rfl rfl ?_
 refine V.run T_ok 2 rfl ?_
 refine V.nil ?_
 refine V.tN ?_
 refine V.condT rfl (fun h1 => ?_) (fun h1 => ?_)
 ·
  try replace h1 := V.dec h1
  try simp only [V.mk0, V.mk1, V.mk2, V.mk3] at h1
  refine V.seq ?_
  refine V.region ?_
  refine V.run T_ok 1 rfl ?_
  refine V.nil ?_
  refine V.tN ?_
  refine V.ret ?_
  refine V.tR ?_
  refine V.done rfl ?_
  exact ⟨congrArg Value.bool (by unfold smB; rw [decide_eq_false (p := a.ws = b.ws) (fun h => h1 (by rw [h]))]; simp), HG⟩
 ·
  try replace h1 := V.dec h1
  try simp only [V.mk0, V.mk1, V.mk2, V.mk3] at h1
  refine V.skip ?_
  refine V.tN ?_
  refine V.seq ?_
  refine V.seq ?_
  refine V.region ?_
  refine V.run T_ok 1 rfl ?_
  refine V.nil ?_
  refine V.tN ?_
  refine V.block ?_
  have hl63 := F_p.len63
  refine V.loopM (fun m e v16 => Fr [] w v16 ∧ w10.heap.size ≤ v16.heap.size ∧ Sl V.Cod.write v16 D_p a_p c_p a.ws ∧ Sl V.Cod.write v16 D_q a_q c_q b.ws ∧ Cells v16 k1 [.int .i64 a.kd, .int .i64 a.id, .int .i64 a.le, .int .i64 a.nd, .int .i64 a.ti, .int .i64 a.te, .string a.an, .int .i64 a.sw, .int .i64 a.sl, .int .i64 a.sq, .string a.fr, .string a.to, .string a.va, .bool a.go, .int .i64 a.aw, .int .i64 a.al, .int .i64 a.lw, .int .i64 a.ll, .bool a.cm, .bool a.st, .slice a_p a.ws.length c_p, .int .i64 a.pr] 33 ∧ Cells v16 k8 [.int .i64 b.kd, .int .i64 b.id, .int .i64 b.le, .int .i64 b.nd, .int .i64 b.ti, .int .i64 b.te, .string b.an, .int .i64 b.sw, .int .i64 b.sl, .int .i64 b.sq, .string b.fr, .string b.to, .string b.va, .bool b.go, .int .i64 b.aw, .int .i64 b.al, .int .i64 b.lw, .int .i64 b.ll, .bool b.cm, .bool b.st, .slice a_q b.ws.length c_q, .int .i64 b.pr] 33 ∧ ∃ (i : Nat) , m = a.ws.length - i ∧ i ≤ a.ws.length ∧ (∀ j (hj : j < a.ws.length) (hj2 : j < b.ws.length), j < i → a.ws[j] = b.ws[j]) ∧ e 2 = .pointer (some ⟨k1, 0, none⟩) ∧ e 3 = .pointer (some ⟨k8, 0, none⟩) ∧ e 5 = .int .i64 (i : Int)) ?_ ?_
  ·
   exact ⟨_, HG, (by omega), F_p, F_q, Fk2, Fk9, (0), rfl, (by omega), (fun j hj hj2 h => absurd h (Nat.not_lt_zero _)), rfl, rfl, rfl⟩
  clear HG F_p F_q Fk2 Fk9
  rintro _ e v16 ⟨HG, z17, F_p, F_q, Fk2, Fk9, i, rfl, hi, hno, he0_2, he0_3, he0_5⟩
  refine V.knownC (t := 2) he0_2 ?_
  refine V.knownC (t := 3) he0_3 ?_
  refine V.knownC (t := 5) he0_5 ?_
  refine V.seq ?_
  refine V.seq ?_
  refine V.region ?_
  refine V.run T_ok 2 rfl ?_
  refine V.loadO T_ok Fk2 rfl rfl rfl rfl rfl ?_
  refine V.run T_ok 2 rfl ?_
  refine V.nil ?_
  refine V.tN ?_
  refine V.condT rfl (fun h4 => ?_) (fun h4 => ?_)
  ·
   try replace h4 := V.dec h4
   try simp only [V.mk0, V.mk1, V.mk2, V.mk3] at h4
   refine V.skip ?_
   refine V.tN ?_
   refine V.seq ?_
   refine V.block ?_
   refine V.seq ?_
   refine V.drawQ mixed (by kernel_rfl) ?_
   refine V.qrun T_ok 1 rfl ?_
   refine V.qloadO T_ok Fk2 rfl rfl rfl rfl rfl ?_
   refine V.qrun T_ok 1 rfl ?_
   refine V.qelem T_ok F_p rfl rfl sz65 rfl rfl rfl rfl (by first | omega | (simp only [List.length_take, List.length_drop, List.length_append, List.length_cons, List.length_nil, List.length_replicate, List.length_set, V.length_data, V.S_size]; omega)) (by first | omega | (simp only [List.length_take, List.length_drop, List.length_append, List.length_cons, List.length_nil, List.length_replicate, List.length_set, V.length_data, V.S_size]; omega)) ?_
   rintro b18 o19 cs20 hx21 hb22 hR25 hA23
   obtain ⟨x24, hx24⟩ : ∃ z', a.ws[((i : Int)).toNat] = z' := ⟨_, rfl⟩
   rw [hx24] at hR25
   obtain ⟨_, _, rfl, rfl, rfl⟩ := hR25
   try simp only [Int.toNat_natCast] at hx24 hx21
   refine V.qloadA T_ok (o0 := o19) (off := 0) hA23 rfl rfl rfl rfl rfl ?_
   refine V.qrun T_ok 1 rfl ?_
   refine V.qloadO T_ok Fk9 rfl rfl rfl rfl rfl ?_
   refine V.qrun T_ok 1 rfl ?_
   refine V.qelem T_ok F_q rfl rfl sz65 rfl rfl rfl rfl (by first | omega | (simp only [List.length_take, List.length_drop, List.length_append, List.length_cons, List.length_nil, List.length_replicate, List.length_set, V.length_data, V.S_size]; omega)) (by first | omega | (simp only [List.length_take, List.length_drop, List.length_append, List.length_cons, List.length_nil, List.length_replicate, List.length_set, V.length_data, V.S_size]; omega)) ?_
   rintro b26 o27 cs28 hx29 hb30 hR33 hA31
   obtain ⟨x32, hx32⟩ : ∃ z', b.ws[((i : Int)).toNat] = z' := ⟨_, rfl⟩
   rw [hx32] at hR33
   obtain ⟨_, _, rfl, rfl, rfl⟩ := hR33
   try simp only [Int.toNat_natCast] at hx32 hx29
   refine V.qloadA T_ok (o0 := o27) (off := 0) hA31 rfl rfl rfl rfl rfl ?_
   refine V.qstep rfl rfl (fun _ _ => V.neA_run rfl rfl rfl eqG65 (eqS65 _)) ?_
   refine V.qnil ?_
   rintro w34 G35
   have z36 := V.Fr.size G35
   try replace F_p := F_p.gr G35
   try replace F_q := F_q.gr G35
   try replace Fk2 := Fk2.gr G35
   try replace Fk9 := Fk9.gr G35
   replace HG := HG.grow G35
   clear G35
   refine V.tN ?_
   refine V.condT rfl (fun h6 => ?_) (fun h6 => ?_)
   ·
    try replace h6 := V.dec h6
    try simp only [V.mk0, V.mk1, V.mk2, V.mk3] at h6
    refine V.seq ?_
    refine V.region ?_
    refine V.run T_ok 1 rfl ?_
    refine V.nil ?_
    refine V.tN ?_
    refine V.ret ?_
    refine V.bR ?_
    refine V.tR ?_
    refine V.tR ?_
    refine V.bR ?_
    refine V.tR ?_
    refine V.done rfl ?_
    exact ⟨congrArg Value.bool (by unfold smB; rw [decide_eq_false (p := a.ws = b.ws) (fun h => by subst_vars; simp [h] at h6)]; simp), HG⟩
   ·
    try replace h6 := V.dec h6
    try simp only [V.mk0, V.mk1, V.mk2, V.mk3] at h6
    refine V.skip ?_
    refine V.bN ?_
    refine V.tN ?_
    refine V.region ?_
    refine V.run T_ok 1 rfl ?_
    refine V.addN rfl rfl rfl rfl rfl (by first | omega | (simp only [List.length_take, List.length_drop, List.length_append, List.length_cons, List.length_nil, List.length_replicate, List.length_set, V.length_data, V.S_size]; omega)) (by first | omega | (simp only [List.length_take, List.length_drop, List.length_append, List.length_cons, List.length_nil, List.length_replicate, List.length_set, V.length_data, V.S_size]; omega)) ?_
    refine V.run T_ok 1 rfl ?_
    refine V.nil ?_
    refine V.tN ?_
    exact ⟨_, (by omega), HG, (by omega), F_p, F_q, Fk2, Fk9, (i + 1), rfl, (by omega), (fun j hj hj2 h => by rcases Nat.lt_or_ge j i with h2 | h2; exact hno j hj hj2 h2; obtain rfl : j = i := (by omega); subst_vars; grind), rfl, rfl, rfl⟩
  ·
   try replace h4 := V.dec h4
   try simp only [V.mk0, V.mk1, V.mk2, V.mk3] at h4
   refine V.exit ?_
   refine V.tX ?_
   refine V.tX ?_
   refine V.bE ?_
   refine V.tN ?_
   refine V.seqJ (fun e v38 => Fr [] w v38 ∧ v16.heap.size ≤ v38.heap.size ∧ Sl V.Cod.write v38 D_p a_p c_p a.ws ∧ Sl V.Cod.write v38 D_q a_q c_q b.ws ∧ Cells v38 k1 [.int .i64 a.kd, .int .i64 a.id, .int .i64 a.le, .int .i64 a.nd, .int .i64 a.ti, .int .i64 a.te, .string a.an, .int .i64 a.sw, .int .i64 a.sl, .int .i64 a.sq, .string a.fr, .string a.to, .string a.va, .bool a.go, .int .i64 a.aw, .int .i64 a.al, .int .i64 a.lw, .int .i64 a.ll, .bool a.cm, .bool a.st, .slice a_p a.ws.length c_p, .int .i64 a.pr] 33 ∧ Cells v38 k8 [.int .i64 b.kd, .int .i64 b.id, .int .i64 b.le, .int .i64 b.nd, .int .i64 b.ti, .int .i64 b.te, .string b.an, .int .i64 b.sw, .int .i64 b.sl, .int .i64 b.sq, .string b.fr, .string b.to, .string b.va, .bool b.go, .int .i64 b.aw, .int .i64 b.al, .int .i64 b.lw, .int .i64 b.ll, .bool b.cm, .bool b.st, .slice a_q b.ws.length c_q, .int .i64 b.pr] 33 ∧ e 2 = .pointer (some ⟨k1, 0, none⟩) ∧ e 3 = .pointer (some ⟨k8, 0, none⟩) ∧ e 6 = .bool (decide (a.kd = b.kd ∧ a.id = b.id ∧ a.le = b.le ∧ a.nd = b.nd ∧ (a.ti = b.ti ∧ a.te = b.te ∧ a.an = b.an ∧ a.sw = b.sw ∧ a.sl = b.sl) ∧ a.sq = b.sq ∧ a.fr = b.fr ∧ a.to = b.to)) ∧ True) ?_ ?_
   ·
    refine V.region ?_
    refine V.run T_ok 1 rfl ?_
    refine V.loadO T_ok Fk2 rfl rfl rfl rfl rfl ?_
    refine V.run T_ok 1 rfl ?_
    refine V.loadO T_ok Fk9 rfl rfl rfl rfl rfl ?_
    refine V.run T_ok 2 rfl ?_
    refine V.split (j := 5) (t := 38) rfl rfl (fun g8_5 => ?_) (fun g8_5 => ?_)
    ·
     try replace g8_5 := V.dec g8_5
     try simp only [V.mk0, V.mk1, V.mk2, V.mk3] at g8_5
     refine V.run T_ok 1 rfl ?_
     refine V.yes rfl rfl rfl ?_
     refine V.loadO T_ok Fk2 rfl rfl rfl rfl rfl ?_
     refine V.run T_ok 1 rfl ?_
     refine V.yes rfl rfl rfl ?_
     refine V.loadO T_ok Fk9 rfl rfl rfl rfl rfl ?_
     refine V.run T_ok 3 rfl ?_
     refine V.split (j := 12) (t := 45) rfl rfl (fun g8_12 => ?_) (fun g8_12 => ?_)
     ·
      try replace g8_12 := V.dec g8_12
      try simp only [V.mk0, V.mk1, V.mk2, V.mk3] at g8_12
      refine V.run T_ok 1 rfl ?_
      refine V.yes rfl rfl rfl ?_
      refine V.loadO T_ok Fk2 rfl rfl rfl rfl rfl ?_
      refine V.run T_ok 1 rfl ?_
      refine V.yes rfl rfl rfl ?_
      refine V.loadO T_ok Fk9 rfl rfl rfl rfl rfl ?_
      refine V.run T_ok 3 rfl ?_
      refine V.split (j := 19) (t := 52) rfl rfl (fun g8_19 => ?_) (fun g8_19 => ?_)
      ·
       try replace g8_19 := V.dec g8_19
       try simp only [V.mk0, V.mk1, V.mk2, V.mk3] at g8_19
       refine V.run T_ok 1 rfl ?_
       refine V.yes rfl rfl rfl ?_
       refine V.loadO T_ok Fk2 rfl rfl rfl rfl rfl ?_
       refine V.run T_ok 1 rfl ?_
       refine V.yes rfl rfl rfl ?_
       refine V.loadO T_ok Fk9 rfl rfl rfl rfl rfl ?_
       refine V.run T_ok 3 rfl ?_
       refine V.split (j := 26) (t := 59) rfl rfl (fun g8_26 => ?_) (fun g8_26 => ?_)
       ·
        try replace g8_26 := V.dec g8_26
        try simp only [V.mk0, V.mk1, V.mk2, V.mk3] at g8_26
        refine V.run T_ok 1 rfl ?_
        refine V.yes rfl rfl rfl ?_
        refine V.loadO T_ok Fk2 rfl rfl rfl rfl rfl ?_
        refine V.run T_ok 1 rfl ?_
        refine V.yes rfl rfl rfl ?_
        refine V.loadO T_ok Fk9 rfl rfl rfl rfl rfl ?_
        refine V.yes rfl rfl rfl ?_
        refine V.step rfl rfl (V.eqA_run rfl rfl rfl eqG28 (eqS28 _)) ?_
        refine V.run T_ok 2 rfl ?_
        refine V.split (j := 33) (t := 66) rfl rfl (fun g8_33 => ?_) (fun g8_33 => ?_)
        ·
         try replace g8_33 := V.dec g8_33
         try simp only [V.mk0, V.mk1, V.mk2, V.mk3] at g8_33
         refine V.run T_ok 1 rfl ?_
         refine V.yes rfl rfl rfl ?_
         refine V.loadO T_ok Fk2 rfl rfl rfl rfl rfl ?_
         refine V.run T_ok 1 rfl ?_
         refine V.yes rfl rfl rfl ?_
         refine V.loadO T_ok Fk9 rfl rfl rfl rfl rfl ?_
         refine V.run T_ok 3 rfl ?_
         refine V.split (j := 40) (t := 73) rfl rfl (fun g8_40 => ?_) (fun g8_40 => ?_)
         ·
          try replace g8_40 := V.dec g8_40
          try simp only [V.mk0, V.mk1, V.mk2, V.mk3] at g8_40
          refine V.run T_ok 1 rfl ?_
          refine V.yes rfl rfl rfl ?_
          refine V.loadO T_ok Fk2 rfl rfl rfl rfl rfl ?_
          refine V.run T_ok 1 rfl ?_
          refine V.yes rfl rfl rfl ?_
          refine V.loadO T_ok Fk9 rfl rfl rfl rfl rfl ?_
          refine V.yes rfl rfl rfl ?_
          refine V.step rfl rfl (V.eqA_run rfl rfl rfl eqG30 (eqS30 _)) ?_
          refine V.run T_ok 2 rfl ?_
          refine V.nil ?_
          refine V.tN ?_
          exact ⟨HG, (by omega), F_p, F_q, Fk2, Fk9, rfl, rfl, (congrArg Value.bool (by first | rfl | grind)), trivial⟩
         ·
          try replace g8_40 := V.dec g8_40
          try simp only [V.mk0, V.mk1, V.mk2, V.mk3] at g8_40
          refine V.run T_ok 7 rfl ?_
          refine V.nil ?_
          refine V.tN ?_
          exact ⟨HG, (by omega), F_p, F_q, Fk2, Fk9, rfl, rfl, (congrArg Value.bool (by first | rfl | grind)), trivial⟩
        ·
         try replace g8_33 := V.dec g8_33
         try simp only [V.mk0, V.mk1, V.mk2, V.mk3] at g8_33
         refine V.run T_ok 14 rfl ?_
         refine V.nil ?_
         refine V.tN ?_
         exact ⟨HG, (by omega), F_p, F_q, Fk2, Fk9, rfl, rfl, (congrArg Value.bool (by first | rfl | grind)), trivial⟩
       ·
        try replace g8_26 := V.dec g8_26
        try simp only [V.mk0, V.mk1, V.mk2, V.mk3] at g8_26
        refine V.run T_ok 21 rfl ?_
        refine V.nil ?_
        refine V.tN ?_
        exact ⟨HG, (by omega), F_p, F_q, Fk2, Fk9, rfl, rfl, (congrArg Value.bool (by first | rfl | grind)), trivial⟩
      ·
       try replace g8_19 := V.dec g8_19
       try simp only [V.mk0, V.mk1, V.mk2, V.mk3] at g8_19
       refine V.run T_ok 28 rfl ?_
       refine V.nil ?_
       refine V.tN ?_
       exact ⟨HG, (by omega), F_p, F_q, Fk2, Fk9, rfl, rfl, (congrArg Value.bool (by first | rfl | grind)), trivial⟩
     ·
      try replace g8_12 := V.dec g8_12
      try simp only [V.mk0, V.mk1, V.mk2, V.mk3] at g8_12
      refine V.run T_ok 35 rfl ?_
      refine V.nil ?_
      refine V.tN ?_
      exact ⟨HG, (by omega), F_p, F_q, Fk2, Fk9, rfl, rfl, (congrArg Value.bool (by first | rfl | grind)), trivial⟩
    ·
     try replace g8_5 := V.dec g8_5
     try simp only [V.mk0, V.mk1, V.mk2, V.mk3] at g8_5
     refine V.run T_ok 42 rfl ?_
     refine V.nil ?_
     refine V.tN ?_
     exact ⟨HG, (by omega), F_p, F_q, Fk2, Fk9, rfl, rfl, (congrArg Value.bool (by first | rfl | grind)), trivial⟩
   clear HG F_p F_q Fk2 Fk9
   rintro e v38 ⟨HG, z39, F_p, F_q, Fk2, Fk9, hjn37_2, hjn37_3, hjn37_6, -⟩
   refine V.knownC (t := 2) hjn37_2 ?_
   refine V.knownC (t := 3) hjn37_3 ?_
   refine V.knownC (t := 6) hjn37_6 ?_
   have hwe : a.ws = b.ws := List.ext_getElem (by omega) fun j h1 h2 => hno j h1 h2 (by omega)
   refine V.seqJ (fun e v41 => Fr [] w v41 ∧ v38.heap.size ≤ v41.heap.size ∧ Sl V.Cod.write v41 D_p a_p c_p a.ws ∧ Sl V.Cod.write v41 D_q a_q c_q b.ws ∧ Cells v41 k1 [.int .i64 a.kd, .int .i64 a.id, .int .i64 a.le, .int .i64 a.nd, .int .i64 a.ti, .int .i64 a.te, .string a.an, .int .i64 a.sw, .int .i64 a.sl, .int .i64 a.sq, .string a.fr, .string a.to, .string a.va, .bool a.go, .int .i64 a.aw, .int .i64 a.al, .int .i64 a.lw, .int .i64 a.ll, .bool a.cm, .bool a.st, .slice a_p a.ws.length c_p, .int .i64 a.pr] 33 ∧ Cells v41 k8 [.int .i64 b.kd, .int .i64 b.id, .int .i64 b.le, .int .i64 b.nd, .int .i64 b.ti, .int .i64 b.te, .string b.an, .int .i64 b.sw, .int .i64 b.sl, .int .i64 b.sq, .string b.fr, .string b.to, .string b.va, .bool b.go, .int .i64 b.aw, .int .i64 b.al, .int .i64 b.lw, .int .i64 b.ll, .bool b.cm, .bool b.st, .slice a_q b.ws.length c_q, .int .i64 b.pr] 33 ∧ e 6 = .bool (decide (a.kd = b.kd ∧ a.id = b.id ∧ a.le = b.le ∧ a.nd = b.nd ∧ (a.ti = b.ti ∧ a.te = b.te ∧ a.an = b.an ∧ a.sw = b.sw ∧ a.sl = b.sl) ∧ a.sq = b.sq ∧ a.fr = b.fr ∧ a.to = b.to)) ∧ e 7 = .bool (decide (a.va = b.va ∧ a.go = b.go ∧ (a.aw = b.aw ∧ a.al = b.al) ∧ (a.lw = b.lw ∧ a.ll = b.ll) ∧ a.cm = b.cm ∧ a.st = b.st ∧ a.pr = b.pr)) ∧ True) ?_ ?_
   ·
    refine V.region ?_
    refine V.run T_ok 1 rfl ?_
    refine V.loadO T_ok Fk2 rfl rfl rfl rfl rfl ?_
    refine V.run T_ok 1 rfl ?_
    refine V.loadO T_ok Fk9 rfl rfl rfl rfl rfl ?_
    refine V.run T_ok 2 rfl ?_
    refine V.split (j := 5) (t := 85) rfl rfl (fun g9_5 => ?_) (fun g9_5 => ?_)
    ·
     try replace g9_5 := V.dec g9_5
     try simp only [V.mk0, V.mk1, V.mk2, V.mk3] at g9_5
     refine V.run T_ok 1 rfl ?_
     refine V.yes rfl rfl rfl ?_
     refine V.loadO T_ok Fk2 rfl rfl rfl rfl rfl ?_
     refine V.run T_ok 1 rfl ?_
     refine V.yes rfl rfl rfl ?_
     refine V.loadO T_ok Fk9 rfl rfl rfl rfl rfl ?_
     refine V.run T_ok 3 rfl ?_
     refine V.split (j := 12) (t := 92) rfl rfl (fun g9_12 => ?_) (fun g9_12 => ?_)
     ·
      try replace g9_12 := V.dec g9_12
      try simp only [V.mk0, V.mk1, V.mk2, V.mk3] at g9_12
      refine V.run T_ok 1 rfl ?_
      refine V.yes rfl rfl rfl ?_
      refine V.loadO T_ok Fk2 rfl rfl rfl rfl rfl ?_
      refine V.run T_ok 1 rfl ?_
      refine V.yes rfl rfl rfl ?_
      refine V.loadO T_ok Fk9 rfl rfl rfl rfl rfl ?_
      refine V.yes rfl rfl rfl ?_
      refine V.step rfl rfl (V.eqA_run rfl rfl rfl eqG26 (eqS26 _)) ?_
      refine V.run T_ok 2 rfl ?_
      refine V.split (j := 19) (t := 99) rfl rfl (fun g9_19 => ?_) (fun g9_19 => ?_)
      ·
       try replace g9_19 := V.dec g9_19
       try simp only [V.mk0, V.mk1, V.mk2, V.mk3] at g9_19
       refine V.run T_ok 1 rfl ?_
       refine V.yes rfl rfl rfl ?_
       refine V.loadO T_ok Fk2 rfl rfl rfl rfl rfl ?_
       refine V.run T_ok 1 rfl ?_
       refine V.yes rfl rfl rfl ?_
       refine V.loadO T_ok Fk9 rfl rfl rfl rfl rfl ?_
       refine V.yes rfl rfl rfl ?_
       refine V.step rfl rfl (V.eqA_run rfl rfl rfl eqG26 (eqS26 _)) ?_
       refine V.run T_ok 2 rfl ?_
       refine V.split (j := 26) (t := 106) rfl rfl (fun g9_26 => ?_) (fun g9_26 => ?_)
       ·
        try replace g9_26 := V.dec g9_26
        try simp only [V.mk0, V.mk1, V.mk2, V.mk3] at g9_26
        refine V.run T_ok 1 rfl ?_
        refine V.yes rfl rfl rfl ?_
        refine V.loadO T_ok Fk2 rfl rfl rfl rfl rfl ?_
        refine V.run T_ok 1 rfl ?_
        refine V.yes rfl rfl rfl ?_
        refine V.loadO T_ok Fk9 rfl rfl rfl rfl rfl ?_
        refine V.run T_ok 3 rfl ?_
        refine V.split (j := 33) (t := 113) rfl rfl (fun g9_33 => ?_) (fun g9_33 => ?_)
        ·
         try replace g9_33 := V.dec g9_33
         try simp only [V.mk0, V.mk1, V.mk2, V.mk3] at g9_33
         refine V.run T_ok 1 rfl ?_
         refine V.yes rfl rfl rfl ?_
         refine V.loadO T_ok Fk2 rfl rfl rfl rfl rfl ?_
         refine V.run T_ok 1 rfl ?_
         refine V.yes rfl rfl rfl ?_
         refine V.loadO T_ok Fk9 rfl rfl rfl rfl rfl ?_
         refine V.run T_ok 3 rfl ?_
         refine V.split (j := 40) (t := 120) rfl rfl (fun g9_40 => ?_) (fun g9_40 => ?_)
         ·
          try replace g9_40 := V.dec g9_40
          try simp only [V.mk0, V.mk1, V.mk2, V.mk3] at g9_40
          refine V.run T_ok 1 rfl ?_
          refine V.yes rfl rfl rfl ?_
          refine V.loadO T_ok Fk2 rfl rfl rfl rfl rfl ?_
          refine V.run T_ok 1 rfl ?_
          refine V.yes rfl rfl rfl ?_
          refine V.loadO T_ok Fk9 rfl rfl rfl rfl rfl ?_
          refine V.run T_ok 3 rfl ?_
          refine V.nil ?_
          refine V.tN ?_
          exact ⟨HG, (by omega), F_p, F_q, Fk2, Fk9, rfl, (congrArg Value.bool (by first | rfl | grind)), trivial⟩
         ·
          try replace g9_40 := V.dec g9_40
          try simp only [V.mk0, V.mk1, V.mk2, V.mk3] at g9_40
          refine V.run T_ok 7 rfl ?_
          refine V.nil ?_
          refine V.tN ?_
          exact ⟨HG, (by omega), F_p, F_q, Fk2, Fk9, rfl, (congrArg Value.bool (by first | rfl | grind)), trivial⟩
        ·
         try replace g9_33 := V.dec g9_33
         try simp only [V.mk0, V.mk1, V.mk2, V.mk3] at g9_33
         refine V.run T_ok 14 rfl ?_
         refine V.nil ?_
         refine V.tN ?_
         exact ⟨HG, (by omega), F_p, F_q, Fk2, Fk9, rfl, (congrArg Value.bool (by first | rfl | grind)), trivial⟩
       ·
        try replace g9_26 := V.dec g9_26
        try simp only [V.mk0, V.mk1, V.mk2, V.mk3] at g9_26
        refine V.run T_ok 21 rfl ?_
        refine V.nil ?_
        refine V.tN ?_
        exact ⟨HG, (by omega), F_p, F_q, Fk2, Fk9, rfl, (congrArg Value.bool (by first | rfl | grind)), trivial⟩
      ·
       try replace g9_19 := V.dec g9_19
       try simp only [V.mk0, V.mk1, V.mk2, V.mk3] at g9_19
       refine V.run T_ok 28 rfl ?_
       refine V.nil ?_
       refine V.tN ?_
       exact ⟨HG, (by omega), F_p, F_q, Fk2, Fk9, rfl, (congrArg Value.bool (by first | rfl | grind)), trivial⟩
     ·
      try replace g9_12 := V.dec g9_12
      try simp only [V.mk0, V.mk1, V.mk2, V.mk3] at g9_12
      refine V.run T_ok 35 rfl ?_
      refine V.nil ?_
      refine V.tN ?_
      exact ⟨HG, (by omega), F_p, F_q, Fk2, Fk9, rfl, (congrArg Value.bool (by first | rfl | grind)), trivial⟩
    ·
     try replace g9_5 := V.dec g9_5
     try simp only [V.mk0, V.mk1, V.mk2, V.mk3] at g9_5
     refine V.run T_ok 42 rfl ?_
     refine V.nil ?_
     refine V.tN ?_
     exact ⟨HG, (by omega), F_p, F_q, Fk2, Fk9, rfl, (congrArg Value.bool (by first | rfl | grind)), trivial⟩
   clear HG F_p F_q Fk2 Fk9
   rintro e v41 ⟨HG, z42, F_p, F_q, Fk2, Fk9, hjn40_6, hjn40_7, -⟩
   refine V.knownC (t := 6) hjn40_6 ?_
   refine V.knownC (t := 7) hjn40_7 ?_
   refine V.seq ?_
   refine V.region ?_
   refine V.run T_ok 2 rfl ?_
   refine V.andG T_ok 1 1 128 rfl rfl rfl rfl rfl rfl rfl rfl ?_
   refine V.run T_ok 1 rfl ?_
   refine V.nil ?_
   refine V.tN ?_
   refine V.ret ?_
   refine V.done rfl ?_
   exact ⟨(congrArg Value.bool (by first | rfl | (unfold smB; rw [decide_eq_true hwe]; grind))), HG⟩

set_option maxHeartbeats 900000 in
set_option maxRecDepth 10000 in
theorem commandDecodes_walk {w : World}  {D_b : Nat → Prop} {c_b : Nat} {a_b : Option Addr} {b : List UInt8} (F_b : Sl V.Cod.byte w D_b a_b c_b b) (hD_b : ∀ k, D_b k → k < w.heap.size)  :
    Meets Try.prog 3 [.slice a_b b.length c_b] w fun r w' => r = .bool true ∧ Gr w w' := by
 have HG := V.Fr.refl [] w
 refine V.enter (n := 32) Try.func3 rfl rfl (by decide) rfl ?_
 refine V.seq ?_
 refine V.region ?_
 refine V.run T_ok 1 rfl ?_
 refine V.nil ?_
 refine V.tN ?_
 refine V.seq ?_
 refine V.seq ?_
 refine V.region ?_
 refine V.run T_ok 3 rfl ?_
 refine V.nil ?_
 refine V.tN ?_
 refine V.condT rfl (fun h1 => ?_) (fun h1 => ?_)
 ·
  try replace h1 := V.dec h1
  try simp only [V.mk0, V.mk1, V.mk2, V.mk3] at h1
  refine V.seq ?_
  refine V.region ?_
  refine V.call (alive_spec) rfl rfl rfl ?_
  rintro _ w1 ⟨rfl, G2⟩
  have z3 := V.Fr.size G2
  try replace F_b := F_b.gr G2
  replace HG := HG.grow G2
  clear G2
  refine V.run T_ok 1 rfl ?_
  refine V.nil ?_
  refine V.tN ?_
  refine V.ret ?_
  refine V.tR ?_
  refine V.done rfl ?_
  exact ⟨(by first | rfl | simp only [List.length_set]), HG⟩
 ·
  try replace h1 := V.dec h1
  try simp only [V.mk0, V.mk1, V.mk2, V.mk3] at h1
  refine V.skip ?_
  refine V.tN ?_
  refine V.seq ?_
  refine V.region ?_
  refine V.run T_ok 1 rfl ?_
  refine V.call (decode_spec F_b (fun k hk => by have := hD_b k hk; omega) (by first | omega | (simp only [List.length_take, List.length_drop, List.length_append, List.length_cons, List.length_nil, List.length_replicate, List.length_set, V.length_data, V.S_size]; omega))) rfl rfl rfl ?_
  rintro _ w7 ⟨a4, c5, rfl, F6, G8⟩
  have z9 := V.Fr.size G8
  try replace F_b := F_b.gr G8
  replace HG := HG.grow G8
  clear G8
  refine V.run T_ok 3 rfl ?_
  refine V.alloc zero33 rfl rfl rfl ?_
  rintro k10 w12 s14 s15 G13 Fk11
  have z16 := V.Fr.size G13
  try replace F_b := F_b.gr G13
  try replace F6 := F6.gr G13
  replace HG := HG.grow G13
  clear G13
  try simp only [V.cellsL, V.spliceL] at Fk11
  refine V.storeO Fk11 rfl rfl rfl rfl sz33 rfl rfl rfl rfl ?_
  rintro w17 G18 z20 Fs19
  clear Fk11
  have z21 := V.Fr.size G18
  first | replace F_b := F_b.mb G18 hD_b | clear F_b | skip
  first | replace F6 := F6.ma G18 | clear F6 | skip
  replace HG := HG.n1 G18
  clear G18
  have Fk11 := Fs19; clear Fs19
  simp only [V.spliceL, V.cellsL] at Fk11
  refine V.run T_ok 1 rfl ?_
  refine V.nil ?_
  refine V.tN ?_
  refine V.seq ?_
  refine V.region ?_
  refine V.run T_ok 1 rfl ?_
  refine V.call (rdecode_spec F_b (fun k hk => by have := hD_b k hk; omega) (by first | omega | (simp only [List.length_take, List.length_drop, List.length_append, List.length_cons, List.length_nil, List.length_replicate, List.length_set, V.length_data, V.S_size]; omega))) rfl rfl rfl ?_
  rintro _ w25 ⟨a22, c23, rfl, F24, G26⟩
  have z27 := V.Fr.size G26
  try replace F_b := F_b.gr G26
  try replace F6 := F6.gr G26
  try replace Fk11 := Fk11.gr G26
  replace HG := HG.grow G26
  clear G26
  refine V.run T_ok 3 rfl ?_
  refine V.alloc zero33 rfl rfl rfl ?_
  rintro k28 w30 s32 s33 G31 Fk29
  have z34 := V.Fr.size G31
  try replace F_b := F_b.gr G31
  try replace F6 := F6.gr G31
  try replace Fk11 := Fk11.gr G31
  try replace F24 := F24.gr G31
  replace HG := HG.grow G31
  clear G31
  try simp only [V.cellsL, V.spliceL] at Fk29
  refine V.storeO Fk29 rfl rfl rfl rfl sz33 rfl rfl rfl rfl ?_
  rintro w35 G36 z38 Fs37
  clear Fk29
  have z39 := V.Fr.size G36
  first | replace F_b := F_b.mb G36 hD_b | clear F_b | skip
  first | replace F6 := F6.ma G36 | clear F6 | skip
  first | replace Fk11 := Fk11.mv1 G36 (by omega) | clear Fk11 | skip
  first | replace F24 := F24.ma G36 | clear F24 | skip
  replace HG := HG.n1 G36
  clear G36
  have Fk29 := Fs37; clear Fs37
  simp only [V.spliceL, V.cellsL] at Fk29
  refine V.run T_ok 1 rfl ?_
  refine V.nil ?_
  refine V.tN ?_
  refine V.seq ?_
  refine V.region ?_
  refine V.call (alive_spec) rfl rfl rfl ?_
  rintro _ w40 ⟨rfl, G41⟩
  have z42 := V.Fr.size G41
  try replace F_b := F_b.gr G41
  try replace F6 := F6.gr G41
  try replace Fk11 := Fk11.gr G41
  try replace F24 := F24.gr G41
  try replace Fk29 := Fk29.gr G41
  replace HG := HG.grow G41
  clear G41
  refine V.run T_ok 1 rfl ?_
  refine V.yes rfl rfl rfl ?_
  refine V.loadO T_ok Fk11 rfl rfl rfl rfl rfl ?_
  refine V.yes rfl rfl rfl ?_
  refine V.loadO T_ok Fk29 rfl rfl rfl rfl rfl ?_
  refine V.yes rfl rfl rfl ?_
  refine V.call (rsame_spec (a := ((decC b).getD cmdZ)) (b := ((decC b).getD cmdZ)) F6.sl (fun k hk => by have := hk.2; omega) F24.sl (fun k hk => by have := hk.2; omega)) rfl rfl rfl ?_
  rintro _ w40_ ⟨rfl, G44⟩
  have z45 := V.Fr.size G44
  try replace F_b := F_b.gr G44
  try replace F6 := F6.gr G44
  try replace Fk11 := Fk11.gr G44
  try replace F24 := F24.gr G44
  try replace Fk29 := Fk29.gr G44
  replace HG := HG.grow G44
  clear G44
  refine V.run T_ok 2 rfl ?_
  refine V.splitT (j := 6) (t := 27) rfl rfl (by (exact smB_self _)) ?_
  refine V.run T_ok 5 rfl ?_
  refine V.nil ?_
  refine V.tN ?_
  refine V.ret ?_
  refine V.done rfl ?_
  exact ⟨congrArg Value.bool (decide_eq_true rfl), HG⟩

end Go.Proofs.Ytkklebdlbmoogaa
