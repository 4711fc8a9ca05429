/- Proved here: walks: what functions of this seat's program return and what they leave of memory, each as a contract. Conditions: stated at each theorem. -/
import Derived.Test.YtmmgmkklakkooaaGreatMbag
namespace Go.Proofs.YtmmgmkklakkooaaGreat
set_option linter.unusedVariables false
set_option linter.unusedSimpArgs false
open Go
open V (Bytes Meets Env Sl Own Gr Fr Cells S)

def putE (l : List (List UInt8)) (m : MsgV) : Int := if encE m = 0 then (if 300 ≤ l.length then 191 else 0) else 181
def lookM (l : List (List UInt8)) (i : Int) : MsgV := if 0 ≤ i ∧ i < l.length then (decMsg (l.getD i.toNat [])).getD msgZ else msgZ
def lookB (l : List (List UInt8)) (i : Int) : Bool := if 0 ≤ i ∧ i < l.length then (decMsg (l.getD i.toNat [])).isSome else false
def takeE (l : List (List UInt8)) (i : Int) : Int := if 0 ≤ i ∧ i < l.length then (if (decMsg (l.getD i.toNat [])).isSome = true then 0 else 181) else 1
def putL (l : List (List UInt8)) (m : MsgV) : List (List UInt8) := if encE m = 0 ∧ l.length < 300 then l ++ [encM m] else l

set_option maxHeartbeats 900000 in
set_option maxRecDepth 10000 in
theorem bput_spec {w : World} {k g : Nat} {B : Nat → Prop} {l : List (List UInt8)} (FX : Bg w k g B l) {mm : MsgV} {D_oe : Nat → Prop} {c_oe : Nat} {a_oe : Option Addr} (F_oe : Sl V.Cod.ent w D_oe a_oe c_oe mm.es) (hD_oe : ∀ k, D_oe k → k < w.heap.size) {D_od : Nat → Prop} {c_od : Nat} {a_od : Option Addr} (F_od : Sl V.Cod.byte w D_od a_od c_od mm.da) (hD_od : ∀ k, D_od k → k < w.heap.size) {D_oc : Nat → Prop} {c_oc : Nat} {a_oc : Option Addr} (F_oc : Sl V.Cod.write w D_oc a_oc c_oc mm.c.ws) (hD_oc : ∀ k, D_oc k → k < w.heap.size) {D_op : Nat → Prop} {c_op : Nat} {a_op : Option Addr} (F_op : Sl (V.Cod.pair V.Cod.str V.Cod.str) w D_op a_op c_op mm.r.ps) (hD_op : ∀ k, D_op k → k < w.heap.size) {D_or : Nat → Prop} {c_or : Nat} {a_or : Option Addr} (F_or : Sl V.Cod.write w D_or a_or c_or mm.r.rc.ws) (hD_or : ∀ k, D_or k → k < w.heap.size)  (hz : SzM mm) :
    Meets Tryz.prog 10 [.pointer (some ⟨k, 0, none⟩), .agg #[.int .i64 mm.kd, .int .i64 mm.fr, .int .i64 mm.to, .int .i64 mm.rg, .int .i64 mm.te, .int .i64 mm.ix, .int .i64 mm.lt, .int .i64 mm.co, .bool mm.ok, .slice a_oe mm.es.length c_oe, .slice a_od mm.da.length c_od, .int .i64 mm.nw, .int .i64 mm.nl, .int .i64 mm.c.kd, .int .i64 mm.c.id, .int .i64 mm.c.le, .int .i64 mm.c.nd, .int .i64 mm.c.ti, .int .i64 mm.c.te, .string mm.c.an, .int .i64 mm.c.sw, .int .i64 mm.c.sl, .int .i64 mm.c.sq, .string mm.c.fr, .string mm.c.to, .string mm.c.va, .bool mm.c.go, .int .i64 mm.c.aw, .int .i64 mm.c.al, .int .i64 mm.c.lw, .int .i64 mm.c.ll, .bool mm.c.cm, .bool mm.c.st, .slice a_oc mm.c.ws.length c_oc, .int .i64 mm.c.pr, .int .i64 mm.r.er, .int .i64 mm.r.aw, .int .i64 mm.r.al, .slice a_op mm.r.ps.length c_op, .bool mm.r.fo, .int .i64 mm.r.ti, .int .i64 mm.r.te, .string mm.r.an, .int .i64 mm.r.sw, .int .i64 mm.r.sl, .int .i64 mm.r.rc.id, .int .i64 mm.r.rc.ep, .int .i64 mm.r.rc.st, .int .i64 mm.r.rc.aw, .int .i64 mm.r.rc.al, .int .i64 mm.r.rc.bw, .int .i64 mm.r.rc.bl, .slice a_or mm.r.rc.ws.length c_or]] w fun r w' => ∃ (rg113 : Nat) (rB113 : Nat → Prop), r = .int .i64 (putE l mm) ∧ Bg w' k rg113 rB113 (putL l mm) ∧ (rg113 = g ∨ w.heap.size ≤ rg113) ∧ (∀ j, rB113 j → B j ∨ j = g ∨ w.heap.size ≤ j) ∧ Fr [k, g] w w' := by
 obtain ⟨ao, co, Fk, Fo⟩ := FX.ex
 have hok := FX.ok
 have hkl := Fk.lt
 have hgl := FX.gl
 have hBl := FX.bl
 have hnk := FX.nk
 have hng := FX.ng
 have hFo : ∀ j, (B j ∨ (j = g ∧ j ≠ k)) → j < w.heap.size := fun j h => h.elim (hBl j) (fun h => h.1 ▸ hgl)
 have hl63 := Fo.slB.len63
 have HG := V.Fr.refl [k, g] w
 refine V.enter (n := 34) Tryz.func10 rfl rfl (by decide) rfl ?_
 refine V.sr ?_
 refine V.box rfl rfl rfl rfl ?_
 rintro k1 w3 s5 s6 G4 Fk2
 have z7 := V.Fr.size G4
 try simp only [V.cellsL, V.spliceL] at Fk2
 refine V.ru 1 ?_
 refine V.nt ?_
 refine V.seq ?_
 refine V.sr ?_
 refine V.ru 2 ?_
 refine V.nt ?_
 refine V.condN rfl rfl ?_
 refine V.skip ?_
 refine V.tN ?_
 refine V.sr ?_
 refine V.loadO T_ok Fk2 rfl rfl rfl rfl rfl ?_
 replace F_oe := F_oe.gr G4
 replace F_od := F_od.gr G4
 replace F_oc := F_oc.gr G4
 replace F_op := F_op.gr G4
 replace F_or := F_or.gr G4
 refine V.call (mencode_spec (mm := mm) F_oe (fun k hk => by have := hD_oe k hk; omega) F_od (fun k hk => by have := hD_od k hk; omega) F_oc (fun k hk => by have := hD_oc k hk; omega) F_op (fun k hk => by have := hD_op k hk; omega) F_or (fun k hk => by have := hD_or k hk; omega) (by first | (with_reducible assumption) | exact hz)) rfl rfl rfl ?_
 rintro _ w11 ⟨a8, c9, rfl, F10, G12⟩
 have z13 := V.Fr.size G12
 refine V.ru 5 ?_
 refine V.nt ?_
 refine V.seq ?_
 refine V.block ?_
 refine V.sr ?_
 refine V.ru 3 ?_
 refine V.nt ?_
 refine V.condT rfl (fun h4 => ?_) (fun h4 => ?_)
 ·
  try replace h4 := V.dec h4
  try simp only [V.mk] at h4
  have he0 : encE mm ≠ 0 := by simpa using h4
  refine V.sr ?_
  refine V.ru 1 ?_
  refine V.nt ?_
  refine V.ret ?_
  refine V.bR ?_
  refine V.tR ?_
  rw [show putL l mm = l from if_neg (by omega), show putE l mm = 181 from if_neg he0]
  replace FX := FX.gr (G4.trans G12)
  have FX9 := FX
  have hg9 : g = g ∨ w.heap.size ≤ g := .inl rfl
  have hB9 : ∀ j, B j → B j ∨ j = g ∨ w.heap.size ≤ j := fun j h => .inl h
  refine V.done rfl ?_
  replace HG := HG.grow (G4.trans G12)
  exact ⟨_, _, (by first | rfl | simp only [List.length_set]), FX9, hg9, hB9, HG⟩
 ·
  try replace h4 := V.dec h4
  try simp only [V.mk] at h4
  have he0 : encE mm = 0 := by simpa using h4
  have hln : 8 ≤ (encM mm).length ∧ (encM mm).length ≤ 1000000 := by obtain ⟨y1, y2, y3, y4⟩ := encM_ok he0; rw [y3, frm_len]; omega
  refine V.sr ?_
  refine V.ru 3 ?_
  replace Fk := Fk.gr (G4.trans G12)
  refine V.loadO T_ok Fk rfl rfl rfl rfl rfl ?_
  refine V.ru 3 ?_
  refine V.nt ?_
  refine V.condT rfl (fun h6 => ?_) (fun h6 => ?_)
  ·
   try replace h6 := V.dec h6
   try simp only [V.mk] at h6
   refine V.sr ?_
   refine V.ru 1 ?_
   refine V.nt ?_
   refine V.ret ?_
   refine V.bR ?_
   refine V.tR ?_
   rw [show putL l mm = l from if_neg (by omega), show putE l mm = 191 from (if_pos he0).trans (if_pos (by omega))]
   replace FX := FX.gr (G4.trans G12)
   have FX9 := FX
   have hg9 : g = g ∨ w.heap.size ≤ g := .inl rfl
   have hB9 : ∀ j, B j → B j ∨ j = g ∨ w.heap.size ≤ j := fun j h => .inl h
   refine V.done rfl ?_
   replace HG := HG.grow (G4.trans G12)
   exact ⟨_, _, (by first | rfl | simp only [List.length_set]), FX9, hg9, hB9, HG⟩
  ·
   try replace h6 := V.dec h6
   try simp only [V.mk] at h6
   refine V.skip ?_
   refine V.bN ?_
   refine V.tN ?_
   refine V.sr ?_
   refine V.ru 4 ?_
   refine V.loadO T_ok Fk rfl rfl rfl rfl rfl ?_
   refine V.ru 1 ?_
   refine V.mkSlice T_ok zero31 rfl rfl sz31 rfl rfl rfl rfl rfl rfl ?_
   rintro k14 w17 s19 s20 G18 Fk15
   have z21 := V.Fr.size G18
   replace F10 := F10.gr G18
   have F16 : Sl V.Cod.byte.sl w17 (fun k => k = k14 ∨ (V.In w3.heap.size w11.heap.size) k) (some ⟨k14, 0, none⟩) ([encM mm] : List (List UInt8)).length ([encM mm] : List (List UInt8)) := V.Cells.sl Fk15 (V.reps_cons (x := (encM mm)) ⟨_, _, rfl, F10.sl.mono (fun k h => .inr (h))⟩ rfl rfl) (.inl rfl) (by simp [maxLen])
   have hDu22 : ∀ k, (fun k => k = k14 ∨ (V.In w3.heap.size w11.heap.size) k) k → k < w17.heap.size := by intro k h; (try dsimp only at h); rcases h with h | h <;> first | omega | (have := h.2; omega) | (have := h.1; omega) | (have := hD k h; omega)
   replace Fo := Fo.gr (G4.trans (G12.trans G18))
   refine V.appendZ Fo (F16.from Tryz.underlying26) elT26_26 rfl rfl rfl rfl rfl V.lenA (by unfold maxLen; first | omega | (simp only [List.length_take, List.length_drop, List.length_append, List.length_cons, List.length_nil, List.length_replicate, List.length_set, V.length_data, V.S_size]; omega)) (by intro k h; (try dsimp only [V.In] at h ⊢); first | omega | grind) (by intro k h; (try dsimp only [V.In] at h ⊢); first | omega | grind) (by intro k h; (try dsimp only [V.In] at h ⊢); first | omega | grind) ?_
   rintro a23 c24 w26 G27 s28 F25
   clear Fo
   clear F16
   have z29 := V.FrE.size G27
   replace F25 := F25.mono2 (B' := B) (E' := (fun j => (fun j => j = g ∧ j ≠ k) j ∨ V.In w.heap.size w26.heap.size j)) (by intro k h; (first | exact (h.elim (fun h => h.elim) (fun h => h.elim)) | ((try dsimp only [V.In] at h ⊢); first | omega | grind))) (by intro k h; (try dsimp only [V.In] at h ⊢); first | omega | grind)
   refine V.ru 2 ?_
   replace Fk := Fk.gr G18
   replace Fk := Fk.mvE G27 (by (try dsimp only [V.In]); first | omega | grind)
   refine V.storeO Fk rfl rfl rfl rfl sz26 rfl rfl rfl rfl ?_
   rintro w30 G31 z33 Fs32
   clear Fk
   have z34 := V.Fr.size G31
   have Fk := Fs32; clear Fs32
   simp only [V.spliceL, V.cellsL] at Fk
   refine V.nt ?_
   refine V.sr ?_
   refine V.ru 1 ?_
   refine V.nt ?_
   refine V.ret ?_
   rw [show putL l mm = l ++ [encM mm] from if_pos (by omega), show putE l mm = 0 from (if_pos he0).trans (if_neg (by omega))]
   replace F25 := F25.mv1 G31 (by (try dsimp only [V.In]); first | omega | grind)
   obtain ⟨g9, B9, FX9, hg9, hB9⟩ := Bg.mk2 (g := g) (B := B) (z := w.heap.size) Fk F25 (okL_put hok (by omega) hln) (by intro j h; first | exact h.elim | exact (h.elim (fun h => h.elim) (fun h => h.elim)) | ((try dsimp only [V.In] at h ⊢); first | omega | grind)) (by intro j h; first | exact h.elim | exact (h.elim (fun h => h.elim) (fun h => h.elim)) | ((try dsimp only [V.In] at h ⊢); first | omega | grind)) (by intro j h; first | exact h.elim | exact (h.elim (fun h => h.elim) (fun h => h.elim)) | ((try dsimp only [V.In] at h ⊢); first | omega | grind)) (by omega) (by intro j h; first | exact h.elim | exact (h.elim (fun h => h.elim) (fun h => h.elim)) | ((try dsimp only [V.In] at h ⊢); first | omega | grind))
   refine V.done rfl ?_
   replace HG := HG.grow (G4.trans (G12.trans G18))
   replace HG := HG.stepE G27 (by intro i h; (try dsimp only [V.In] at h ⊢); first | omega | grind)
   replace HG := HG.n1 G31
   exact ⟨_, _, (by first | rfl | simp only [List.length_set]), FX9, hg9, hB9, HG⟩

set_option maxHeartbeats 900000 in
set_option maxRecDepth 10000 in
theorem blook_spec {w : World} {k g : Nat} {B : Nat → Prop} {l : List (List UInt8)} (FX : Bg w k g B l) {i : Int}  :
    Meets Tryz.prog 21 [.pointer (some ⟨k, 0, none⟩), .int .i64 i] w fun r w' => ∃ (ra114 : Option Addr) (rc114 : Nat) (ra115 : Option Addr) (rc115 : Nat) (ra116 : Option Addr) (rc116 : Nat) (ra117 : Option Addr) (rc117 : Nat) (ra118 : Option Addr) (rc118 : Nat), r = .tuple #[.agg #[.int .i64 ((lookM l i).kd), .int .i64 ((lookM l i).fr), .int .i64 ((lookM l i).to), .int .i64 ((lookM l i).rg), .int .i64 ((lookM l i).te), .int .i64 ((lookM l i).ix), .int .i64 ((lookM l i).lt), .int .i64 ((lookM l i).co), .bool ((lookM l i).ok), .slice ra114 ((lookM l i).es).length rc114, .slice ra115 ((lookM l i).da).length rc115, .int .i64 ((lookM l i).nw), .int .i64 ((lookM l i).nl), .int .i64 ((lookM l i).c.kd), .int .i64 ((lookM l i).c.id), .int .i64 ((lookM l i).c.le), .int .i64 ((lookM l i).c.nd), .int .i64 ((lookM l i).c.ti), .int .i64 ((lookM l i).c.te), .string ((lookM l i).c.an), .int .i64 ((lookM l i).c.sw), .int .i64 ((lookM l i).c.sl), .int .i64 ((lookM l i).c.sq), .string ((lookM l i).c.fr), .string ((lookM l i).c.to), .string ((lookM l i).c.va), .bool ((lookM l i).c.go), .int .i64 ((lookM l i).c.aw), .int .i64 ((lookM l i).c.al), .int .i64 ((lookM l i).c.lw), .int .i64 ((lookM l i).c.ll), .bool ((lookM l i).c.cm), .bool ((lookM l i).c.st), .slice ra116 ((lookM l i).c.ws).length rc116, .int .i64 ((lookM l i).c.pr), .int .i64 ((lookM l i).r.er), .int .i64 ((lookM l i).r.aw), .int .i64 ((lookM l i).r.al), .slice ra117 ((lookM l i).r.ps).length rc117, .bool ((lookM l i).r.fo), .int .i64 ((lookM l i).r.ti), .int .i64 ((lookM l i).r.te), .string ((lookM l i).r.an), .int .i64 ((lookM l i).r.sw), .int .i64 ((lookM l i).r.sl), .int .i64 ((lookM l i).r.rc.id), .int .i64 ((lookM l i).r.rc.ep), .int .i64 ((lookM l i).r.rc.st), .int .i64 ((lookM l i).r.rc.aw), .int .i64 ((lookM l i).r.rc.al), .int .i64 ((lookM l i).r.rc.bw), .int .i64 ((lookM l i).r.rc.bl), .slice ra118 ((lookM l i).r.rc.ws).length rc118], .bool (lookB l i)] ∧ V.Row V.Cod.ent 74 w' V.None' w.heap.size w'.heap.size ra114 rc114 ((lookM l i).es) ∧ Sl V.Cod.byte w' (V.In w.heap.size w'.heap.size) ra115 rc115 ((lookM l i).da) ∧ V.Row V.Cod.write 78 w' V.None' w.heap.size w'.heap.size ra116 rc116 ((lookM l i).c.ws) ∧ V.Row (V.Cod.pair V.Cod.str V.Cod.str) 76 w' V.None' w.heap.size w'.heap.size ra117 rc117 ((lookM l i).r.ps) ∧ Sl V.Cod.write w' (V.In w.heap.size w'.heap.size) ra118 rc118 ((lookM l i).r.rc.ws) ∧ Gr w w' := by
 obtain ⟨ao, co, Fk, Fo⟩ := FX.ex
 have hok := FX.ok
 have hkl := Fk.lt
 have hgl := FX.gl
 have hBl := FX.bl
 have hnk := FX.nk
 have hng := FX.ng
 have hFo : ∀ j, (B j ∨ (j = g ∧ j ≠ k)) → j < w.heap.size := fun j h => h.elim (hBl j) (fun h => h.1 ▸ hgl)
 have hl63 := Fo.slB.len63
 have HG := V.Fr.refl [] w
 refine V.enter (n := 27) Tryz.func21 rfl rfl (by decide) rfl ?_
 refine V.sr ?_
 refine V.alloc zero50 rfl rfl rfl ?_
 rintro k1 w3 s5 s6 G4 Fk2
 have z7 := V.Fr.size G4
 try simp only [V.cellsL, V.spliceL] at Fk2
 refine V.ru 1 ?_
 refine V.nt ?_
 refine V.seq ?_
 refine V.sr ?_
 refine V.ru 2 ?_
 replace FX := FX.gr G4
 refine V.call (bhas_spec (i := i) FX) rfl rfl rfl ?_
 rintro _ w8 ⟨rfl, G9⟩
 have z10 := V.Fr.size G9
 refine V.ru 1 ?_
 refine V.nt ?_
 refine V.condT rfl (fun h1 => ?_) (fun h1 => ?_)
 ·
  try replace h1 := V.dec h1
  try simp only [V.mk] at h1
  have hh : ¬ (0 ≤ i ∧ i < (l.length : Int)) := by simpa using h1
  refine V.sr ?_
  refine V.mkStruct T_ok zero50 rfl rfl rfl rfl rfl ?_
  replace Fk2 := Fk2.gr G9
  refine V.storeO Fk2 rfl rfl rfl rfl sz50 rfl rfl rfl rfl ?_
  rintro w11 G12 z14 Fs13
  clear Fk2
  have z15 := V.Fr.size G12
  have Fk2 := Fs13; clear Fs13
  simp only [V.spliceL, V.cellsL] at Fk2
  refine V.ru 1 ?_
  refine V.nt ?_
  refine V.ret ?_
  refine V.tR ?_
  refine V.done2 rfl (V.resV_cell T_ok Fk2 rfl rfl) (V.resV_tmp rfl) ?_
  rw [show lookM l i = msgZ from if_neg hh, show lookB l i = false from if_neg hh]
  replace HG := HG.grow (G4.trans G9)
  replace HG := HG.n1 G12
  exact ⟨none, 0, none, 0, none, 0, none, 0, none, 0, (by first | rfl | simp only [List.length_set]), V.Row.nil, (Sl.nil _ _ _ _ _ (Nat.zero_le _)), V.Row.nil, V.Row.nil, (Sl.nil _ _ _ _ _ (Nat.zero_le _)), HG⟩
 ·
  try replace h1 := V.dec h1
  try simp only [V.mk] at h1
  have hh : 0 ≤ i ∧ i < (l.length : Int) := by simpa using h1
  refine V.skip ?_
  refine V.tN ?_
  refine V.sr ?_
  refine V.ru 3 ?_
  replace Fk := Fk.gr (G4.trans G9)
  refine V.loadO T_ok Fk rfl rfl rfl rfl rfl ?_
  refine V.ru 1 ?_
  replace Fo := Fo.gr (G4.trans G9)
  refine V.elem T_ok Fo.slB rfl rfl sz31 rfl rfl rfl rfl V.lenA V.lenA ?_
  rintro b16 o17 cs18 hx19 hb20 hR26 hA21
  obtain ⟨x22, hx22⟩ : ∃ z', l[(i).toNat] = z' := ⟨_, rfl⟩
  rw [hx22] at hR26
  obtain ⟨a23, c24, rfl, F25⟩ := hR26
  try simp only [Int.toNat_natCast] at hx22 hx19
  refine V.loadA T_ok (o0 := o17) (off := 0) hA21 rfl rfl rfl rfl rfl ?_
  have hgx : l.getD i.toNat [] = x22 := by rw [List.getD_eq_getElem?_getD, List.getElem?_eq_getElem (by omega), hx22]; rfl
  have hxl := hok.2 x22 (hx22 ▸ List.getElem_mem _)
  refine V.call (mdecode_spec F25 (fun k hk => by have := hFo k hk; omega) V.lenA) rfl rfl rfl ?_
  rintro _ w42 ⟨a27, c28, a29, c30, a31, c32, a33, c34, a35, c36, rfl, F37, F38, F39, F40, F41, G43⟩
  have z44 := V.Fr.size G43
  refine V.ru 3 ?_
  refine V.alloc zero50 rfl rfl rfl ?_
  rintro k45 w47 s49 s50 G48 Fk46
  have z51 := V.Fr.size G48
  try simp only [V.cellsL, V.spliceL] at Fk46
  refine V.storeO Fk46 rfl rfl rfl rfl sz50 rfl rfl rfl rfl ?_
  rintro w52 G53 z55 Fs54
  clear Fk46
  have z56 := V.Fr.size G53
  have Fk46 := Fs54; clear Fs54
  simp only [V.spliceL, V.cellsL] at Fk46
  refine V.ru 1 ?_
  refine V.nt ?_
  refine V.sr ?_
  refine V.loadO T_ok Fk46 rfl rfl rfl rfl rfl ?_
  refine V.ru 2 ?_
  replace Fk2 := Fk2.gr (G9.trans (G43.trans G48))
  replace Fk2 := Fk2.ma G53
  refine V.storeO Fk2 rfl rfl rfl rfl sz50 rfl rfl rfl rfl ?_
  rintro w57 G58 z60 Fs59
  clear Fk2
  have z61 := V.Fr.size G58
  have Fk2 := Fs59; clear Fs59
  simp only [V.spliceL, V.cellsL] at Fk2
  refine V.ru 1 ?_
  refine V.nt ?_
  refine V.ret ?_
  refine V.done2 rfl (V.resV_cell T_ok Fk2 rfl rfl) (V.resV_tmp rfl) ?_
  rw [show lookM l i = (decMsg (l.getD i.toNat [])).getD msgZ from if_pos hh, show lookB l i = (decMsg (l.getD i.toNat [])).isSome from if_pos hh, hgx]
  have he9 : decide ((if (decMsg x22).isSome = true then (0 : Int) else 181) = 0) = (decMsg x22).isSome := by cases decMsg x22 <;> rfl
  rw [he9]
  replace F37 := F37.gr G48
  replace F37 := F37.ma G53
  replace F37 := F37.ma G58
  replace F38 := F38.gr G48
  replace F38 := F38.ma G53
  replace F38 := F38.ma G58
  replace F39 := F39.gr G48
  replace F39 := F39.ma G53
  replace F39 := F39.ma G58
  replace F40 := F40.gr G48
  replace F40 := F40.ma G53
  replace F40 := F40.ma G58
  replace F41 := F41.gr G48
  replace F41 := F41.ma G53
  replace F41 := F41.ma G58
  replace HG := HG.grow (G4.trans (G9.trans (G43.trans G48)))
  replace HG := HG.n1 G53
  replace HG := HG.n1 G58
  exact ⟨a27, c28, a29, c30, a31, c32, a33, c34, a35, c36, (by first | rfl | simp only [List.length_set]), F37.re, F38.re, F39.re, F40.re, F41.re, HG⟩

set_option maxHeartbeats 900000 in
set_option maxRecDepth 10000 in
theorem btake_spec {w : World} {k g : Nat} {B : Nat → Prop} {l : List (List UInt8)} (FX : Bg w k g B l) {i : Int}  :
    Meets Tryz.prog 12 [.pointer (some ⟨k, 0, none⟩), .int .i64 i] w fun r w' => ∃ (ra129 : Option Addr) (rc129 : Nat) (ra130 : Option Addr) (rc130 : Nat) (ra131 : Option Addr) (rc131 : Nat) (ra132 : Option Addr) (rc132 : Nat) (ra133 : Option Addr) (rc133 : Nat) (rg134 : Nat) (rB134 : Nat → Prop), r = .tuple #[.agg #[.int .i64 ((lookM l i).kd), .int .i64 ((lookM l i).fr), .int .i64 ((lookM l i).to), .int .i64 ((lookM l i).rg), .int .i64 ((lookM l i).te), .int .i64 ((lookM l i).ix), .int .i64 ((lookM l i).lt), .int .i64 ((lookM l i).co), .bool ((lookM l i).ok), .slice ra129 ((lookM l i).es).length rc129, .slice ra130 ((lookM l i).da).length rc130, .int .i64 ((lookM l i).nw), .int .i64 ((lookM l i).nl), .int .i64 ((lookM l i).c.kd), .int .i64 ((lookM l i).c.id), .int .i64 ((lookM l i).c.le), .int .i64 ((lookM l i).c.nd), .int .i64 ((lookM l i).c.ti), .int .i64 ((lookM l i).c.te), .string ((lookM l i).c.an), .int .i64 ((lookM l i).c.sw), .int .i64 ((lookM l i).c.sl), .int .i64 ((lookM l i).c.sq), .string ((lookM l i).c.fr), .string ((lookM l i).c.to), .string ((lookM l i).c.va), .bool ((lookM l i).c.go), .int .i64 ((lookM l i).c.aw), .int .i64 ((lookM l i).c.al), .int .i64 ((lookM l i).c.lw), .int .i64 ((lookM l i).c.ll), .bool ((lookM l i).c.cm), .bool ((lookM l i).c.st), .slice ra131 ((lookM l i).c.ws).length rc131, .int .i64 ((lookM l i).c.pr), .int .i64 ((lookM l i).r.er), .int .i64 ((lookM l i).r.aw), .int .i64 ((lookM l i).r.al), .slice ra132 ((lookM l i).r.ps).length rc132, .bool ((lookM l i).r.fo), .int .i64 ((lookM l i).r.ti), .int .i64 ((lookM l i).r.te), .string ((lookM l i).r.an), .int .i64 ((lookM l i).r.sw), .int .i64 ((lookM l i).r.sl), .int .i64 ((lookM l i).r.rc.id), .int .i64 ((lookM l i).r.rc.ep), .int .i64 ((lookM l i).r.rc.st), .int .i64 ((lookM l i).r.rc.aw), .int .i64 ((lookM l i).r.rc.al), .int .i64 ((lookM l i).r.rc.bw), .int .i64 ((lookM l i).r.rc.bl), .slice ra133 ((lookM l i).r.rc.ws).length rc133], .int .i64 (takeE l i)] ∧ V.Row V.Cod.ent 74 w' V.None' w.heap.size w'.heap.size ra129 rc129 ((lookM l i).es) ∧ Sl V.Cod.byte w' (V.In w.heap.size w'.heap.size) ra130 rc130 ((lookM l i).da) ∧ V.Row V.Cod.write 78 w' V.None' w.heap.size w'.heap.size ra131 rc131 ((lookM l i).c.ws) ∧ V.Row (V.Cod.pair V.Cod.str V.Cod.str) 76 w' V.None' w.heap.size w'.heap.size ra132 rc132 ((lookM l i).r.ps) ∧ Sl V.Cod.write w' (V.In w.heap.size w'.heap.size) ra133 rc133 ((lookM l i).r.rc.ws) ∧ Bg w' k rg134 rB134 (delL l i) ∧ (rg134 = g ∨ w.heap.size ≤ rg134) ∧ (∀ j, rB134 j → B j ∨ j = g ∨ w.heap.size ≤ j) ∧ Fr [k, g] w w' := by
 obtain ⟨ao, co, Fk, Fo⟩ := FX.ex
 have hok := FX.ok
 have hkl := Fk.lt
 have hgl := FX.gl
 have hBl := FX.bl
 have hnk := FX.nk
 have hng := FX.ng
 have hFo : ∀ j, (B j ∨ (j = g ∧ j ≠ k)) → j < w.heap.size := fun j h => h.elim (hBl j) (fun h => h.1 ▸ hgl)
 have hl63 := Fo.slB.len63
 have HG := V.Fr.refl [k, g] w
 refine V.enter (n := 34) Tryz.func12 rfl rfl (by decide) rfl ?_
 refine V.sr ?_
 refine V.alloc zero50 rfl rfl rfl ?_
 rintro k1 w3 s5 s6 G4 Fk2
 have z7 := V.Fr.size G4
 try simp only [V.cellsL, V.spliceL] at Fk2
 refine V.ru 1 ?_
 refine V.nt ?_
 refine V.seq ?_
 refine V.sr ?_
 refine V.ru 2 ?_
 replace FX := FX.gr G4
 refine V.call (bhas_spec (i := i) FX) rfl rfl rfl ?_
 rintro _ w8 ⟨rfl, G9⟩
 have z10 := V.Fr.size G9
 refine V.ru 1 ?_
 refine V.nt ?_
 refine V.condT rfl (fun h1 => ?_) (fun h1 => ?_)
 ·
  try replace h1 := V.dec h1
  try simp only [V.mk] at h1
  have hh : ¬ (0 ≤ i ∧ i < (l.length : Int)) := by simpa using h1
  refine V.sr ?_
  refine V.mkStruct T_ok zero50 rfl rfl rfl rfl rfl ?_
  replace Fk2 := Fk2.gr G9
  refine V.storeO Fk2 rfl rfl rfl rfl sz50 rfl rfl rfl rfl ?_
  rintro w11 G12 z14 Fs13
  clear Fk2
  have z15 := V.Fr.size G12
  have Fk2 := Fs13; clear Fs13
  simp only [V.spliceL, V.cellsL] at Fk2
  refine V.ru 1 ?_
  refine V.nt ?_
  refine V.ret ?_
  refine V.tR ?_
  rw [show lookM l i = msgZ from if_neg hh, show takeE l i = 1 from if_neg hh, show delL l i = l from if_neg hh]
  replace FX := FX.gr G9
  replace FX := FX.mv1 G12 (by (try dsimp only [V.In]); first | omega | grind)
  have FX9 := FX
  refine V.done2 rfl (V.resV_cell T_ok Fk2 rfl rfl) (V.resV_tmp rfl) ?_
  replace HG := HG.grow (G4.trans G9)
  replace HG := HG.n1 G12
  exact ⟨none, 0, none, 0, none, 0, none, 0, none, 0, _, _, (by first | rfl | simp only [List.length_set]), V.Row.nil, (Sl.nil _ _ _ _ _ (Nat.zero_le _)), V.Row.nil, V.Row.nil, (Sl.nil _ _ _ _ _ (Nat.zero_le _)), FX9, (.inl rfl), (fun j h => .inl h), HG⟩
 ·
  try replace h1 := V.dec h1
  try simp only [V.mk] at h1
  have hh : 0 ≤ i ∧ i < (l.length : Int) := by simpa using h1
  refine V.skip ?_
  refine V.tN ?_
  refine V.seq ?_
  replace Fo := Fo.gr (G4.trans G9)
  obtain ⟨hgk, FO⟩ := Bg.own hng Fo (by omega)
  clear Fo FX
  obtain ⟨cs0, hR0, hA0⟩ := V.Own.el FO (i := i.toNat) (by omega)
  have hao := V.Own.addr FO (by omega)
  obtain ⟨x0, hx0⟩ : ∃ z', l[i.toNat]'(by omega) = z' := ⟨_, rfl⟩
  rw [hx0] at hR0
  obtain ⟨ax, cx, rfl, Fx⟩ := hR0
  have hmx := FO.max
  have hcp := FO.cap
  have hxl := hok.2 x0 (hx0 ▸ List.getElem_mem _)
  refine V.region ?_
  refine V.ru 3 ?_
  replace Fk := Fk.gr (G4.trans G9)
  refine V.loadO T_ok Fk rfl rfl rfl rfl rfl ?_
  refine V.ru 1 ?_
  refine V.step rfl rfl (V.elemK (C := V.Cod.byte.sl) T_ok rfl rfl sz31 hao rfl rfl (by omega) (by omega) _) ?_
  refine V.loadA T_ok (o0 := i.toNat * V.Cod.byte.sl.sz) (off := 0) hA0 rfl rfl rfl rfl rfl ?_
  refine V.ru 1 ?_
  refine V.nt ?_
  refine V.sr ?_
  refine V.ru 4 ?_
  refine V.loadO T_ok Fk rfl rfl rfl rfl rfl ?_
  refine V.ru 2 ?_
  refine V.addN rfl rfl rfl rfl rfl V.lenA V.lenA ?_
  refine V.call (bdel_spec (i := i) (j := (i + 1)) FO (by first | assumption | omega) (by omega) (by omega) (by omega)) rfl rfl rfl ?_
  rintro _ w17 ⟨rfl, F16, G18⟩
  have z19 := V.Fr.size G18
  refine V.ru 2 ?_
  replace Fk := Fk.ma G18
  refine V.storeO Fk rfl rfl rfl rfl sz26 rfl rfl rfl rfl ?_
  rintro w20 G21 z23 Fs22
  clear Fk
  have z24 := V.Fr.size G21
  have Fk := Fs22; clear Fs22
  simp only [V.spliceL, V.cellsL] at Fk
  refine V.nt ?_
  refine V.sr ?_
  refine V.ru 1 ?_
  replace Fx := Fx.mv1 G18 (by assumption)
  replace Fx := Fx.mv1 G21 (by assumption)
  refine V.call (mdecode_spec Fx (fun k hk => by have := hBl k hk; omega) V.lenA) rfl rfl rfl ?_
  rintro _ w40 ⟨a25, c26, a27, c28, a29, c30, a31, c32, a33, c34, rfl, F35, F36, F37, F38, F39, G41⟩
  have z42 := V.Fr.size G41
  refine V.ru 2 ?_
  replace Fk2 := Fk2.gr G9
  replace Fk2 := Fk2.ma G18
  replace Fk2 := Fk2.ma G21
  replace Fk2 := Fk2.gr G41
  refine V.storeO Fk2 rfl rfl rfl rfl sz50 rfl rfl rfl rfl ?_
  rintro w43 G44 z46 Fs45
  clear Fk2
  have z47 := V.Fr.size G44
  have Fk2 := Fs45; clear Fs45
  simp only [V.spliceL, V.cellsL] at Fk2
  refine V.ru 1 ?_
  refine V.nt ?_
  refine V.ret ?_
  have hgx : l.getD i.toNat [] = x0 := by rw [List.getD_eq_getElem?_getD, List.getElem?_eq_getElem (by omega), hx0]; rfl
  rw [show lookM l i = (decMsg (l.getD i.toNat [])).getD msgZ from if_pos hh, show takeE l i = (if (decMsg (l.getD i.toNat [])).isSome = true then 0 else 181) from if_pos hh, show delL l i = l.take i.toNat ++ l.drop (i + 1).toNat from if_pos hh, hgx]
  replace F16 := F16.mv1 G21 (by first | exact ⟨by omega, fun h => h⟩ | exact ⟨by omega, by assumption⟩ | exact ⟨by omega, fun h => by have := hBl _ h; omega⟩)
  replace F16 := F16.gr G41
  replace F16 := F16.mv1 G44 (by first | exact ⟨by omega, fun h => h⟩ | exact ⟨by omega, by assumption⟩ | exact ⟨by omega, fun h => by have := hBl _ h; omega⟩)
  replace Fk := Fk.gr G41
  replace Fk := Fk.ma G44
  replace HG := HG.grow (G4.trans G9)
  replace HG := HG.n1 G18
  replace HG := HG.n1 G21
  replace HG := HG.grow G41
  replace HG := HG.n1 G44
  have FX9 : Bg _ k g B _ := ⟨hnk, hng, (okL_del hok (by omega)), Nat.lt_of_lt_of_le hgl (V.Fr.size HG), fun j h => Nat.lt_of_lt_of_le (hBl j h) (V.Fr.size HG), _, _, Fk, Bg.back hgk hng F16⟩
  refine V.done2 rfl (V.resV_cell T_ok Fk2 rfl rfl) (V.resV_tmp rfl) ?_
  replace F35 := F35.ma G44
  replace F36 := F36.ma G44
  replace F37 := F37.ma G44
  replace F38 := F38.ma G44
  replace F39 := F39.ma G44
  exact ⟨a25, c26, a27, c28, a29, c30, a31, c32, a33, c34, _, _, (by first | rfl | simp only [List.length_set]), F35.re, F36.re, F37.re, F38.re, F39.re, FX9, (.inl rfl), (fun j h => .inl h), HG⟩

end Go.Proofs.YtmmgmkklakkooaaGreat
