/- Proved here: walks: what functions of this seat's program return and what they leave of memory, each as a contract. Conditions: stated at each theorem. -/
import Derived.Test.YtmmgmkklakkooaaGreatMlbag
namespace Go.Proofs.YtmmgmkklakkooaaGreat
set_option linter.unusedVariables false
set_option linter.unusedSimpArgs false
open Go
open V (Bytes Meets Env Sl Own Gr Fr Cells S)
def smE (l : List (Int × List UInt8)) : Nat := (l.map (fun x => x.2.length)).sum
structure SmD (m : MsgV) : Prop where
  da : m.da.length ≤ 32768
  es : m.es.length ≤ 8
  ew : ∀ x ∈ m.es, x.2.length ≤ 32768
theorem smD_of {m : MsgV} (h : msgB m = true) : SmD m := by
  have hs := msg_small h
  exact ⟨hs.dl, hs.el, fun x hx => (hs.ew x hx).2⟩
theorem smE_le : ∀ {l : List (Int × List UInt8)}, (∀ x ∈ l, x.2.length ≤ 32768) → smE l ≤ 32768 * l.length
  | [], _ => by simp [smE]
  | x :: l, h => by
    have h1 := h x (by simp)
    have h2 := smE_le (l := l) (fun y hy => h y (by simp [hy]))
    unfold smE at h2 ⊢
    rw [List.map_cons, List.sum_cons, List.length_cons]; omega
theorem smE_succ {l : List (Int × List UInt8)} {i : Nat} {x : Int × List UInt8} (hi : i < l.length) (hx : l[i] = x) : smE (l.take i) + x.2.length = smE (l.take (i + 1)) := by
  subst hx; unfold smE; rw [List.take_succ_eq_append_getElem hi, List.map_append, List.sum_append]; simp
theorem fits_step {m : MsgV} {nn : Int} {i : Nat} {x : Int × List UInt8} (h : SmD m → nn = ((m.da.length + smE (m.es.take i) : Nat) : Int)) (hi : i < m.es.length) (hx : m.es[i] = x) : SmD m → Go.IntKind.wrap .i64 (nn + (x.2.length : Int)) = ((m.da.length + smE (m.es.take (i + 1)) : Nat) : Int) := by
  intro hs
  have h1 := h hs
  have h2 := smE_succ hi hx
  have h3 := smE_le (l := m.es.take (i + 1)) (fun y hy => hs.ew y (List.mem_of_mem_take hy))
  have h4 := hs.da
  have h5 := hs.es
  rw [List.length_take] at h3
  rw [V.wrap_in (x := nn + (x.2.length : Int)) (by omega) (by omega)]; omega
theorem ents_len : ∀ {l : List (Int × List UInt8)}, (∀ x ∈ l, x.1 ≤ 1099511627776 ∧ x.2.length ≤ 32768) → (l.flatMap entb).length ≤ 18 * l.length + smE l
  | [], _ => by simp [smE]
  | x :: l, h => by
    have h1 := h x (by simp)
    have h2 := ents_len (l := l) (fun y hy => h y (by simp [hy]))
    have h3 := nb_len (v := x.1) (by omega)
    have h4 := textB_len2 x.2 (by omega)
    have h5 : (entb x).length = (nb x.1).length + (textB x.2).length := by unfold entb; rw [List.length_append]
    unfold smE at h2 ⊢
    rw [List.flatMap_cons, List.length_append, List.map_cons, List.sum_cons, List.length_cons]
    omega
theorem recBy_len2 {d : RecV} (hb : recB d = true) : (recBy d).length ≤ 9000 := by
  obtain ⟨hd, h⟩ := recB_fit0 hb
  have h8 := (recB_parts hb).2.2.2.2.2.1
  obtain ⟨i1, i2, i3, i4, i5, i6, i7⟩ := hd
  have n1 := numB_len9 i1
  have n2 := numB_len9 i2
  have n3 := numB_len9 i3
  have n4 := stB_len i4 i5
  have n5 := stB_len i6 i7
  have n6 := numB_len9 (v := (d.ws.length : Int)) (by omega)
  rw [Int.toNat_natCast] at n6
  have n7 := wrsB_len h.2
  simp only [recBy, List.length_append]; omega
theorem res_len2 {x : ResV} (hb : resB x = true) : (resBy x).length ≤ 60000 := by
  have h := res_small hb
  obtain ⟨h1, h2, h3, -⟩ := res_len h
  obtain ⟨h4, h5, h6, h7⟩ := h.s
  have a5 := st_len (x := x.sw) (y := x.sl) (by omega) (by omega)
  have a7 := tb_len h.an (by omega)
  have a8 := recBy_len2 (res_low hb).rc
  unfold resBy; simp only [List.length_append]; omega
theorem body_fits {m : MsgV} (h : msgB m = true) (hf : m.da.length + smE m.es ≤ 600) : (bodyM m).length ≤ 65536 := by
  have hs := msg_small h
  obtain ⟨h1, h2, -, -, -⟩ := msg_len hs
  have h3 := ents_len (l := m.es) (fun x hx => ⟨(hs.ew x hx).1.2, (hs.ew x hx).2⟩)
  have h4 := textB_len2 m.da (by omega)
  have h5 := st_len (x := m.nw) (y := m.nl) (by have := hs.s; unfold stR at this; omega) (by have := hs.s; unfold stR at this; omega)
  have h6 := hs.el
  have h7 : (mp4 m).length ≤ 1000 := by unfold mp4 mp3; simp only [List.length_append]; omega
  unfold bodyM
  split
  · rename_i k6
    have h8 := enc_len (hs.c k6)
    have h9 := textB_len2 (encB m.c) (by omega)
    rw [List.length_append]; omega
  · split
    · rename_i k7
      have h8 := res_len2 (hs.r k7)
      rw [List.length_append]; omega
    · omega
theorem back_no {m : MsgV} (hf : SmD m → m.da.length + smE m.es ≤ 600) (h : ¬ encE m = 0) : msgB m = false := by
  cases hb : msgB m with
  | false => rfl
  | true => exact absurd (if_pos ⟨hb, body_fits hb (hf (smD_of hb))⟩) h
set_option maxHeartbeats 900000 in
set_option maxRecDepth 10000 in
theorem mfits2_spec {w : World} {mm : MsgV} {D_oe : Nat → Prop} {c_oe : Nat} {a_oe : Option Addr} (F_oe : Sl V.Cod.ent w D_oe a_oe c_oe mm.es) (hD_oe : ∀ k, D_oe k → k < w.heap.size) {D_od : Nat → Prop} {c_od : Nat} {a_od : Option Addr} (F_od : Sl V.Cod.byte w D_od a_od c_od mm.da) (hD_od : ∀ k, D_od k → k < w.heap.size) {D_oc : Nat → Prop} {c_oc : Nat} {a_oc : Option Addr} (F_oc : Sl V.Cod.write w D_oc a_oc c_oc mm.c.ws) (hD_oc : ∀ k, D_oc k → k < w.heap.size) {D_op : Nat → Prop} {c_op : Nat} {a_op : Option Addr} (F_op : Sl (V.Cod.pair V.Cod.str V.Cod.str) w D_op a_op c_op mm.r.ps) (hD_op : ∀ k, D_op k → k < w.heap.size) {D_or : Nat → Prop} {c_or : Nat} {a_or : Option Addr} (F_or : Sl V.Cod.write w D_or a_or c_or mm.r.rc.ws) (hD_or : ∀ k, D_or k → k < w.heap.size)   :
    Meets Tryz.prog 9 [.agg #[.int .i64 mm.kd, .int .i64 mm.fr, .int .i64 mm.to, .int .i64 mm.rg, .int .i64 mm.te, .int .i64 mm.ix, .int .i64 mm.lt, .int .i64 mm.co, .bool mm.ok, .slice a_oe mm.es.length c_oe, .slice a_od mm.da.length c_od, .int .i64 mm.nw, .int .i64 mm.nl, .int .i64 mm.c.kd, .int .i64 mm.c.id, .int .i64 mm.c.le, .int .i64 mm.c.nd, .int .i64 mm.c.ti, .int .i64 mm.c.te, .string mm.c.an, .int .i64 mm.c.sw, .int .i64 mm.c.sl, .int .i64 mm.c.sq, .string mm.c.fr, .string mm.c.to, .string mm.c.va, .bool mm.c.go, .int .i64 mm.c.aw, .int .i64 mm.c.al, .int .i64 mm.c.lw, .int .i64 mm.c.ll, .bool mm.c.cm, .bool mm.c.st, .slice a_oc mm.c.ws.length c_oc, .int .i64 mm.c.pr, .int .i64 mm.r.er, .int .i64 mm.r.aw, .int .i64 mm.r.al, .slice a_op mm.r.ps.length c_op, .bool mm.r.fo, .int .i64 mm.r.ti, .int .i64 mm.r.te, .string mm.r.an, .int .i64 mm.r.sw, .int .i64 mm.r.sl, .int .i64 mm.r.rc.id, .int .i64 mm.r.rc.ep, .int .i64 mm.r.rc.st, .int .i64 mm.r.rc.aw, .int .i64 mm.r.rc.al, .int .i64 mm.r.rc.bw, .int .i64 mm.r.rc.bl, .slice a_or mm.r.rc.ws.length c_or]] w fun r w' => ∃ (rv1 : Bool), r = .bool rv1 ∧ (rv1 = true → SmD mm → mm.da.length + smE mm.es ≤ 600) ∧ Gr w w' := by
 have HG := V.Fr.refl [] w
 refine V.enter (n := 104) Tryz.func9 rfl rfl (by decide) rfl ?_
 refine V.sr ?_
 refine V.box rfl rfl rfl rfl ?_
 rintro k1 w3 s5 s6 G4 Fk2
 have z7 := V.Fr.size G4
 try simp only [V.cellsL, V.spliceL] at Fk2
 refine V.ru 1 ?_
 refine V.nt ?_
 refine V.sr ?_
 refine V.ru 1 ?_
 refine V.loadO T_ok Fk2 rfl rfl rfl rfl rfl ?_
 refine V.ru 2 ?_
 refine V.nt ?_
 refine V.seq ?_
 refine V.sr ?_
 refine V.ru 1 ?_
 refine V.nt ?_
 refine V.block ?_
 replace F_oe := F_oe.gr G4
 have hl63a := F_oe.len63
 replace F_od := F_od.gr G4
 replace F_oc := F_oc.gr G4
 replace F_op := F_op.gr G4
 replace F_or := F_or.gr G4
 replace HG := HG.grow G4
 refine V.loopM (fun m e v9 => Fr [] w v9 ∧ w3.heap.size ≤ v9.heap.size ∧ Sl V.Cod.ent v9 D_oe a_oe c_oe mm.es ∧ Sl V.Cod.byte v9 D_od a_od c_od mm.da ∧ Sl V.Cod.write v9 D_oc a_oc c_oc mm.c.ws ∧ Sl (V.Cod.pair V.Cod.str V.Cod.str) v9 D_op a_op c_op mm.r.ps ∧ Sl V.Cod.write v9 D_or a_or c_or mm.r.rc.ws ∧ Cells v9 k1 [.int .i64 mm.kd, .int .i64 mm.fr, .int .i64 mm.to, .int .i64 mm.rg, .int .i64 mm.te, .int .i64 mm.ix, .int .i64 mm.lt, .int .i64 mm.co, .bool mm.ok, .slice a_oe mm.es.length c_oe, .slice a_od mm.da.length c_od, .int .i64 mm.nw, .int .i64 mm.nl, .int .i64 mm.c.kd, .int .i64 mm.c.id, .int .i64 mm.c.le, .int .i64 mm.c.nd, .int .i64 mm.c.ti, .int .i64 mm.c.te, .string mm.c.an, .int .i64 mm.c.sw, .int .i64 mm.c.sl, .int .i64 mm.c.sq, .string mm.c.fr, .string mm.c.to, .string mm.c.va, .bool mm.c.go, .int .i64 mm.c.aw, .int .i64 mm.c.al, .int .i64 mm.c.lw, .int .i64 mm.c.ll, .bool mm.c.cm, .bool mm.c.st, .slice a_oc mm.c.ws.length c_oc, .int .i64 mm.c.pr, .int .i64 mm.r.er, .int .i64 mm.r.aw, .int .i64 mm.r.al, .slice a_op mm.r.ps.length c_op, .bool mm.r.fo, .int .i64 mm.r.ti, .int .i64 mm.r.te, .string mm.r.an, .int .i64 mm.r.sw, .int .i64 mm.r.sl, .int .i64 mm.r.rc.id, .int .i64 mm.r.rc.ep, .int .i64 mm.r.rc.st, .int .i64 mm.r.rc.aw, .int .i64 mm.r.rc.al, .int .i64 mm.r.rc.bw, .int .i64 mm.r.rc.bl, .slice a_or mm.r.rc.ws.length c_or] 50 ∧ ∃ (i : Nat) (nn : Int) , m = mm.es.length - i ∧ i ≤ mm.es.length ∧ (SmD mm → nn = ((mm.da.length + smE (mm.es.take i) : Nat) : Int)) ∧ e 1 = .pointer (some ⟨k1, 0, none⟩) ∧ e 3 = .int .i64 nn ∧ e 4 = .int .i64 (i : Int)) ?_ ?_
 ·
  exact ⟨_, HG, (by omega), F_oe, F_od, F_oc, F_op, F_or, Fk2, (0), ((mm.da.length : Int)), rfl, (Nat.zero_le _), (fun _ => by simp [smE]), rfl, rfl, rfl⟩
 clear HG F_oe F_od F_oc F_op F_or Fk2
 rintro _ e v9 ⟨HG, z10, F_oe, F_od, F_oc, F_op, F_or, Fk2, i, nn, rfl, hia, hnn, he0_1, he0_3, he0_4⟩
 refine V.knownC (t := 1) he0_1 ?_
 refine V.knownC (t := 3) he0_3 ?_
 refine V.knownC (t := 4) he0_4 ?_
 refine V.seq ?_
 refine V.sr ?_
 refine V.ru 2 ?_
 refine V.loadO T_ok Fk2 rfl rfl rfl rfl rfl ?_
 refine V.ru 2 ?_
 refine V.nt ?_
 refine V.condT rfl (fun h3 => ?_) (fun h3 => ?_)
 ·
  try replace h3 := V.dec h3
  try simp only [V.mk] at h3
  refine V.skip ?_
  refine V.tN ?_
  refine V.seq ?_
  refine V.block ?_
  refine V.sr ?_
  refine V.ru 2 ?_
  refine V.loadO T_ok Fk2 rfl rfl rfl rfl rfl ?_
  refine V.ru 1 ?_
  refine V.elem T_ok F_oe rfl rfl sz74 rfl rfl rfl rfl V.lenA V.lenA ?_
  rintro b11 o12 cs13 hx14 hb15 hR21 hA16
  obtain ⟨x17, hx17⟩ : ∃ z', mm.es[((i : Int)).toNat] = z' := ⟨_, rfl⟩
  rw [hx17] at hR21
  obtain ⟨_, _, rfl, rfl, ⟨a18, c19, rfl, F20⟩⟩ := hR21
  try simp only [Int.toNat_natCast] at hx17 hx14
  refine V.ru 1 ?_
  refine V.loadA T_ok (o0 := o12) (off := 1) hA16 rfl rfl rfl rfl rfl ?_
  refine V.ru 1 ?_
  refine V.ru 1 ?_
  refine V.ru 1 ?_
  refine V.nt ?_
  refine V.sr ?_
  refine V.ru 3 ?_
  refine V.orG T_ok 2 2 29 rfl rfl rfl rfl rfl rfl rfl rfl ?_
  refine V.nt ?_
  refine V.condT rfl (fun h6 => ?_) (fun h6 => ?_)
  ·
   try replace h6 := V.dec h6
   try simp only [V.mk] at h6
   refine V.sr ?_
   refine V.ru 1 ?_
   refine V.nt ?_
   refine V.ret ?_
   refine V.bR ?_
   refine V.tR ?_
   refine V.tR ?_
   refine V.bR ?_
   refine V.tR ?_
   refine V.done rfl ?_
   exact ⟨_, (by first | rfl | simp only [List.length_set]), (by intro hv hsd; first | (cases hv; done) | (have hn := hnn hsd; rw [List.take_of_length_le (by omega)] at hn; simp at hv; omega)), HG⟩
  ·
   try replace h6 := V.dec h6
   try simp only [V.mk] at h6
   refine V.skip ?_
   refine V.bN ?_
   refine V.tN ?_
   refine V.region ?_
   refine V.ru 1 ?_
   refine V.addN rfl rfl rfl rfl rfl V.lenA V.lenA ?_
   refine V.ru 1 ?_
   refine V.nt ?_
   exact ⟨_, (by omega), HG, (by omega), F_oe, F_od, F_oc, F_op, F_or, Fk2, (i + 1), (Go.IntKind.wrap .i64 (nn + (x17.2.length : Int))), rfl, (by omega), (fits_step hnn (by omega) hx17), rfl, rfl, rfl⟩
 ·
  try replace h3 := V.dec h3
  try simp only [V.mk] at h3
  refine V.exit ?_
  refine V.tX ?_
  refine V.tX ?_
  refine V.bE ?_
  refine V.tN ?_
  refine V.seq ?_
  refine V.sr ?_
  refine V.ru 1 ?_
  refine V.nt ?_
  refine V.block ?_
  have hl63b := F_op.len63
  refine V.loopM (fun m e v23 => Fr [] w v23 ∧ v9.heap.size ≤ v23.heap.size ∧ Sl V.Cod.ent v23 D_oe a_oe c_oe mm.es ∧ Sl V.Cod.byte v23 D_od a_od c_od mm.da ∧ Sl V.Cod.write v23 D_oc a_oc c_oc mm.c.ws ∧ Sl (V.Cod.pair V.Cod.str V.Cod.str) v23 D_op a_op c_op mm.r.ps ∧ Sl V.Cod.write v23 D_or a_or c_or mm.r.rc.ws ∧ Cells v23 k1 [.int .i64 mm.kd, .int .i64 mm.fr, .int .i64 mm.to, .int .i64 mm.rg, .int .i64 mm.te, .int .i64 mm.ix, .int .i64 mm.lt, .int .i64 mm.co, .bool mm.ok, .slice a_oe mm.es.length c_oe, .slice a_od mm.da.length c_od, .int .i64 mm.nw, .int .i64 mm.nl, .int .i64 mm.c.kd, .int .i64 mm.c.id, .int .i64 mm.c.le, .int .i64 mm.c.nd, .int .i64 mm.c.ti, .int .i64 mm.c.te, .string mm.c.an, .int .i64 mm.c.sw, .int .i64 mm.c.sl, .int .i64 mm.c.sq, .string mm.c.fr, .string mm.c.to, .string mm.c.va, .bool mm.c.go, .int .i64 mm.c.aw, .int .i64 mm.c.al, .int .i64 mm.c.lw, .int .i64 mm.c.ll, .bool mm.c.cm, .bool mm.c.st, .slice a_oc mm.c.ws.length c_oc, .int .i64 mm.c.pr, .int .i64 mm.r.er, .int .i64 mm.r.aw, .int .i64 mm.r.al, .slice a_op mm.r.ps.length c_op, .bool mm.r.fo, .int .i64 mm.r.ti, .int .i64 mm.r.te, .string mm.r.an, .int .i64 mm.r.sw, .int .i64 mm.r.sl, .int .i64 mm.r.rc.id, .int .i64 mm.r.rc.ep, .int .i64 mm.r.rc.st, .int .i64 mm.r.rc.aw, .int .i64 mm.r.rc.al, .int .i64 mm.r.rc.bw, .int .i64 mm.r.rc.bl, .slice a_or mm.r.rc.ws.length c_or] 50 ∧ ∃ (i : Nat) , m = (mm.r.ps).length - i ∧ i ≤ (mm.r.ps).length ∧ e 1 = .pointer (some ⟨k1, 0, none⟩) ∧ e 3 = .int .i64 nn ∧ e 5 = .int .i64 (i : Int)) ?_ ?_
  ·
   exact ⟨_, HG, (by omega), F_oe, F_od, F_oc, F_op, F_or, Fk2, (0), rfl, (Nat.zero_le _), rfl, rfl, rfl⟩
  clear HG F_oe F_od F_oc F_op F_or Fk2
  rintro _ e v23 ⟨HG, z24, F_oe, F_od, F_oc, F_op, F_or, Fk2, i, rfl, hib, he1_1, he1_3, he1_5⟩
  refine V.knownC (t := 1) he1_1 ?_
  refine V.knownC (t := 3) he1_3 ?_
  refine V.knownC (t := 5) he1_5 ?_
  refine V.seq ?_
  refine V.sr ?_
  refine V.ru 3 ?_
  refine V.loadO T_ok Fk2 rfl rfl rfl rfl rfl ?_
  refine V.ru 2 ?_
  refine V.nt ?_
  refine V.condT rfl (fun h9 => ?_) (fun h9 => ?_)
  ·
   try replace h9 := V.dec h9
   try simp only [V.mk] at h9
   refine V.skip ?_
   refine V.tN ?_
   refine V.seq ?_
   refine V.block ?_
   refine V.sr ?_
   refine V.ru 3 ?_
   refine V.split (j := 2) (t := 43) rfl rfl (fun g11_2 => ?_) (fun g11_2 => ?_)
   ·
    try replace g11_2 := V.dec g11_2
    try simp only [V.mk] at g11_2
    refine V.ru 21 ?_
    refine V.nt ?_
    refine V.condY rfl rfl ?_
    refine V.sr ?_
    refine V.ru 1 ?_
    refine V.nt ?_
    refine V.ret ?_
    refine V.bR ?_
    refine V.tR ?_
    refine V.tR ?_
    refine V.bR ?_
    refine V.tR ?_
    refine V.done rfl ?_
    exact ⟨_, (by first | rfl | simp only [List.length_set]), (by intro hv hsd; first | (cases hv; done) | (have hn := hnn hsd; rw [List.take_of_length_le (by omega)] at hn; simp at hv; omega)), HG⟩
   ·
    try replace g11_2 := V.dec g11_2
    try simp only [V.mk] at g11_2
    refine V.ru 2 ?_
    refine V.yes rfl rfl rfl ?_
    refine V.loadO T_ok Fk2 rfl rfl rfl rfl rfl ?_
    refine V.ru 1 ?_
    refine V.yes rfl rfl rfl ?_
    refine V.elem T_ok F_op rfl rfl sz76 rfl rfl rfl rfl V.lenA V.lenA ?_
    rintro b25 o26 cs27 hx28 hb29 hR32 hA30
    obtain ⟨x31, hx31⟩ : ∃ z', mm.r.ps[((i : Int)).toNat] = z' := ⟨_, rfl⟩
    rw [hx31] at hR32
    obtain ⟨_, _, rfl, rfl, rfl⟩ := hR32
    try simp only [Int.toNat_natCast] at hx31 hx28
    refine V.ru 1 ?_
    refine V.yes rfl rfl rfl ?_
    refine V.loadA T_ok (o0 := o26) (off := 0) hA30 rfl rfl rfl rfl rfl ?_
    refine V.ru 4 ?_
    refine V.split (j := 13) (t := 54) rfl rfl (fun g11_13 => ?_) (fun g11_13 => ?_)
    ·
     try replace g11_13 := V.dec g11_13
     try simp only [V.mk] at g11_13
     refine V.ru 10 ?_
     refine V.nt ?_
     refine V.condY rfl rfl ?_
     refine V.sr ?_
     refine V.ru 1 ?_
     refine V.nt ?_
     refine V.ret ?_
     refine V.bR ?_
     refine V.tR ?_
     refine V.tR ?_
     refine V.bR ?_
     refine V.tR ?_
     refine V.done rfl ?_
     exact ⟨_, (by first | rfl | simp only [List.length_set]), (by intro hv hsd; first | (cases hv; done) | (have hn := hnn hsd; rw [List.take_of_length_le (by omega)] at hn; simp at hv; omega)), HG⟩
    ·
     try replace g11_13 := V.dec g11_13
     try simp only [V.mk] at g11_13
     refine V.ru 2 ?_
     refine V.yes rfl rfl rfl ?_
     refine V.loadO T_ok Fk2 rfl rfl rfl rfl rfl ?_
     refine V.ru 1 ?_
     refine V.yes rfl rfl rfl ?_
     refine V.elem T_ok F_op rfl rfl sz76 rfl rfl rfl rfl V.lenA V.lenA ?_
     rintro b33 o34 cs35 hx36 hb37 hR40 hA38
     obtain ⟨x39, hx39⟩ : ∃ z', mm.r.ps[((i : Int)).toNat] = z' := ⟨_, rfl⟩
     rw [hx39] at hR40
     obtain ⟨_, _, rfl, rfl, rfl⟩ := hR40
     try simp only [Int.toNat_natCast] at hx39 hx36
     obtain rfl : x31 = x39 := hx31.symm.trans hx39
     refine V.ru 1 ?_
     refine V.yes rfl rfl rfl ?_
     refine V.loadA T_ok (o0 := o34) (off := 1) hA38 rfl rfl rfl rfl rfl ?_
     refine V.ru 3 ?_
     refine V.nt ?_
     refine V.condT rfl (fun h11 => ?_) (fun h11 => ?_)
     ·
      try replace h11 := V.dec h11
      try simp only [V.mk] at h11
      refine V.sr ?_
      refine V.ru 1 ?_
      refine V.nt ?_
      refine V.ret ?_
      refine V.bR ?_
      refine V.tR ?_
      refine V.tR ?_
      refine V.bR ?_
      refine V.tR ?_
      refine V.done rfl ?_
      exact ⟨_, (by first | rfl | simp only [List.length_set]), (by intro hv hsd; first | (cases hv; done) | (have hn := hnn hsd; rw [List.take_of_length_le (by omega)] at hn; simp at hv; omega)), HG⟩
     ·
      try replace h11 := V.dec h11
      try simp only [V.mk] at h11
      refine V.skip ?_
      refine V.bN ?_
      refine V.tN ?_
      refine V.region ?_
      refine V.ru 1 ?_
      refine V.addN rfl rfl rfl rfl rfl V.lenA V.lenA ?_
      refine V.ru 1 ?_
      refine V.nt ?_
      exact ⟨_, (by omega), HG, (by omega), F_oe, F_od, F_oc, F_op, F_or, Fk2, (i + 1), rfl, (by omega), rfl, rfl, rfl⟩
  ·
   try replace h9 := V.dec h9
   try simp only [V.mk] at h9
   refine V.exit ?_
   refine V.tX ?_
   refine V.tX ?_
   refine V.bE ?_
   refine V.tN ?_
   refine V.seq ?_
   refine V.sr ?_
   refine V.ru 1 ?_
   refine V.nt ?_
   refine V.block ?_
   have hl63c := F_or.len63
   refine V.loopM (fun m e v42 => Fr [] w v42 ∧ v23.heap.size ≤ v42.heap.size ∧ Sl V.Cod.ent v42 D_oe a_oe c_oe mm.es ∧ Sl V.Cod.byte v42 D_od a_od c_od mm.da ∧ Sl V.Cod.write v42 D_oc a_oc c_oc mm.c.ws ∧ Sl (V.Cod.pair V.Cod.str V.Cod.str) v42 D_op a_op c_op mm.r.ps ∧ Sl V.Cod.write v42 D_or a_or c_or mm.r.rc.ws ∧ Cells v42 k1 [.int .i64 mm.kd, .int .i64 mm.fr, .int .i64 mm.to, .int .i64 mm.rg, .int .i64 mm.te, .int .i64 mm.ix, .int .i64 mm.lt, .int .i64 mm.co, .bool mm.ok, .slice a_oe mm.es.length c_oe, .slice a_od mm.da.length c_od, .int .i64 mm.nw, .int .i64 mm.nl, .int .i64 mm.c.kd, .int .i64 mm.c.id, .int .i64 mm.c.le, .int .i64 mm.c.nd, .int .i64 mm.c.ti, .int .i64 mm.c.te, .string mm.c.an, .int .i64 mm.c.sw, .int .i64 mm.c.sl, .int .i64 mm.c.sq, .string mm.c.fr, .string mm.c.to, .string mm.c.va, .bool mm.c.go, .int .i64 mm.c.aw, .int .i64 mm.c.al, .int .i64 mm.c.lw, .int .i64 mm.c.ll, .bool mm.c.cm, .bool mm.c.st, .slice a_oc mm.c.ws.length c_oc, .int .i64 mm.c.pr, .int .i64 mm.r.er, .int .i64 mm.r.aw, .int .i64 mm.r.al, .slice a_op mm.r.ps.length c_op, .bool mm.r.fo, .int .i64 mm.r.ti, .int .i64 mm.r.te, .string mm.r.an, .int .i64 mm.r.sw, .int .i64 mm.r.sl, .int .i64 mm.r.rc.id, .int .i64 mm.r.rc.ep, .int .i64 mm.r.rc.st, .int .i64 mm.r.rc.aw, .int .i64 mm.r.rc.al, .int .i64 mm.r.rc.bw, .int .i64 mm.r.rc.bl, .slice a_or mm.r.rc.ws.length c_or] 50 ∧ ∃ (i : Nat) , m = (mm.r.rc.ws).length - i ∧ i ≤ (mm.r.rc.ws).length ∧ e 1 = .pointer (some ⟨k1, 0, none⟩) ∧ e 3 = .int .i64 nn ∧ e 6 = .int .i64 (i : Int)) ?_ ?_
   ·
    exact ⟨_, HG, (by omega), F_oe, F_od, F_oc, F_op, F_or, Fk2, (0), rfl, (Nat.zero_le _), rfl, rfl, rfl⟩
   clear HG F_oe F_od F_oc F_op F_or Fk2
   rintro _ e v42 ⟨HG, z43, F_oe, F_od, F_oc, F_op, F_or, Fk2, i, rfl, hic, he2_1, he2_3, he2_6⟩
   refine V.knownC (t := 1) he2_1 ?_
   refine V.knownC (t := 3) he2_3 ?_
   refine V.knownC (t := 6) he2_6 ?_
   refine V.seq ?_
   refine V.sr ?_
   refine V.ru 4 ?_
   refine V.loadO T_ok Fk2 rfl rfl rfl rfl rfl ?_
   refine V.ru 2 ?_
   refine V.nt ?_
   refine V.condT rfl (fun h14 => ?_) (fun h14 => ?_)
   ·
    try replace h14 := V.dec h14
    try simp only [V.mk] at h14
    refine V.skip ?_
    refine V.tN ?_
    refine V.seq ?_
    refine V.block ?_
    refine V.sr ?_
    refine V.ru 3 ?_
    refine V.split (j := 2) (t := 76) rfl rfl (fun g16_2 => ?_) (fun g16_2 => ?_)
    ·
     try replace g16_2 := V.dec g16_2
     try simp only [V.mk] at g16_2
     refine V.ru 11 ?_
     refine V.nt ?_
     refine V.condY rfl rfl ?_
     refine V.sr ?_
     refine V.ru 1 ?_
     refine V.nt ?_
     refine V.ret ?_
     refine V.bR ?_
     refine V.tR ?_
     refine V.tR ?_
     refine V.bR ?_
     refine V.tR ?_
     refine V.done rfl ?_
     exact ⟨_, (by first | rfl | simp only [List.length_set]), (by intro hv hsd; first | (cases hv; done) | (have hn := hnn hsd; rw [List.take_of_length_le (by omega)] at hn; simp at hv; omega)), HG⟩
    ·
     try replace g16_2 := V.dec g16_2
     try simp only [V.mk] at g16_2
     refine V.ru 3 ?_
     refine V.yes rfl rfl rfl ?_
     refine V.loadO T_ok Fk2 rfl rfl rfl rfl rfl ?_
     refine V.ru 1 ?_
     refine V.yes rfl rfl rfl ?_
     refine V.elem T_ok F_or rfl rfl sz78 rfl rfl rfl rfl V.lenA V.lenA ?_
     rintro b44 o45 cs46 hx47 hb48 hR51 hA49
     obtain ⟨x50, hx50⟩ : ∃ z', mm.r.rc.ws[((i : Int)).toNat] = z' := ⟨_, rfl⟩
     rw [hx50] at hR51
     obtain ⟨_, _, rfl, rfl, rfl⟩ := hR51
     try simp only [Int.toNat_natCast] at hx50 hx47
     refine V.ru 1 ?_
     refine V.yes rfl rfl rfl ?_
     refine V.loadA T_ok (o0 := o45) (off := 0) hA49 rfl rfl rfl rfl rfl ?_
     refine V.ru 3 ?_
     refine V.nt ?_
     refine V.condT rfl (fun h16 => ?_) (fun h16 => ?_)
     ·
      try replace h16 := V.dec h16
      try simp only [V.mk] at h16
      refine V.sr ?_
      refine V.ru 1 ?_
      refine V.nt ?_
      refine V.ret ?_
      refine V.bR ?_
      refine V.tR ?_
      refine V.tR ?_
      refine V.bR ?_
      refine V.tR ?_
      refine V.done rfl ?_
      exact ⟨_, (by first | rfl | simp only [List.length_set]), (by intro hv hsd; first | (cases hv; done) | (have hn := hnn hsd; rw [List.take_of_length_le (by omega)] at hn; simp at hv; omega)), HG⟩
     ·
      try replace h16 := V.dec h16
      try simp only [V.mk] at h16
      refine V.skip ?_
      refine V.bN ?_
      refine V.tN ?_
      refine V.region ?_
      refine V.ru 1 ?_
      refine V.addN rfl rfl rfl rfl rfl V.lenA V.lenA ?_
      refine V.ru 1 ?_
      refine V.nt ?_
      exact ⟨_, (by omega), HG, (by omega), F_oe, F_od, F_oc, F_op, F_or, Fk2, (i + 1), rfl, (by omega), rfl, rfl, rfl⟩
   ·
    try replace h14 := V.dec h14
    try simp only [V.mk] at h14
    refine V.exit ?_
    refine V.tX ?_
    refine V.tX ?_
    refine V.bE ?_
    refine V.tN ?_
    refine V.sr ?_
    refine V.ru 1 ?_
    refine V.loadO T_ok Fk2 rfl rfl rfl rfl rfl ?_
    refine V.call (cfits_spec (d := mm.c) F_oc (fun k hk => by have := hD_oc k hk; omega)) rfl rfl rfl ?_
    rintro _ w53 ⟨v52, rfl, G54⟩
    have z55 := V.Fr.size G54
    refine V.ru 1 ?_
    refine V.nt ?_
    refine V.sr ?_
    refine V.ru 2 ?_
    refine V.andG T_ok 2 1 92 rfl rfl rfl rfl rfl rfl rfl rfl ?_
    refine V.ru 1 ?_
    refine V.split (j := 5) (t := 96) rfl rfl (fun g19_5 => ?_) (fun g19_5 => ?_)
    ·
     try replace g19_5 := V.dec g19_5
     try simp only [V.mk] at g19_5
     refine V.ru 3 ?_
     refine V.yes rfl rfl rfl ?_
     replace Fk2 := Fk2.gr G54
     refine V.loadO T_ok Fk2 rfl rfl rfl rfl rfl ?_
     refine V.ru 4 ?_
     refine V.nt ?_
     refine V.ret ?_
     refine V.done rfl ?_
     replace HG := HG.grow G54
     exact ⟨_, (by first | rfl | simp only [List.length_set]), (by intro hv hsd; first | (cases hv; done) | (have hn := hnn hsd; rw [List.take_of_length_le (by omega)] at hn; simp at hv; omega)), HG⟩
    ·
     try replace g19_5 := V.dec g19_5
     try simp only [V.mk] at g19_5
     refine V.ru 8 ?_
     refine V.nt ?_
     refine V.ret ?_
     refine V.done rfl ?_
     replace HG := HG.grow G54
     exact ⟨_, (by first | rfl | simp only [List.length_set]), (by intro hv hsd; first | (cases hv; done) | (have hn := hnn hsd; rw [List.take_of_length_le (by omega)] at hn; simp at hv; omega)), HG⟩


theorem put_yes {l : List (List UInt8)} {m : MsgV} (he : encE m = 0) (hl : l.length < 300) : putL l m = l ++ [encM m] := if_pos ⟨he, hl⟩
theorem put_no {l : List (List UInt8)} {m : MsgV} (he : ¬ encE m = 0) : putL l m = l := if_neg fun h => he h.1
theorem putE_yes {l : List (List UInt8)} {m : MsgV} (he : encE m = 0) (hl : l.length < 300) : putE l m = 0 := (if_pos he).trans (if_neg (by omega))
theorem putE_no {l : List (List UInt8)} {m : MsgV} (he : ¬ encE m = 0) : putE l m = 181 := if_neg he
theorem and_c (a : Int) {c : Nat} (hc : c < 4611686018427387904) : 0 ≤ Go.bits .and .i64 a (c : Int) ∧ Go.bits .and .i64 a (c : Int) ≤ c := by
  have h1 : (BitVec.ofInt 64 (c : Int)).toNat = c := by
    rw [BitVec.toNat_ofInt]; omega
  have h2 : (BitVec.ofInt 64 a &&& BitVec.ofInt 64 (c : Int)).toNat ≤ c := by
    rw [BitVec.toNat_and, h1]
    exact Nat.and_le_right
  have e : Go.bits .and .i64 a (c : Int) = Go.IntKind.wrap .i64 (((BitVec.ofInt 64 a &&& BitVec.ofInt 64 (c : Int)).toNat : Nat) : Int) := rfl
  rw [e, V.wrap_in (by omega) (by omega)]; omega
end Go.Proofs.YtmmgmkklakkooaaGreat
