/- Proved here: walks: what functions of this seat's program return and what they leave of memory, each as a contract. Conditions: stated at each theorem. -/
import Derived.Test.YtnbijpijbhkcpaaMjn4
namespace Go.Proofs.Ytnbijpijbhkcpaa
set_option linter.unusedVariables false
set_option linter.unusedSimpArgs false
open Go
open V (Bytes Meets Env Sl Own Gr Fr Cells S)
/-! ### The reference's journal, with its disk -/
theorem RDsk.re {w w' : World} {k : Nat} {D D' X : Nat → Prop} {d : DiskV} (h : RDsk w k D d) (f : V.FrE X w w') (hn : ∀ j, X j → j ≠ k ∧ ¬ (D j ∧ j < w.heap.size)) (hD : ∀ j, D j → j < w.heap.size → D' j) (hk : ¬ D' k) (hnw : ∀ j, w'.heap.size ≤ j → D' j) : RDsk w' k D' d :=
  let ⟨h1, h2, a0, c0, a1, c1, a2, c2, a3, c3, h3, h4, h5, h6, h7⟩ := h.ex
  have m : ∀ j, D j ∧ j < w.heap.size → D' j := fun j hj => hD j hj.1 hj.2
  ⟨⟨hk, hnw, a0, c0, a1, c1, a2, c2, a3, c3, h3.mvE f (fun hX => (hn k hX).1 rfl), (h4.flb.mvE f (fun j hj => (hn j hj).2)).mono m, (h5.flb.mvE f (fun j hj => (hn j hj).2)).mono m, (h6.flb.mvE f (fun j hj => (hn j hj).2)).mono m, (h7.flb.mvE f (fun j hj => (hn j hj).2)).mono m⟩, h.small⟩
/-- at block k the reference's disk; what it has lies in D's blocks -/
structure RDk (w : World) (k : Nat) (D : Nat → Prop) (d : DiskV) : Prop where
  nk : ¬ D k
  lt : ∀ i, D i → i < w.heap.size
  ds : RDsk w k (fun i => D i ∨ w.heap.size ≤ i) d
section
variable {w w' : World} {k km : Nat} {D D' E X : Nat → Prop} {d d' : DiskV} {j : JV}
theorem RDk.klt (h : RDk w k D d) : k < w.heap.size := h.ds.lt
theorem RDk.mvE (h : RDk w k D d) (f : V.FrE X w w') (hn : ∀ i, X i → ¬ (i = k ∨ D i)) : RDk w' k D d := by
  have hk := h.klt
  have hs := V.FrE.size f
  refine ⟨h.nk, fun i hi => Nat.lt_of_lt_of_le (h.lt i hi) hs, h.ds.re f (fun i hi => ⟨fun e => hn i hi (.inl e), fun hd => hn i hi (.inr (hd.1.elim id (fun h2 => absurd hd.2 (Nat.not_lt_of_le h2))))⟩) (fun i hi hl => hi.elim .inl (fun h2 => absurd hl (Nat.not_lt_of_le h2))) (fun hd => hd.elim h.nk (fun h2 => by omega)) (fun i hi => .inr hi)⟩
theorem RDk.gr (h : RDk w k D d) (f : Gr w w') : RDk w' k D d := h.mvE (X := fun _ => False) (V.FrE.ofGr f) (fun _ h => h.elim)
theorem RDk.mv1 {i : Nat} (h : RDk w k D d) (f : Fr [i] w w') (hn : ¬ (i = k ∨ D i)) : RDk w' k D d := h.mvE (X := fun j => j = i) (V.FrE.of1 f rfl) (fun j hj => hj ▸ hn)
theorem RDk.bl1 {b : Nat} (h : RDk w k D d) (f : V.Bl b w w') (hn : ∀ j, (j = k ∨ D j) → j < b) : RDk w' k D d := h.mvE (V.FrE.ofBl f) (fun i hi hd => absurd (hn i hd) (Nat.not_lt_of_le hi))
theorem RDk.of (h : RDsk w' k (fun i => D i ∨ w.heap.size ≤ i) d') (g : RDk w k D d) (hs : w.heap.size ≤ w'.heap.size) : RDk w' k (fun i => D i ∨ V.In w.heap.size w'.heap.size i) d' := by
  have hk := g.klt
  refine ⟨fun h2 => h2.elim g.nk (fun h3 => by have := h3.1; omega), fun i hi => hi.elim (fun h2 => Nat.lt_of_lt_of_le (g.lt i h2) hs) (fun h2 => h2.2), h.mono (fun i hi => ?_) (fun h2 => ?_)⟩
  · rcases hi with h2 | h2
    · exact .inl (.inl h2)
    · rcases Nat.lt_or_ge i w'.heap.size with h3 | h3
      · exact .inl (.inr ⟨h2, h3⟩)
      · exact .inr h3
  · rcases h2 with (h2 | h2) | h2
    · exact g.nk h2
    · have := h2.1; omega
    · omega
theorem RDk.mono (h : RDk w k D d) (h1 : ∀ i, D i → D' i) (h2 : ∀ i, D' i → i < w.heap.size) (h3 : ¬ D' k) : RDk w k D' d := by
  have hk := h.klt
  exact ⟨h3, h2, h.ds.mono (fun i hi => hi.imp (h1 i) id) (fun hd => hd.elim h3 (fun h2 => by omega))⟩
theorem RDk.new (h : RDsk w k D' d) (hD : ∀ i, D' i → i < w.heap.size → D i) (hk : ¬ D k) (hl : ∀ i, D i → i < w.heap.size) : RDk w k D d := by
  have := h.lt
  refine ⟨hk, hl, h.re (X := fun _ => False) (V.FrE.refl _ w) (fun _ h => h.elim) (fun i hi hl2 => .inl (hD i hi hl2)) (fun hd => hd.elim hk (fun h2 => by omega)) (fun i hi => .inr hi)⟩
/-- its cells, laid open -/
theorem RDk.open (h : RDk w k D d) : ∃ a0 c0 a1 c1 a2 c2 a3 c3, Cells w k [.slice a0 d.sf.length c0, .slice a1 d.nf.length c1, .slice a2 d.sc.length c2, .slice a3 d.nc.length c3] 30 ∧ Bytes w D a0 c0 d.sf ∧ Bytes w D a1 c1 d.nf ∧ Bytes w D a2 c2 d.sc ∧ Bytes w D a3 c3 d.nc :=
  let ⟨_, _, a0, c0, a1, c1, a2, c2, a3, c3, h3, h4, h5, h6, h7⟩ := h.ds.ex
  have m : ∀ j, (D j ∨ w.heap.size ≤ j) ∧ j < w.heap.size → D j := fun j hj => hj.1.elim id (fun h2 => absurd hj.2 (Nat.not_lt_of_le h2))
  ⟨a0, c0, a1, c1, a2, c2, a3, c3, h3, h4.flb.mono m, h5.flb.mono m, h6.flb.mono m, h7.flb.mono m⟩
/-- at block k the reference's journal of the disk at block km; what they have lies in D's blocks, that nobody turns -/
structure RJst (w : World) (k km : Nat) (D : Nat → Prop) (j : JV) (d : DiskV) : Prop where
  ok : JOk j
  nk : ¬ D k ∧ k ≠ km
  dk : RDk w km D d
  ex : ∃ (a : Option Addr) (c : Nat) (ad : Option Addr) (cd : Nat), Cells w k [.pointer (some ⟨km, 0, none⟩), .int .i64 j.base, .slice ad j.data.length cd, .slice a j.l.length c, .int .i64 j.t, .int .i64 j.v, .int .i64 j.b] 82 ∧ Sl V.Cod.byte.sl w D a c j.l ∧ Bytes w D ad cd j.data
theorem RJst.mvE (h : RJst w k km D j d) (f : V.FrE X w w') (hn : ∀ i, X i → ¬ ((i = k ∨ i = km) ∨ D i)) : RJst w' k km D j d :=
  let ⟨a, c, ad, cd, h1, h2, h3⟩ := h.ex
  ⟨h.ok, h.nk, h.dk.mvE f (fun i hi hd => hn i hi (hd.elim (fun e => .inl (.inr e)) .inr)), a, c, ad, cd, h1.mvE f (fun hX => hn k hX (.inl (.inl rfl))), h2.mvE f (fun i hi hD => hn i hi (.inr hD)), h3.mvE f (fun i hi hD => hn i hi (.inr hD))⟩
theorem RJst.gr (h : RJst w k km D j d) (f : Gr w w') : RJst w' k km D j d := h.mvE (X := fun _ => False) (V.FrE.ofGr f) (fun _ h => h.elim)
theorem RJst.mv1 {i : Nat} (h : RJst w k km D j d) (f : Fr [i] w w') (hn : ¬ ((i = k ∨ i = km) ∨ D i)) : RJst w' k km D j d := h.mvE (X := fun j => j = i) (V.FrE.of1 f rfl) (fun j hj => hj ▸ hn)
theorem RJst.bl1 {b : Nat} (h : RJst w k km D j d) (f : V.Bl b w w') (hn : ∀ j, ((j = k ∨ j = km) ∨ D j) → j < b) : RJst w' k km D j d := h.mvE (V.FrE.ofBl f) (fun i hi hd => absurd (hn i hd) (Nat.not_lt_of_le hi))
theorem RJst.klt (h : RJst w k km D j d) : k < w.heap.size := let ⟨_, _, _, _, h1, _⟩ := h.ex; h1.lt
theorem RJst.lt (h : RJst w k km D j d) : ∀ i, D i → i < w.heap.size := h.dk.lt
theorem RJst.mk2 {a : Option Addr} {c : Nat} {ad : Option Addr} {cd : Nat} (h3 : Cells w k [.pointer (some ⟨km, 0, none⟩), .int .i64 j.base, .slice ad j.data.length cd, .slice a j.l.length c, .int .i64 j.t, .int .i64 j.v, .int .i64 j.b] 82) (h4 : Sl V.Cod.byte.sl w D a c j.l) (h5 : Bytes w D ad cd j.data) (ok : JOk j) (hd : RDk w km D d) (h1 : ¬ D k ∧ k ≠ km) : RJst w k km D j d := ⟨ok, h1, hd, a, c, ad, cd, h3, h4, h5⟩
end
theorem rfN_rest (d : RfV) (m : Int) : (rfN d m).bs.drop (rfN d m).i = (rdN (d.bs.drop d.i) m).2 := by rw [rdN_snd, List.drop_drop]; rfl
theorem rfT_rest (d : RfV) (m : Int) : (rfT d m).bs.drop (rfT d m).i = (rdT (d.bs.drop d.i) m).2 := by rw [rdT_snd, List.drop_drop]; rfl
theorem whole_iff {d : RfV} (h : d.i ≤ d.bs.length) : (!d.bad && decide ((d.i : Int) = (d.bs.length : Int))) = true ↔ d.bad = false ∧ d.bs.drop d.i = [] := by
  rw [List.drop_eq_nil_iff, Bool.and_eq_true, Bool.not_eq_true', decide_eq_true_eq]
  constructor <;> rintro ⟨h1, h2⟩ <;> exact ⟨h1, by omega⟩
theorem kind_err {x : List UInt8} {k : Int} (h : (rdN x 3).1.1 = k) (hk : k ≠ 0) : (rdN x 3).1.2 = 0 := by
  rcases (rdN_range x 3 (by decide)).2 with h1 | h1
  · exact h1
  · exact absurd (h1.2.symm.trans h).symm hk
section
open V
theorem V.sub_runC {P : Program} {n : Nat} {e : Env} {o : Oper} {t t' : Nat} {x y : Operand} {a b : Int} (ho : o.op = .binOp .sub t x y t') (hx : evn n e x = some (.int .i64 a)) (hy : evn n e y = some (.int .i64 b)) (h0 : -9223372036854775808 ≤ a - b) (h1 : a - b ≤ 9223372036854775807) (w : World) :
    (execOp (act n e).eval o).run P w = .ok (.value (.int .i64 (a - b))) w := by
  simp only [execOp, ho, evn_eval hx, evn_eval hy]
  refine run_pure_value (bin1_run ?_)
  simp [bin1, bin2, wrap_in h0 h1]
theorem V.pure_move {o : Oper} {x : Operand} (ho : o.op = .move x) : V.PureOp o := fun a => .inl ⟨a.eval x, by simp [execOp, ho]⟩
theorem V.Row.mv1b {α : Type} {C : V.Cod α} {t i lo hi c : Nat} {w w' : World} {B : Nat → Prop} {a : Option Addr} {xs : List α} (h : V.Row C t w B lo hi a c xs) (f : Fr [i] w w') (hn : ¬ B i ∧ ¬ V.In lo hi i) : V.Row C t w' B lo hi a c xs :=
  h.mvE (X := fun j => j = i) (V.FrE.of1 f rfl) (fun j hj => hj ▸ hn)
end
theorem RJst.mono {w : World} {k km : Nat} {D D' : Nat → Prop} {j : JV} {d : DiskV} (h : RJst w k km D j d) (h1 : ∀ i, D i → D' i) (h2 : ∀ i, D' i → i < w.heap.size) (h3 : ¬ D' k ∧ ¬ D' km) : RJst w k km D' j d :=
  let ⟨a, c, ad, cd, h4, h5, h6⟩ := h.ex; ⟨h.ok, ⟨h3.1, h.nk.2⟩, h.dk.mono h1 h2 h3.2, a, c, ad, cd, h4, h5.mono h1, h6.mono h1⟩
def rdoE (d : DiskV) (x : List UInt8) : Int := if eAppend d (frmB x).1 = 0 then 0 else 71
def rdoJ (j : JV) (d : DiskV) (x : List UInt8) : JV := if eAppend d (frmB x).1 = 0 then (takeV j x).getD j else j
/-- a change that there is: appended and done by both alike -/
theorem rdo_eq {j : JV} {d : DiskV} {x : List UInt8} (h : (frmB x).2 = 0) (ht : (takeV j x).isSome = true) : rdoE d x = doesE j d x ∧ rdoJ j d x = doesJ j d x ∧ dAppend d (frmB x).1 = doesD d x := by
  unfold rdoE doesE rdoJ doesJ doesD
  rw [if_pos h]
  by_cases ha : eAppend d (frmB x).1 = 0
  · rw [if_pos ha, if_pos ⟨h, ha, ht⟩, if_pos ha, if_pos ⟨h, ha⟩]; exact ⟨rfl, rfl, rfl⟩
  · rw [if_neg ha, if_neg (fun hh => ha hh.2.1), if_neg ha, if_neg (fun hh => ha hh.2)]; exact ⟨rfl, rfl, rfl⟩
theorem hardV_nil {c : List UInt8} (h : c = []) : hardV c = some (0, 0, 0) := by unfold hardV; rw [if_pos h]

theorem rk_append {w : World} {km : Nat} {D : Nat → Prop} {dv : DiskV} (FM : RDk w km D dv) {D_b : Nat → Prop} {c_b : Nat} {a_b : Option Addr} {b : List UInt8} (F_b : Sl V.Cod.byte w D_b a_b c_b b) (hb : b.length ≤ 140737488355328) :
    Meets Try.prog 13 [.pointer (some ⟨km, 0, none⟩), .slice a_b b.length c_b] w fun r w' => r = .int .i64 (eAppend dv b) ∧ RDk w' km (fun i => D i ∨ V.In w.heap.size w'.heap.size i) (dAppend dv b) ∧ Fr [km] w w' := by
  exact (rappend_spec FM.ds F_b hb).mono (by rintro _ w2 ⟨rfl, h, g⟩; exact ⟨rfl, RDk.of h FM g.size, g⟩)

theorem rk_set {w : World} {km : Nat} {D : Nat → Prop} {dv : DiskV} (FM : RDk w km D dv) {D_b : Nat → Prop} {c_b : Nat} {a_b : Option Addr} {b : List UInt8} (F_b : Sl V.Cod.byte w D_b a_b c_b b) (hb : b.length ≤ 140737488355328) :
    Meets Try.prog 14 [.pointer (some ⟨km, 0, none⟩), .slice a_b b.length c_b] w fun r w' => r = .int .i64 (eSet b) ∧ RDk w' km (fun i => D i ∨ V.In w.heap.size w'.heap.size i) (dSet dv b) ∧ Fr [km] w w' := by
  exact (rset_spec FM.ds F_b hb).mono (by rintro _ w2 ⟨rfl, h, g⟩; exact ⟨rfl, RDk.of h FM g.size, g⟩)

theorem rk_cut {w : World} {km : Nat} {D : Nat → Prop} {dv : DiskV} (FM : RDk w km D dv) {n : Int}  :
    Meets Try.prog 51 [.pointer (some ⟨km, 0, none⟩), .int .i64 n] w fun r w' => r = .int .i64 (eCut dv n) ∧ RDk w' km (fun i => D i ∨ V.In w.heap.size w'.heap.size i) (dCut dv n) ∧ Fr [km] w w' := by
  exact (rcut_spec FM.ds).mono (by rintro _ w2 ⟨rfl, h, g⟩; exact ⟨rfl, RDk.of h FM g.size, g⟩)

theorem rk_sync {w : World} {km : Nat} {D : Nat → Prop} {dv : DiskV} (FM : RDk w km D dv)   :
    Meets Try.prog 27 [.pointer (some ⟨km, 0, none⟩)] w fun r w' => r = .tuple #[] ∧ RDk w' km (fun i => D i ∨ V.In w.heap.size w'.heap.size i) (dSync dv) ∧ Fr [km] w w' := by
  exact (rsync_spec FM.ds).mono (by rintro _ w2 ⟨rfl, h, g⟩; exact ⟨rfl, RDk.of h FM g.size, g⟩)

set_option maxHeartbeats 900000 in
set_option maxRecDepth 10000 in
theorem rf_whole {w : World} {k : Nat} {D : Nat → Prop} {d : RfV} (FX : Rf w k D d)   :
    Meets Try.prog 48 [.pointer (some ⟨k, 0, none⟩)] w fun r w' => r = .bool (!d.bad && decide ((d.i : Int) = (d.bs.length : Int))) ∧ Gr w w' := by
 have hkl := FX.lt
 have hnk := FX.nk
 replace FX := FX.flb
 have HG := V.Fr.refl [] w
 refine V.enter (n := 20) Try.func48 rfl rfl (by decide) rfl ?_
 refine V.seq ?_
 refine V.region ?_
 refine V.run T_ok 1 rfl ?_
 refine V.nil ?_
 refine V.tN ?_
 refine V.seq ?_
 obtain ⟨a1, c2, F4, F3⟩ := FX.ex
 refine V.drawQ mixed (by kernel_rfl) ?_
 refine V.qrun T_ok 3 rfl ?_
 refine V.qloadO T_ok F4 rfl rfl rfl rfl rfl ?_
 refine V.qrun T_ok 2 rfl ?_
 refine V.qsplit (j := 5) (t := 8) rfl rfl (fun g1_5 => ?_) (fun g1_5 => ?_)
 ·
  try replace g1_5 := V.dec g1_5
  try simp only [V.mk0, V.mk1, V.mk2, V.mk3] at g1_5
  refine V.qrun T_ok 3 rfl ?_
  refine V.qyes rfl rfl rfl ?_
  refine V.qloadO T_ok F4 rfl rfl rfl rfl rfl ?_
  refine V.qrun T_ok 3 rfl ?_
  refine V.qyes rfl rfl rfl ?_
  refine V.qloadO T_ok F4 rfl rfl rfl rfl rfl ?_
  refine V.qrun T_ok 4 rfl ?_
  refine V.qnil ?_
  rintro w5 G6
  have z7 := V.Fr.size G6
  try replace FX := FX.gr G6
  try replace F3 := F3.gr G6
  try replace F4 := F4.gr G6
  replace HG := HG.grow G6
  clear G6
  refine V.tN ?_
  refine V.ret ?_
  refine V.done rfl ?_
  exact ⟨(congrArg Value.bool (by first | rfl | grind)), HG⟩
 ·
  try replace g1_5 := V.dec g1_5
  try simp only [V.mk0, V.mk1, V.mk2, V.mk3] at g1_5
  refine V.qrun T_ok 12 rfl ?_
  refine V.qnil ?_
  rintro w8 G9
  have z10 := V.Fr.size G9
  try replace FX := FX.gr G9
  try replace F3 := F3.gr G9
  try replace F4 := F4.gr G9
  replace HG := HG.grow G9
  clear G9
  refine V.tN ?_
  refine V.ret ?_
  refine V.done rfl ?_
  exact ⟨(congrArg Value.bool (by first | rfl | grind)), HG⟩

set_option maxHeartbeats 900000 in
set_option maxRecDepth 10000 in
theorem change_spec {w : World} {k km : Nat} {D : Nat → Prop} {jv : JV} {dv : DiskV} (FJ : RJst w k km D jv dv) {D_b : Nat → Prop} {c_b : Nat} {a_b : Option Addr} {b : List UInt8} (F_b : Sl V.Cod.byte w D_b a_b c_b b) (hD_b : ∀ k, D_b k → k < w.heap.size) (hs : jv.l.length + 1 ≤ 1000000) :
    Meets Try.prog 50 [.pointer (some ⟨k, 0, none⟩), .slice a_b b.length c_b] w fun r w' => r = .bool ((takeV jv b).isSome) ∧ RJst w' k km (fun i => D i ∨ V.In w.heap.size w'.heap.size i) ((takeV jv b).getD jv) (dv) ∧ Fr [k] w w' := by
 have FJ0 := FJ
 obtain ⟨aL, cL, aD, cD, Fk, FL, Fd⟩ := FJ.ex
 have hD := FJ.lt
 obtain ⟨hb0, hb1, hll, hdl, hel⟩ := FJ.ok
 obtain ⟨hDk, hkm⟩ := FJ.nk
 have hDm := FJ.dk.nk
 have FM := FJ.dk
 have hkl := Fk.lt
 have hml := FM.klt
 have hl63 := FL.len63
 obtain ⟨hs0, hs1, hs2, hs3⟩ := FM.ds.small
 have hkm2 : km ≠ k := fun h => hkm h.symm
 have HG := V.Fr.refl [k] w
 refine V.enter (n := 120) Try.func50 rfl rfl (by decide) rfl ?_
 refine V.seq ?_
 refine V.region ?_
 refine V.run T_ok 1 rfl ?_
 refine V.nil ?_
 refine V.tN ?_
 refine V.seq ?_
 refine V.region ?_
 refine V.run T_ok 1 rfl ?_
 refine V.call (rp_open F_b (fun k hk => by have := hD_b k hk; omega)) rfl rfl rfl ?_
 rintro _ w4 ⟨k1, rfl, ⟨h2l, h2u⟩, F3, G5⟩
 have z6 := V.Fr.size G5
 try replace Fk := Fk.gr G5
 try replace FL := FL.gr G5
 try replace Fd := Fd.gr G5
 try replace FM := FM.gr G5
 try replace F_b := F_b.gr G5
 replace HG := HG.grow G5
 clear G5
 refine V.run T_ok 1 rfl ?_
 refine V.nil ?_
 refine V.tN ?_
 refine V.seq ?_
 refine V.region ?_
 refine V.run T_ok 1 rfl ?_
 refine V.call (rf_n (most := 3) F3) rfl rfl rfl ?_
 rintro _ w8 ⟨rfl, F7, G9⟩
 have z10 := V.Fr.size G9
 try replace Fk := Fk.ma G9
 first | replace FL := FL.mv1 G9 (by (try dsimp only [V.In]); first | omega | grind) | clear FL | skip
 first | replace Fd := Fd.mv1 G9 (by (try dsimp only [V.In]); first | omega | grind) | clear Fd | skip
 first | replace FM := FM.mv1 G9 (by (try dsimp only [V.In]); first | omega | grind) | clear FM | skip
 try replace F_b := F_b.mb G9 hD_b
 first | replace F3 := F3.mv1 G9 (by first | exact ⟨by omega, by assumption⟩ | exact ⟨by omega, fun h => absurd h.1 (by assumption)⟩ | exact ⟨by omega, fun h => absurd h.1.1 (by assumption)⟩ | exact ⟨by omega, fun h => by first | (have h2 := h.1; have h3 := h.2; omega) | (have h2 := h; dsimp only at h2; omega)⟩ | first | omega | exact fun h => h | exact ⟨by omega, fun h => h⟩ | (intro h; first | (have := hD _ h; omega) | (have := hD_b _ h; omega)) | (refine ⟨by omega, ?_⟩; intro h; first | (have := hD _ h; omega) | (have := hD_b _ h; omega))) | clear F3 | skip
 replace HG := HG.n1 G9
 clear G9
 refine V.run T_ok 1 rfl ?_
 refine V.nil ?_
 refine V.tN ?_
 refine V.seq ?_
 refine V.seq ?_
 have hr_d1 : (rfN (⟨b, 0, false⟩ : RfV) (3 : Int)).bs.drop (rfN (⟨b, 0, false⟩ : RfV) (3 : Int)).i = (rdN b 3).2 := by exact rfN_rest _ _
 have hb_d1 : (rfN (⟨b, 0, false⟩ : RfV) (3 : Int)).bad = (false || decide ((rdN b 3).1.2 ≠ 0)) := by unfold rfN; rfl
 have hl_d1 := F7.le
 generalize rfN (⟨b, 0, false⟩ : RfV) (3 : Int) = d1 at F7 hr_d1 hb_d1 hl_d1
 generalize hv_kn : (rdN (b.drop 0) (3 : Int)).1.1 = kn at ⊢
 replace hv_kn : (rdN b 3).1.1 = kn := hv_kn
 refine V.region ?_
 refine V.run T_ok 1 rfl ?_
 refine V.nil ?_
 refine V.tN ?_
 refine V.block ?_
 refine V.seq ?_
 refine V.region ?_
 refine V.run T_ok 2 rfl ?_
 refine V.nil ?_
 refine V.tN ?_
 refine V.condT rfl (fun h5 => ?_) (fun h5 => ?_)
 ·
  try replace h5 := V.dec h5
  try simp only [V.mk0, V.mk1, V.mk2, V.mk3] at h5
  refine V.seq ?_
  refine V.region ?_
  refine V.run T_ok 1 rfl ?_
  refine V.call (rf_t (most := 65536) F7) rfl rfl rfl ?_
  rintro _ w12 ⟨rfl, F11, G13⟩
  have z14 := V.Fr.size G13
  try replace Fk := Fk.ma G13
  first | replace FL := FL.mv1 G13 (by (try dsimp only [V.In]); first | omega | grind) | clear FL | skip
  first | replace Fd := Fd.mv1 G13 (by (try dsimp only [V.In]); first | omega | grind) | clear Fd | skip
  first | replace FM := FM.mv1 G13 (by (try dsimp only [V.In]); first | omega | grind) | clear FM | skip
  try replace F_b := F_b.mb G13 hD_b
  first | replace F7 := F7.mv1 G13 (by first | exact ⟨by omega, by assumption⟩ | exact ⟨by omega, fun h => absurd h.1 (by assumption)⟩ | exact ⟨by omega, fun h => absurd h.1.1 (by assumption)⟩ | exact ⟨by omega, fun h => by first | (have h2 := h.1; have h3 := h.2; omega) | (have h2 := h; dsimp only at h2; omega)⟩ | first | omega | exact fun h => h | exact ⟨by omega, fun h => h⟩ | (intro h; first | (have := hD _ h; omega) | (have := hD_b _ h; omega)) | (refine ⟨by omega, ?_⟩; intro h; first | (have := hD _ h; omega) | (have := hD_b _ h; omega))) | clear F7 | skip
  replace HG := HG.n1 G13
  clear G13
  refine V.run T_ok 1 rfl ?_
  refine V.nil ?_
  refine V.tN ?_
  refine V.seq ?_
  refine V.seq ?_
  have hr_d2 : (rfT d1 (65536 : Int)).bs.drop (rfT d1 (65536 : Int)).i = (rdT (rdN b 3).2 65536).2 := by rw [rfT_rest, hr_d1]
  have hb_d2 : (rfT d1 (65536 : Int)).bad = (d1.bad || decide ((rdT (rdN b 3).2 65536).1.2 ≠ 0)) := by unfold rfT; rw [hr_d1]
  have hl_d2 := F11.le
  generalize rfT d1 (65536 : Int) = d2 at F11 hr_d2 hb_d2 hl_d2
  generalize hv_x1 : (rdT (d1.bs.drop d1.i) (65536 : Int)).1.1 = x1 at ⊢
  rw [hr_d1] at hv_x1
  have hxm := rdT_max (rdN b 3).2 65536 (by decide)
  rw [hv_x1] at hxm
  have hw := whole_iff hl_d2
  have he := kind_err (hv_kn.trans h5) (by decide)
  refine V.region ?_
  refine V.run T_ok 1 rfl ?_
  refine V.call (rf_whole F11) rfl rfl rfl ?_
  rintro _ w15 ⟨rfl, G16⟩
  have z17 := V.Fr.size G16
  try replace Fk := Fk.gr G16
  try replace FL := FL.gr G16
  try replace Fd := Fd.gr G16
  try replace FM := FM.gr G16
  try replace F_b := F_b.gr G16
  try replace F11 := F11.gr G16
  replace HG := HG.grow G16
  clear G16
  refine V.run T_ok 1 rfl ?_
  refine V.nil ?_
  refine V.tN ?_
  refine V.condT rfl (fun h7 => ?_) (fun h7 => ?_)
  ·
   try replace h7 := V.dec h7
   try simp only [V.mk0, V.mk1, V.mk2, V.mk3] at h7
   refine V.seq ?_
   refine V.region ?_
   refine V.run T_ok 1 rfl ?_
   refine V.nil ?_
   refine V.tN ?_
   refine V.ret ?_
   refine V.tR ?_
   refine V.bR ?_
   refine V.tR ?_
   have hno : takeV jv b = none := by
     rw [takeV_1 he (hv_kn.trans (by assumption))]; unfold recV; rw [if_neg]; rintro hh; grind
   rw [hno]
   have hok9 := FJ0.ok
   have FJ9 := RJst.mk2 (j := ⟨jv.base, jv.data, jv.l, jv.t, jv.v, jv.b⟩) Fk (FL.mono (D' := (fun i => D i ∨ V.In w.heap.size w15.heap.size i)) (by intro i h; first | exact .inl h | ((try dsimp only [V.In] at h ⊢); first | omega | grind))) (Fd.mono (D' := (fun i => D i ∨ V.In w.heap.size w15.heap.size i)) (by intro i h; first | exact .inl h | ((try dsimp only [V.In] at h ⊢); first | omega | grind))) hok9 (FM.mono (D' := (fun i => D i ∨ V.In w.heap.size w15.heap.size i)) (by intro i h; ((try dsimp only [V.In] at h ⊢); first | omega | grind)) (by intro i h; ((try dsimp only [V.In] at h ⊢); first | omega | grind)) (by (try dsimp only [V.In]); first | omega | grind)) ⟨by (try dsimp only [V.In]); first | omega | grind, hkm⟩
   refine V.done rfl ?_
   exact ⟨(by first | rfl | simp only [List.length_set]), FJ9, HG⟩
  ·
   try replace h7 := V.dec h7
   try simp only [V.mk0, V.mk1, V.mk2, V.mk3] at h7
   refine V.skip ?_
   refine V.tN ?_
   refine V.region ?_
   refine V.run T_ok 1 rfl ?_
   refine V.mkSlice T_ok zero22 rfl rfl sz22 rfl rfl rfl rfl rfl rfl ?_
   rintro k18 w21 s23 s24 G22 Fk19
   have z25 := V.Fr.size G22
   try replace Fk := Fk.gr G22
   try replace FL := FL.gr G22
   try replace Fd := Fd.gr G22
   try replace FM := FM.gr G22
   try replace F_b := F_b.gr G22
   try replace F11 := F11.gr G22
   replace HG := HG.grow G22
   clear G22
   have F20 := (V.rowOfC (C := V.Cod.byte.sl) (xs := ([] : List (List UInt8))) Fk19 rfl rfl).mono (B' := D) (fun _ h => h.elim) (Nat.le_refl _) (Nat.le_refl _)
   clear Fk19
   refine V.run T_ok 3 rfl ?_
   refine V.loadO T_ok Fk rfl rfl rfl rfl rfl ?_
   refine V.appendR (F20) (FL.from Try.underlying54) elT54_54 rfl rfl rfl rfl rfl (by first | omega | (simp only [List.length_take, List.length_drop, List.length_append, List.length_cons, List.length_nil, List.length_replicate, List.length_set, V.length_data, V.S_size]; omega)) (by unfold maxLen; first | omega | (simp only [List.length_take, List.length_drop, List.length_append, List.length_cons, List.length_nil, List.length_replicate, List.length_set, V.length_data, V.S_size]; omega)) (by omega) (by omega) (by first | omega | (intro k h; first | omega | (have := hD k h; omega) | (have := hD_b k h; omega))) (by first | omega | (intro k h; (try dsimp only at h); first | exact .inl h | exact .inr ⟨by have := h.1; omega, by have := h.2; omega⟩ | (rcases h with h | h <;> first | exact .inr ⟨by omega, by omega⟩ | exact .inr ⟨by have := h.1; omega, by have := h.2; omega⟩ | exact .inl h))) ?_
   rintro a26 c27 w29 G30 s31 F28
   clear F20
   have z32 := Go.RowKit.Below.size G30
   first | replace Fk := V.Cells.bl Fk G30 (by first | assumption | omega) | clear Fk | skip
   first | replace FL := V.Sl.bl FL G30 (by intro j h; (try dsimp only [V.In] at h ⊢); first | omega | grind) | clear FL | skip
   first | replace Fd := V.Sl.bl Fd G30 (by intro j h; (try dsimp only [V.In] at h ⊢); first | omega | grind) | clear Fd | skip
   first | replace FM := FM.bl1 G30 (by intro j h; (try dsimp only [V.In] at h ⊢); first | omega | grind) | clear FM | skip
   first | replace F_b := V.Sl.bl F_b G30 (by first | exact (fun _ h => by have := h.2; omega) | (intro k h; have := hD_b k h; omega)) | clear F_b | skip
   first | replace F11 := F11.bl G30 (by first | exact ⟨by omega, fun j h => by have := h.2; omega⟩ | (first | omega | exact fun h => h | exact ⟨by omega, fun h => h⟩ | (intro h; first | (have := hD _ h; omega) | (have := hD_b _ h; omega)) | (refine ⟨by omega, ?_⟩; intro h; first | (have := hD _ h; omega) | (have := hD_b _ h; omega)))) | clear F11 | skip
   replace HG := HG.bl (Go.RowKit.Below.mono G30 (by first | assumption | omega))
   clear G30
   rw [List.nil_append] at F28 ⊢
   refine V.run T_ok 1 rfl ?_
   refine V.ofStr Try.underlying9 Try.underlying22 Try.underlying5 rfl rfl rfl rfl (by (unfold maxLen; rw [V.S_size]; omega)) ?_
   rintro a33 c34 w36 G37 s38 F35
   have z39 := V.Fr.size G37
   try replace Fk := Fk.gr G37
   try replace FL := FL.gr G37
   try replace Fd := Fd.gr G37
   try replace FM := FM.gr G37
   try replace F_b := F_b.gr G37
   try replace F11 := F11.gr G37
   try replace F28 := F28.gr G37
   replace HG := HG.grow G37
   clear G37
   refine V.mkSlice T_ok zero22 rfl rfl sz22 rfl rfl rfl rfl rfl rfl ?_
   rintro k40 w43 s45 s46 G44 Fk41
   have z47 := V.Fr.size G44
   try replace Fk := Fk.gr G44
   try replace FL := FL.gr G44
   try replace Fd := Fd.gr G44
   try replace FM := FM.gr G44
   try replace F_b := F_b.gr G44
   try replace F11 := F11.gr G44
   try replace F28 := F28.gr G44
   try replace F35 := F35.gr G44
   replace HG := HG.grow G44
   clear G44
   have F42 : Sl V.Cod.byte.sl w43 (fun k => k = k40 ∨ (V.In w29.heap.size w36.heap.size) k) (some ⟨k40, 0, none⟩) ([(S x1).data.toList] : List (List UInt8)).length ([(S x1).data.toList] : List (List UInt8)) := V.Cells.sl Fk41 (V.reps_cons (x := ((S x1).data.toList)) ⟨_, _, rfl, F35.mono (fun k h => .inr (h))⟩ rfl rfl) (.inl rfl) (by simp [maxLen])
   have hDu48 : ∀ k, (fun k => k = k40 ∨ (V.In w29.heap.size w36.heap.size) k) k → k < w43.heap.size := by intro k h; (try dsimp only at h); rcases h with h | h <;> first | omega | (have := h.2; omega) | (have := h.1; omega) | (have := hD k h; omega) | (have := hD_b k h; omega)
   refine V.appendR (F28) (F42.from Try.underlying54) elT54_54 rfl rfl rfl rfl rfl (by first | omega | (simp only [List.length_take, List.length_drop, List.length_append, List.length_cons, List.length_nil, List.length_replicate, List.length_set, V.length_data, V.S_size]; omega)) (by unfold maxLen; first | omega | (simp only [List.length_take, List.length_drop, List.length_append, List.length_cons, List.length_nil, List.length_replicate, List.length_set, V.length_data, V.S_size]; omega)) (by omega) (by omega) (by first | omega | (intro k h; first | omega | (have := hD k h; omega) | (have := hD_b k h; omega))) (by first | omega | (intro k h; (try dsimp only at h); first | exact .inl h | exact .inr ⟨by have := h.1; omega, by have := h.2; omega⟩ | (rcases h with h | h <;> first | exact .inr ⟨by omega, by omega⟩ | exact .inr ⟨by have := h.1; omega, by have := h.2; omega⟩ | exact .inl h))) ?_
   rintro a49 c50 w52 G53 s54 F51
   clear F28
   clear F42
   have z55 := Go.RowKit.Below.size G53
   first | replace Fk := V.Cells.bl Fk G53 (by first | assumption | omega) | clear Fk | skip
   first | replace FL := V.Sl.bl FL G53 (by intro j h; (try dsimp only [V.In] at h ⊢); first | omega | grind) | clear FL | skip
   first | replace Fd := V.Sl.bl Fd G53 (by intro j h; (try dsimp only [V.In] at h ⊢); first | omega | grind) | clear Fd | skip
   first | replace FM := FM.bl1 G53 (by intro j h; (try dsimp only [V.In] at h ⊢); first | omega | grind) | clear FM | skip
   first | replace F_b := V.Sl.bl F_b G53 (by first | exact (fun _ h => by have := h.2; omega) | (intro k h; have := hD_b k h; omega)) | clear F_b | skip
   first | replace F11 := F11.bl G53 (by first | exact ⟨by omega, fun j h => by have := h.2; omega⟩ | (first | omega | exact fun h => h | exact ⟨by omega, fun h => h⟩ | (intro h; first | (have := hD _ h; omega) | (have := hD_b _ h; omega)) | (refine ⟨by omega, ?_⟩; intro h; first | (have := hD _ h; omega) | (have := hD_b _ h; omega)))) | clear F11 | skip
   first | replace F35 := V.Sl.bl F35 G53 (by first | exact (fun _ h => by have := h.2; omega) | (intro k h; have := hD k h; omega)) | clear F35 | skip
   first | replace Fk41 := V.Cells.bl Fk41 G53 (by first | assumption | omega) | clear Fk41 | skip
   replace HG := HG.bl (Go.RowKit.Below.mono G53 (by first | assumption | omega))
   clear G53
   refine V.run T_ok 2 rfl ?_
   refine V.storeO Fk rfl rfl rfl rfl sz54 rfl rfl rfl rfl ?_
   rintro w56 G57 z59 Fs58
   clear Fk
   have z60 := V.Fr.size G57
   first | replace FL := FL.mv1 G57 (by (try dsimp only [V.In]); first | omega | grind) | clear FL | skip
   first | replace Fd := Fd.mv1 G57 (by (try dsimp only [V.In]); first | omega | grind) | clear Fd | skip
   first | replace FM := FM.mv1 G57 (by (try dsimp only [V.In]); first | omega | grind) | clear FM | skip
   try replace F_b := F_b.mb G57 hD_b
   first | replace F11 := F11.mv1 G57 (by first | exact ⟨by omega, by assumption⟩ | exact ⟨by omega, fun h => absurd h.1 (by assumption)⟩ | exact ⟨by omega, fun h => absurd h.1.1 (by assumption)⟩ | exact ⟨by omega, fun h => by first | (have h2 := h.1; have h3 := h.2; omega) | (have h2 := h; dsimp only at h2; omega)⟩ | first | omega | exact fun h => h | exact ⟨by omega, fun h => h⟩ | (intro h; first | (have := hD _ h; omega) | (have := hD_b _ h; omega)) | (refine ⟨by omega, ?_⟩; intro h; first | (have := hD _ h; omega) | (have := hD_b _ h; omega))) | clear F11 | skip
   try replace F35 := F35.ma G57
   try replace Fk41 := Fk41.ma G57
   first | replace F51 := F51.ma G57 | replace F51 := V.Row.mv1b F51 G57 (by (try dsimp only [V.In]); constructor <;> first | omega | grind) | clear F51 | skip
   replace HG := HG.n1 G57
   clear G57
   have Fk := Fs58; clear Fs58
   simp only [V.spliceL, V.cellsL] at Fk
   refine V.nil ?_
   refine V.bN ?_
   refine V.tN ?_
   refine V.seq ?_
   refine V.region ?_
   refine V.run T_ok 1 rfl ?_
   refine V.nil ?_
   refine V.tN ?_
   refine V.ret ?_
   have hyes : takeV jv b = some (⟨jv.base, jv.data, (jv.l ++ ([(S x1).data.toList] : List (List UInt8))), jv.t, jv.v, jv.b⟩ : JV) := by
     rw [takeV_1 he (hv_kn.trans (by assumption))]; unfold recV; rw [if_pos (by grind), hv_x1]; try rfl
   have hok9 := (takeV_ok FJ0.ok hs hyes).1
   rw [hyes]
   have FJ9 := RJst.mk2 (j := ⟨jv.base, jv.data, (jv.l ++ ([(S x1).data.toList] : List (List UInt8))), jv.t, jv.v, jv.b⟩) Fk (F51.slB.mono (D' := (fun i => D i ∨ V.In w.heap.size w56.heap.size i)) (by intro i h; first | exact .inl h | ((try dsimp only [V.In] at h ⊢); first | omega | grind))) (Fd.mono (D' := (fun i => D i ∨ V.In w.heap.size w56.heap.size i)) (by intro i h; first | exact .inl h | ((try dsimp only [V.In] at h ⊢); first | omega | grind))) hok9 (FM.mono (D' := (fun i => D i ∨ V.In w.heap.size w56.heap.size i)) (by intro i h; ((try dsimp only [V.In] at h ⊢); first | omega | grind)) (by intro i h; ((try dsimp only [V.In] at h ⊢); first | omega | grind)) (by (try dsimp only [V.In]); first | omega | grind)) ⟨by (try dsimp only [V.In]); first | omega | grind, hkm⟩
   refine V.done rfl ?_
   exact ⟨(by first | rfl | simp only [List.length_set]), FJ9, HG⟩
 ·
  try replace h5 := V.dec h5
  try simp only [V.mk0, V.mk1, V.mk2, V.mk3] at h5
  refine V.seq ?_
  refine V.region ?_
  refine V.run T_ok 2 rfl ?_
  refine V.nil ?_
  refine V.tN ?_
  refine V.condT rfl (fun h10 => ?_) (fun h10 => ?_)
  ·
   try replace h10 := V.dec h10
   try simp only [V.mk0, V.mk1, V.mk2, V.mk3] at h10
   refine V.seq ?_
   refine V.region ?_
   refine V.run T_ok 1 rfl ?_
   refine V.call (rf_n (most := 1099511627776) F7) rfl rfl rfl ?_
   rintro _ w62 ⟨rfl, F61, G63⟩
   have z64 := V.Fr.size G63
   try replace Fk := Fk.ma G63
   first | replace FL := FL.mv1 G63 (by (try dsimp only [V.In]); first | omega | grind) | clear FL | skip
   first | replace Fd := Fd.mv1 G63 (by (try dsimp only [V.In]); first | omega | grind) | clear Fd | skip
   first | replace FM := FM.mv1 G63 (by (try dsimp only [V.In]); first | omega | grind) | clear FM | skip
   try replace F_b := F_b.mb G63 hD_b
   first | replace F7 := F7.mv1 G63 (by first | exact ⟨by omega, by assumption⟩ | exact ⟨by omega, fun h => absurd h.1 (by assumption)⟩ | exact ⟨by omega, fun h => absurd h.1.1 (by assumption)⟩ | exact ⟨by omega, fun h => by first | (have h2 := h.1; have h3 := h.2; omega) | (have h2 := h; dsimp only at h2; omega)⟩ | first | omega | exact fun h => h | exact ⟨by omega, fun h => h⟩ | (intro h; first | (have := hD _ h; omega) | (have := hD_b _ h; omega)) | (refine ⟨by omega, ?_⟩; intro h; first | (have := hD _ h; omega) | (have := hD_b _ h; omega))) | clear F7 | skip
   replace HG := HG.n1 G63
   clear G63
   refine V.run T_ok 1 rfl ?_
   refine V.nil ?_
   refine V.tN ?_
   refine V.seq ?_
   refine V.seq ?_
   have hr_d2 : (rfN d1 (1099511627776 : Int)).bs.drop (rfN d1 (1099511627776 : Int)).i = (rdN (rdN b 3).2 1099511627776).2 := by rw [rfN_rest, hr_d1]
   have hb_d2 : (rfN d1 (1099511627776 : Int)).bad = (d1.bad || decide ((rdN (rdN b 3).2 1099511627776).1.2 ≠ 0)) := by unfold rfN; rw [hr_d1]
   have hl_d2 := F61.le
   generalize rfN d1 (1099511627776 : Int) = d2 at F61 hr_d2 hb_d2 hl_d2
   generalize hv_n1 : (rdN (d1.bs.drop d1.i) (1099511627776 : Int)).1.1 = n1 at ⊢
   rw [hr_d1] at hv_n1
   have hxr := (rdN_range (rdN b 3).2 1099511627776 (by decide)).1
   rw [hv_n1] at hxr
   have hw := whole_iff hl_d2
   have he := kind_err (hv_kn.trans h10) (by decide)
   refine V.region ?_
   refine V.run T_ok 1 rfl ?_
   refine V.call (rf_whole F61) rfl rfl rfl ?_
   rintro _ w65 ⟨rfl, G66⟩
   have z67 := V.Fr.size G66
   try replace Fk := Fk.gr G66
   try replace FL := FL.gr G66
   try replace Fd := Fd.gr G66
   try replace FM := FM.gr G66
   try replace F_b := F_b.gr G66
   try replace F61 := F61.gr G66
   replace HG := HG.grow G66
   clear G66
   refine V.run T_ok 2 rfl ?_
   refine V.split (j := 3) (t := 43) rfl rfl (fun g12_3 => ?_) (fun g12_3 => ?_)
   ·
    try replace g12_3 := V.dec g12_3
    try simp only [V.mk0, V.mk1, V.mk2, V.mk3] at g12_3
    refine V.run T_ok 8 rfl ?_
    refine V.nil ?_
    refine V.tN ?_
    refine V.condY rfl rfl ?_
    refine V.seq ?_
    refine V.region ?_
    refine V.run T_ok 1 rfl ?_
    refine V.nil ?_
    refine V.tN ?_
    refine V.ret ?_
    refine V.tR ?_
    refine V.bR ?_
    refine V.tR ?_
    have hno : takeV jv b = none := by
      rw [takeV_2 he (hv_kn.trans (by assumption))]; unfold cutV; rw [if_neg]; rintro hh; grind
    rw [hno]
    have hok9 := FJ0.ok
    have FJ9 := RJst.mk2 (j := ⟨jv.base, jv.data, jv.l, jv.t, jv.v, jv.b⟩) Fk (FL.mono (D' := (fun i => D i ∨ V.In w.heap.size w65.heap.size i)) (by intro i h; first | exact .inl h | ((try dsimp only [V.In] at h ⊢); first | omega | grind))) (Fd.mono (D' := (fun i => D i ∨ V.In w.heap.size w65.heap.size i)) (by intro i h; first | exact .inl h | ((try dsimp only [V.In] at h ⊢); first | omega | grind))) hok9 (FM.mono (D' := (fun i => D i ∨ V.In w.heap.size w65.heap.size i)) (by intro i h; ((try dsimp only [V.In] at h ⊢); first | omega | grind)) (by intro i h; ((try dsimp only [V.In] at h ⊢); first | omega | grind)) (by (try dsimp only [V.In]); first | omega | grind)) ⟨by (try dsimp only [V.In]); first | omega | grind, hkm⟩
    refine V.done rfl ?_
    exact ⟨(by first | rfl | simp only [List.length_set]), FJ9, HG⟩
   ·
    try replace g12_3 := V.dec g12_3
    try simp only [V.mk0, V.mk1, V.mk2, V.mk3] at g12_3
    refine V.run T_ok 4 rfl ?_
    refine V.yes rfl rfl rfl ?_
    refine V.loadO T_ok Fk rfl rfl rfl rfl rfl ?_
    refine V.run T_ok 3 rfl ?_
    refine V.nil ?_
    refine V.tN ?_
    refine V.condT rfl (fun h12 => ?_) (fun h12 => ?_)
    ·
     try replace h12 := V.dec h12
     try simp only [V.mk0, V.mk1, V.mk2, V.mk3] at h12
     refine V.seq ?_
     refine V.region ?_
     refine V.run T_ok 1 rfl ?_
     refine V.nil ?_
     refine V.tN ?_
     refine V.ret ?_
     refine V.tR ?_
     refine V.bR ?_
     refine V.tR ?_
     have hno : takeV jv b = none := by
       rw [takeV_2 he (hv_kn.trans (by assumption))]; unfold cutV; rw [if_neg]; rintro hh; grind
     rw [hno]
     have hok9 := FJ0.ok
     have FJ9 := RJst.mk2 (j := ⟨jv.base, jv.data, jv.l, jv.t, jv.v, jv.b⟩) Fk (FL.mono (D' := (fun i => D i ∨ V.In w.heap.size w65.heap.size i)) (by intro i h; first | exact .inl h | ((try dsimp only [V.In] at h ⊢); first | omega | grind))) (Fd.mono (D' := (fun i => D i ∨ V.In w.heap.size w65.heap.size i)) (by intro i h; first | exact .inl h | ((try dsimp only [V.In] at h ⊢); first | omega | grind))) hok9 (FM.mono (D' := (fun i => D i ∨ V.In w.heap.size w65.heap.size i)) (by intro i h; ((try dsimp only [V.In] at h ⊢); first | omega | grind)) (by intro i h; ((try dsimp only [V.In] at h ⊢); first | omega | grind)) (by (try dsimp only [V.In]); first | omega | grind)) ⟨by (try dsimp only [V.In]); first | omega | grind, hkm⟩
     refine V.done rfl ?_
     exact ⟨(by first | rfl | simp only [List.length_set]), FJ9, HG⟩
    ·
     try replace h12 := V.dec h12
     try simp only [V.mk0, V.mk1, V.mk2, V.mk3] at h12
     refine V.skip ?_
     refine V.tN ?_
     refine V.region ?_
     refine V.run T_ok 1 rfl ?_
     refine V.mkSlice T_ok zero22 rfl rfl sz22 rfl rfl rfl rfl rfl rfl ?_
     rintro k68 w71 s73 s74 G72 Fk69
     have z75 := V.Fr.size G72
     try replace Fk := Fk.gr G72
     try replace FL := FL.gr G72
     try replace Fd := Fd.gr G72
     try replace FM := FM.gr G72
     try replace F_b := F_b.gr G72
     try replace F61 := F61.gr G72
     replace HG := HG.grow G72
     clear G72
     have F70 := (V.rowOfC (C := V.Cod.byte.sl) (xs := ([] : List (List UInt8))) Fk69 rfl rfl).mono (B' := D) (fun _ h => h.elim) (Nat.le_refl _) (Nat.le_refl _)
     clear Fk69
     refine V.run T_ok 3 rfl ?_
     refine V.loadO T_ok Fk rfl rfl rfl rfl rfl ?_
     refine V.run T_ok 1 rfl ?_
     refine V.cutL T_ok FL rfl rfl sz22 rfl rfl rfl rfl (by first | omega | (simp only [List.length_take, List.length_drop, List.length_append, List.length_cons, List.length_nil, List.length_replicate, List.length_set, V.length_data, V.S_size]; omega)) (by first | omega | (simp only [List.length_take, List.length_drop, List.length_append, List.length_cons, List.length_nil, List.length_replicate, List.length_set, V.length_data, V.S_size]; omega)) (fun a76 F78 => ?_)
     refine V.appendR (F70) (F78.from Try.underlying54) elT54_54 rfl rfl rfl rfl rfl (by first | omega | (simp only [List.length_take, List.length_drop, List.length_append, List.length_cons, List.length_nil, List.length_replicate, List.length_set, V.length_data, V.S_size]; omega)) (by unfold maxLen; first | omega | (simp only [List.length_take, List.length_drop, List.length_append, List.length_cons, List.length_nil, List.length_replicate, List.length_set, V.length_data, V.S_size]; omega)) (by omega) (by omega) (by first | omega | (intro k h; first | omega | (have := hD k h; omega) | (have := hD_b k h; omega))) (by first | omega | (intro k h; (try dsimp only at h); first | exact .inl h | exact .inr ⟨by have := h.1; omega, by have := h.2; omega⟩ | (rcases h with h | h <;> first | exact .inr ⟨by omega, by omega⟩ | exact .inr ⟨by have := h.1; omega, by have := h.2; omega⟩ | exact .inl h))) ?_
     rintro a79 c80 w82 G83 s84 F81
     clear F70
     have z85 := Go.RowKit.Below.size G83
     first | replace Fk := V.Cells.bl Fk G83 (by first | assumption | omega) | clear Fk | skip
     first | replace FL := V.Sl.bl FL G83 (by intro j h; (try dsimp only [V.In] at h ⊢); first | omega | grind) | clear FL | skip
     first | replace Fd := V.Sl.bl Fd G83 (by intro j h; (try dsimp only [V.In] at h ⊢); first | omega | grind) | clear Fd | skip
     first | replace FM := FM.bl1 G83 (by intro j h; (try dsimp only [V.In] at h ⊢); first | omega | grind) | clear FM | skip
     first | replace F_b := V.Sl.bl F_b G83 (by first | exact (fun _ h => by have := h.2; omega) | (intro k h; have := hD_b k h; omega)) | clear F_b | skip
     first | replace F61 := F61.bl G83 (by first | exact ⟨by omega, fun j h => by have := h.2; omega⟩ | (first | omega | exact fun h => h | exact ⟨by omega, fun h => h⟩ | (intro h; first | (have := hD _ h; omega) | (have := hD_b _ h; omega)) | (refine ⟨by omega, ?_⟩; intro h; first | (have := hD _ h; omega) | (have := hD_b _ h; omega)))) | clear F61 | skip
     first | replace F78 := V.Sl.bl F78 G83 (by first | exact (fun _ h => by have := h.2; omega) | (intro k h; have := hD k h; omega)) | clear F78 | skip
     replace HG := HG.bl (Go.RowKit.Below.mono G83 (by first | assumption | omega))
     clear G83
     rw [List.nil_append] at F81 ⊢
     refine V.run T_ok 2 rfl ?_
     refine V.storeO Fk rfl rfl rfl rfl sz54 rfl rfl rfl rfl ?_
     rintro w86 G87 z89 Fs88
     clear Fk
     have z90 := V.Fr.size G87
     first | replace FL := FL.mv1 G87 (by (try dsimp only [V.In]); first | omega | grind) | clear FL | skip
     first | replace Fd := Fd.mv1 G87 (by (try dsimp only [V.In]); first | omega | grind) | clear Fd | skip
     first | replace FM := FM.mv1 G87 (by (try dsimp only [V.In]); first | omega | grind) | clear FM | skip
     try replace F_b := F_b.mb G87 hD_b
     first | replace F61 := F61.mv1 G87 (by first | exact ⟨by omega, by assumption⟩ | exact ⟨by omega, fun h => absurd h.1 (by assumption)⟩ | exact ⟨by omega, fun h => absurd h.1.1 (by assumption)⟩ | exact ⟨by omega, fun h => by first | (have h2 := h.1; have h3 := h.2; omega) | (have h2 := h; dsimp only at h2; omega)⟩ | first | omega | exact fun h => h | exact ⟨by omega, fun h => h⟩ | (intro h; first | (have := hD _ h; omega) | (have := hD_b _ h; omega)) | (refine ⟨by omega, ?_⟩; intro h; first | (have := hD _ h; omega) | (have := hD_b _ h; omega))) | clear F61 | skip
     try replace F78 := F78.mb G87 hD
     first | replace F81 := F81.ma G87 | replace F81 := V.Row.mv1b F81 G87 (by (try dsimp only [V.In]); constructor <;> first | omega | grind) | clear F81 | skip
     replace HG := HG.n1 G87
     clear G87
     have Fk := Fs88; clear Fs88
     simp only [V.spliceL, V.cellsL] at Fk
     refine V.nil ?_
     refine V.bN ?_
     refine V.tN ?_
     refine V.seq ?_
     refine V.region ?_
     refine V.run T_ok 1 rfl ?_
     refine V.nil ?_
     refine V.tN ?_
     refine V.ret ?_
     have hyes : takeV jv b = some (⟨jv.base, jv.data, (jv.l.take (n1).toNat), jv.t, jv.v, jv.b⟩ : JV) := by
       rw [takeV_2 he (hv_kn.trans (by assumption))]; unfold cutV; rw [if_pos (by grind), hv_n1]; try rfl
     have hok9 := (takeV_ok FJ0.ok hs hyes).1
     rw [hyes]
     have FJ9 := RJst.mk2 (j := ⟨jv.base, jv.data, (jv.l.take (n1).toNat), jv.t, jv.v, jv.b⟩) Fk (F81.slB.mono (D' := (fun i => D i ∨ V.In w.heap.size w86.heap.size i)) (by intro i h; first | exact .inl h | ((try dsimp only [V.In] at h ⊢); first | omega | grind))) (Fd.mono (D' := (fun i => D i ∨ V.In w.heap.size w86.heap.size i)) (by intro i h; first | exact .inl h | ((try dsimp only [V.In] at h ⊢); first | omega | grind))) hok9 (FM.mono (D' := (fun i => D i ∨ V.In w.heap.size w86.heap.size i)) (by intro i h; ((try dsimp only [V.In] at h ⊢); first | omega | grind)) (by intro i h; ((try dsimp only [V.In] at h ⊢); first | omega | grind)) (by (try dsimp only [V.In]); first | omega | grind)) ⟨by (try dsimp only [V.In]); first | omega | grind, hkm⟩
     refine V.done rfl ?_
     exact ⟨(by first | rfl | simp only [List.length_set]), FJ9, HG⟩
  ·
   try replace h10 := V.dec h10
   try simp only [V.mk0, V.mk1, V.mk2, V.mk3] at h10
   refine V.seq ?_
   refine V.region ?_
   refine V.run T_ok 2 rfl ?_
   refine V.nil ?_
   refine V.tN ?_
   refine V.condT rfl (fun h15 => ?_) (fun h15 => ?_)
   ·
    try replace h15 := V.dec h15
    try simp only [V.mk0, V.mk1, V.mk2, V.mk3] at h15
    refine V.seq ?_
    refine V.region ?_
    refine V.run T_ok 1 rfl ?_
    refine V.call (rf_n (most := 1099511627776) F7) rfl rfl rfl ?_
    rintro _ w92 ⟨rfl, F91, G93⟩
    have z94 := V.Fr.size G93
    try replace Fk := Fk.ma G93
    first | replace FL := FL.mv1 G93 (by (try dsimp only [V.In]); first | omega | grind) | clear FL | skip
    first | replace Fd := Fd.mv1 G93 (by (try dsimp only [V.In]); first | omega | grind) | clear Fd | skip
    first | replace FM := FM.mv1 G93 (by (try dsimp only [V.In]); first | omega | grind) | clear FM | skip
    try replace F_b := F_b.mb G93 hD_b
    first | replace F7 := F7.mv1 G93 (by first | exact ⟨by omega, by assumption⟩ | exact ⟨by omega, fun h => absurd h.1 (by assumption)⟩ | exact ⟨by omega, fun h => absurd h.1.1 (by assumption)⟩ | exact ⟨by omega, fun h => by first | (have h2 := h.1; have h3 := h.2; omega) | (have h2 := h; dsimp only at h2; omega)⟩ | first | omega | exact fun h => h | exact ⟨by omega, fun h => h⟩ | (intro h; first | (have := hD _ h; omega) | (have := hD_b _ h; omega)) | (refine ⟨by omega, ?_⟩; intro h; first | (have := hD _ h; omega) | (have := hD_b _ h; omega))) | clear F7 | skip
    replace HG := HG.n1 G93
    clear G93
    refine V.run T_ok 1 rfl ?_
    refine V.nil ?_
    refine V.tN ?_
    refine V.seq ?_
    have hr_d2 : (rfN d1 (1099511627776 : Int)).bs.drop (rfN d1 (1099511627776 : Int)).i = (rdN (rdN b 3).2 1099511627776).2 := by rw [rfN_rest, hr_d1]
    have hb_d2 : (rfN d1 (1099511627776 : Int)).bad = (d1.bad || decide ((rdN (rdN b 3).2 1099511627776).1.2 ≠ 0)) := by unfold rfN; rw [hr_d1]
    have hl_d2 := F91.le
    generalize rfN d1 (1099511627776 : Int) = d2 at F91 hr_d2 hb_d2 hl_d2
    generalize hv_n1 : (rdN (d1.bs.drop d1.i) (1099511627776 : Int)).1.1 = n1 at ⊢
    rw [hr_d1] at hv_n1
    have hxr := (rdN_range (rdN b 3).2 1099511627776 (by decide)).1
    rw [hv_n1] at hxr
    have he := kind_err (hv_kn.trans h15) (by decide)
    refine V.region ?_
    refine V.run T_ok 1 rfl ?_
    refine V.call (rf_t (most := 65536) F91) rfl rfl rfl ?_
    rintro _ w96 ⟨rfl, F95, G97⟩
    have z98 := V.Fr.size G97
    try replace Fk := Fk.ma G97
    first | replace FL := FL.mv1 G97 (by (try dsimp only [V.In]); first | omega | grind) | clear FL | skip
    first | replace Fd := Fd.mv1 G97 (by (try dsimp only [V.In]); first | omega | grind) | clear Fd | skip
    first | replace FM := FM.mv1 G97 (by (try dsimp only [V.In]); first | omega | grind) | clear FM | skip
    try replace F_b := F_b.mb G97 hD_b
    first | replace F91 := F91.mv1 G97 (by first | exact ⟨by omega, by assumption⟩ | exact ⟨by omega, fun h => absurd h.1 (by assumption)⟩ | exact ⟨by omega, fun h => absurd h.1.1 (by assumption)⟩ | exact ⟨by omega, fun h => by first | (have h2 := h.1; have h3 := h.2; omega) | (have h2 := h; dsimp only at h2; omega)⟩ | first | omega | exact fun h => h | exact ⟨by omega, fun h => h⟩ | (intro h; first | (have := hD _ h; omega) | (have := hD_b _ h; omega)) | (refine ⟨by omega, ?_⟩; intro h; first | (have := hD _ h; omega) | (have := hD_b _ h; omega))) | clear F91 | skip
    replace HG := HG.n1 G97
    clear G97
    refine V.run T_ok 1 rfl ?_
    refine V.nil ?_
    refine V.tN ?_
    refine V.seq ?_
    refine V.seq ?_
    have hr_d3 : (rfT d2 (65536 : Int)).bs.drop (rfT d2 (65536 : Int)).i = (rdT (rdN (rdN b 3).2 1099511627776).2 65536).2 := by rw [rfT_rest, hr_d2]
    have hb_d3 : (rfT d2 (65536 : Int)).bad = (d2.bad || decide ((rdT (rdN (rdN b 3).2 1099511627776).2 65536).1.2 ≠ 0)) := by unfold rfT; rw [hr_d2]
    have hl_d3 := F95.le
    generalize rfT d2 (65536 : Int) = d3 at F95 hr_d3 hb_d3 hl_d3
    generalize hv_x1 : (rdT (d2.bs.drop d2.i) (65536 : Int)).1.1 = x1 at ⊢
    rw [hr_d2] at hv_x1
    have hxm := rdT_max (rdN (rdN b 3).2 1099511627776).2 65536 (by decide)
    rw [hv_x1] at hxm
    have hw := whole_iff hl_d3
    refine V.region ?_
    refine V.run T_ok 1 rfl ?_
    refine V.call (rf_whole F95) rfl rfl rfl ?_
    rintro _ w99 ⟨rfl, G100⟩
    have z101 := V.Fr.size G100
    try replace Fk := Fk.gr G100
    try replace FL := FL.gr G100
    try replace Fd := Fd.gr G100
    try replace FM := FM.gr G100
    try replace F_b := F_b.gr G100
    try replace F95 := F95.gr G100
    replace HG := HG.grow G100
    clear G100
    refine V.run T_ok 1 rfl ?_
    refine V.nil ?_
    refine V.tN ?_
    refine V.condT rfl (fun h18 => ?_) (fun h18 => ?_)
    ·
     try replace h18 := V.dec h18
     try simp only [V.mk0, V.mk1, V.mk2, V.mk3] at h18
     refine V.seq ?_
     refine V.region ?_
     refine V.run T_ok 1 rfl ?_
     refine V.nil ?_
     refine V.tN ?_
     refine V.ret ?_
     refine V.tR ?_
     refine V.bR ?_
     refine V.tR ?_
     have hno : takeV jv b = none := by
       rw [takeV_3 he (hv_kn.trans (by assumption))]; unfold basV; rw [if_neg]; rintro hh; grind
     rw [hno]
     have hok9 := FJ0.ok
     have FJ9 := RJst.mk2 (j := ⟨jv.base, jv.data, jv.l, jv.t, jv.v, jv.b⟩) Fk (FL.mono (D' := (fun i => D i ∨ V.In w.heap.size w99.heap.size i)) (by intro i h; first | exact .inl h | ((try dsimp only [V.In] at h ⊢); first | omega | grind))) (Fd.mono (D' := (fun i => D i ∨ V.In w.heap.size w99.heap.size i)) (by intro i h; first | exact .inl h | ((try dsimp only [V.In] at h ⊢); first | omega | grind))) hok9 (FM.mono (D' := (fun i => D i ∨ V.In w.heap.size w99.heap.size i)) (by intro i h; ((try dsimp only [V.In] at h ⊢); first | omega | grind)) (by intro i h; ((try dsimp only [V.In] at h ⊢); first | omega | grind)) (by (try dsimp only [V.In]); first | omega | grind)) ⟨by (try dsimp only [V.In]); first | omega | grind, hkm⟩
     refine V.done rfl ?_
     exact ⟨(by first | rfl | simp only [List.length_set]), FJ9, HG⟩
    ·
     try replace h18 := V.dec h18
     try simp only [V.mk0, V.mk1, V.mk2, V.mk3] at h18
     refine V.skip ?_
     refine V.tN ?_
     refine V.seq ?_
     refine V.seq ?_
     refine V.drawQ mixed (by kernel_rfl) ?_
     refine V.qrun T_ok 4 rfl ?_
     refine V.qloadO T_ok Fk rfl rfl rfl rfl rfl ?_
     refine V.qrun T_ok 2 rfl ?_
     refine V.qsplit (j := 6) (t := 78) rfl rfl (fun g20_6 => ?_) (fun g20_6 => ?_)
     ·
      try replace g20_6 := V.dec g20_6
      try simp only [V.mk0, V.mk1, V.mk2, V.mk3] at g20_6
      refine V.qrun T_ok 13 rfl ?_
      refine V.qnil ?_
      rintro w102 G103
      have z104 := V.Fr.size G103
      try replace Fk := Fk.gr G103
      try replace FL := FL.gr G103
      try replace Fd := Fd.gr G103
      try replace FM := FM.gr G103
      try replace F_b := F_b.gr G103
      try replace F95 := F95.gr G103
      replace HG := HG.grow G103
      clear G103
      refine V.tN ?_
      refine V.condY rfl rfl ?_
      refine V.region ?_
      refine V.run T_ok 3 rfl ?_
      refine V.storeO Fk rfl rfl rfl rfl sz54 rfl rfl rfl rfl ?_
      rintro w105 G106 z108 Fs107
      clear Fk
      have z109 := V.Fr.size G106
      first | replace FL := FL.mv1 G106 (by (try dsimp only [V.In]); first | omega | grind) | clear FL | skip
      first | replace Fd := Fd.mv1 G106 (by (try dsimp only [V.In]); first | omega | grind) | clear Fd | skip
      first | replace FM := FM.mv1 G106 (by (try dsimp only [V.In]); first | omega | grind) | clear FM | skip
      try replace F_b := F_b.mb G106 hD_b
      first | replace F95 := F95.mv1 G106 (by first | exact ⟨by omega, by assumption⟩ | exact ⟨by omega, fun h => absurd h.1 (by assumption)⟩ | exact ⟨by omega, fun h => absurd h.1.1 (by assumption)⟩ | exact ⟨by omega, fun h => by first | (have h2 := h.1; have h3 := h.2; omega) | (have h2 := h; dsimp only at h2; omega)⟩ | first | omega | exact fun h => h | exact ⟨by omega, fun h => h⟩ | (intro h; first | (have := hD _ h; omega) | (have := hD_b _ h; omega)) | (refine ⟨by omega, ?_⟩; intro h; first | (have := hD _ h; omega) | (have := hD_b _ h; omega))) | clear F95 | skip
      replace HG := HG.n1 G106
      clear G106
      have Fk := Fs107; clear Fs107
      simp only [V.spliceL, V.cellsL] at Fk
      refine V.nil ?_
      refine V.tN ?_
      refine V.seq ?_
      refine V.region ?_
      refine V.run T_ok 4 rfl ?_
      refine V.storeO Fk rfl rfl rfl rfl sz3 rfl rfl rfl rfl ?_
      rintro w110 G111 z113 Fs112
      clear Fk
      have z114 := V.Fr.size G111
      first | replace FL := FL.mv1 G111 (by (try dsimp only [V.In]); first | omega | grind) | clear FL | skip
      first | replace Fd := Fd.mv1 G111 (by (try dsimp only [V.In]); first | omega | grind) | clear Fd | skip
      first | replace FM := FM.mv1 G111 (by (try dsimp only [V.In]); first | omega | grind) | clear FM | skip
      try replace F_b := F_b.mb G111 hD_b
      first | replace F95 := F95.mv1 G111 (by first | exact ⟨by omega, by assumption⟩ | exact ⟨by omega, fun h => absurd h.1 (by assumption)⟩ | exact ⟨by omega, fun h => absurd h.1.1 (by assumption)⟩ | exact ⟨by omega, fun h => by first | (have h2 := h.1; have h3 := h.2; omega) | (have h2 := h; dsimp only at h2; omega)⟩ | first | omega | exact fun h => h | exact ⟨by omega, fun h => h⟩ | (intro h; first | (have := hD _ h; omega) | (have := hD_b _ h; omega)) | (refine ⟨by omega, ?_⟩; intro h; first | (have := hD _ h; omega) | (have := hD_b _ h; omega))) | clear F95 | skip
      replace HG := HG.n1 G111
      clear G111
      have Fk := Fs112; clear Fs112
      simp only [V.spliceL, V.cellsL] at Fk
      refine V.nil ?_
      refine V.tN ?_
      refine V.region ?_
      refine V.run T_ok 2 rfl ?_
      refine V.ofStr Try.underlying9 Try.underlying22 Try.underlying5 rfl rfl rfl rfl (by (unfold maxLen; rw [V.S_size]; omega)) ?_
      rintro a115 c116 w118 G119 s120 F117
      have z121 := V.Fr.size G119
      try replace FL := FL.gr G119
      try replace Fd := Fd.gr G119
      try replace FM := FM.gr G119
      try replace F_b := F_b.gr G119
      try replace F95 := F95.gr G119
      try replace Fk := Fk.gr G119
      replace HG := HG.grow G119
      clear G119
      refine V.run T_ok 2 rfl ?_
      refine V.storeO Fk rfl rfl rfl rfl sz22 rfl rfl rfl rfl ?_
      rintro w122 G123 z125 Fs124
      clear Fk
      have z126 := V.Fr.size G123
      first | replace FL := FL.mv1 G123 (by (try dsimp only [V.In]); first | omega | grind) | clear FL | skip
      first | replace Fd := Fd.mv1 G123 (by (try dsimp only [V.In]); first | omega | grind) | clear Fd | skip
      first | replace FM := FM.mv1 G123 (by (try dsimp only [V.In]); first | omega | grind) | clear FM | skip
      try replace F_b := F_b.mb G123 hD_b
      first | replace F95 := F95.mv1 G123 (by first | exact ⟨by omega, by assumption⟩ | exact ⟨by omega, fun h => absurd h.1 (by assumption)⟩ | exact ⟨by omega, fun h => absurd h.1.1 (by assumption)⟩ | exact ⟨by omega, fun h => by first | (have h2 := h.1; have h3 := h.2; omega) | (have h2 := h; dsimp only at h2; omega)⟩ | first | omega | exact fun h => h | exact ⟨by omega, fun h => h⟩ | (intro h; first | (have := hD _ h; omega) | (have := hD_b _ h; omega)) | (refine ⟨by omega, ?_⟩; intro h; first | (have := hD _ h; omega) | (have := hD_b _ h; omega))) | clear F95 | skip
      try replace F117 := F117.ma G123
      replace HG := HG.n1 G123
      clear G123
      have Fk := Fs124; clear Fs124
      simp only [V.spliceL, V.cellsL] at Fk
      refine V.nil ?_
      refine V.bN ?_
      refine V.tN ?_
      refine V.seq ?_
      refine V.region ?_
      refine V.run T_ok 1 rfl ?_
      refine V.nil ?_
      refine V.tN ?_
      refine V.ret ?_
      have hbl : basL jv n1 = [] := by unfold basL; rw [if_pos (by omega)]
      have hyes : takeV jv b = some (⟨n1, ((S x1).data.toList), ([]), jv.t, jv.v, jv.b⟩ : JV) := by
        rw [takeV_3 he (hv_kn.trans (by assumption))]; unfold basV; rw [if_pos (by grind), hv_n1, hv_x1, hbl]; try rfl
      have hok9 := (takeV_ok FJ0.ok hs hyes).1
      rw [hyes]
      have FJ9 := RJst.mk2 (j := ⟨n1, ((S x1).data.toList), ([]), jv.t, jv.v, jv.b⟩) Fk (Sl.nil _ _ (fun i => D i ∨ V.In w.heap.size w122.heap.size i) _ _ (Nat.zero_le _)) (F117.mono (D' := (fun i => D i ∨ V.In w.heap.size w122.heap.size i)) (by intro i h; first | exact .inl h | ((try dsimp only [V.In] at h ⊢); first | omega | grind))) hok9 (FM.mono (D' := (fun i => D i ∨ V.In w.heap.size w122.heap.size i)) (by intro i h; ((try dsimp only [V.In] at h ⊢); first | omega | grind)) (by intro i h; ((try dsimp only [V.In] at h ⊢); first | omega | grind)) (by (try dsimp only [V.In]); first | omega | grind)) ⟨by (try dsimp only [V.In]); first | omega | grind, hkm⟩
      refine V.done rfl ?_
      exact ⟨(by first | rfl | simp only [List.length_set]), FJ9, HG⟩
     ·
      try replace g20_6 := V.dec g20_6
      try simp only [V.mk0, V.mk1, V.mk2, V.mk3] at g20_6
      refine V.qrun T_ok 4 rfl ?_
      refine V.qyes rfl rfl rfl ?_
      refine V.qloadO T_ok Fk rfl rfl rfl rfl rfl ?_
      refine V.qrun T_ok 3 rfl ?_
      refine V.qyes rfl rfl rfl ?_
      refine V.qloadO T_ok Fk rfl rfl rfl rfl rfl ?_
      refine V.qrun T_ok 1 rfl ?_
      refine V.qyes rfl rfl rfl ?_
      refine V.qaddN rfl rfl rfl rfl rfl (by first | omega | (simp only [List.length_take, List.length_drop, List.length_append, List.length_cons, List.length_nil, List.length_replicate, List.length_set, V.length_data, V.S_size]; omega)) (by first | omega | (simp only [List.length_take, List.length_drop, List.length_append, List.length_cons, List.length_nil, List.length_replicate, List.length_set, V.length_data, V.S_size]; omega)) ?_
      refine V.qrun T_ok 2 rfl ?_
      refine V.qnil ?_
      rintro w127 G128
      have z129 := V.Fr.size G128
      try replace Fk := Fk.gr G128
      try replace FL := FL.gr G128
      try replace Fd := Fd.gr G128
      try replace FM := FM.gr G128
      try replace F_b := F_b.gr G128
      try replace F95 := F95.gr G128
      replace HG := HG.grow G128
      clear G128
      refine V.tN ?_
      refine V.condT rfl (fun h20 => ?_) (fun h20 => ?_)
      ·
       try replace h20 := V.dec h20
       try simp only [V.mk0, V.mk1, V.mk2, V.mk3] at h20
       refine V.region ?_
       refine V.run T_ok 3 rfl ?_
       refine V.storeO Fk rfl rfl rfl rfl sz54 rfl rfl rfl rfl ?_
       rintro w130 G131 z133 Fs132
       clear Fk
       have z134 := V.Fr.size G131
       first | replace FL := FL.mv1 G131 (by (try dsimp only [V.In]); first | omega | grind) | clear FL | skip
       first | replace Fd := Fd.mv1 G131 (by (try dsimp only [V.In]); first | omega | grind) | clear Fd | skip
       first | replace FM := FM.mv1 G131 (by (try dsimp only [V.In]); first | omega | grind) | clear FM | skip
       try replace F_b := F_b.mb G131 hD_b
       first | replace F95 := F95.mv1 G131 (by first | exact ⟨by omega, by assumption⟩ | exact ⟨by omega, fun h => absurd h.1 (by assumption)⟩ | exact ⟨by omega, fun h => absurd h.1.1 (by assumption)⟩ | exact ⟨by omega, fun h => by first | (have h2 := h.1; have h3 := h.2; omega) | (have h2 := h; dsimp only at h2; omega)⟩ | first | omega | exact fun h => h | exact ⟨by omega, fun h => h⟩ | (intro h; first | (have := hD _ h; omega) | (have := hD_b _ h; omega)) | (refine ⟨by omega, ?_⟩; intro h; first | (have := hD _ h; omega) | (have := hD_b _ h; omega))) | clear F95 | skip
       replace HG := HG.n1 G131
       clear G131
       have Fk := Fs132; clear Fs132
       simp only [V.spliceL, V.cellsL] at Fk
       refine V.nil ?_
       refine V.tN ?_
       refine V.seq ?_
       refine V.region ?_
       refine V.run T_ok 4 rfl ?_
       refine V.storeO Fk rfl rfl rfl rfl sz3 rfl rfl rfl rfl ?_
       rintro w135 G136 z138 Fs137
       clear Fk
       have z139 := V.Fr.size G136
       first | replace FL := FL.mv1 G136 (by (try dsimp only [V.In]); first | omega | grind) | clear FL | skip
       first | replace Fd := Fd.mv1 G136 (by (try dsimp only [V.In]); first | omega | grind) | clear Fd | skip
       first | replace FM := FM.mv1 G136 (by (try dsimp only [V.In]); first | omega | grind) | clear FM | skip
       try replace F_b := F_b.mb G136 hD_b
       first | replace F95 := F95.mv1 G136 (by first | exact ⟨by omega, by assumption⟩ | exact ⟨by omega, fun h => absurd h.1 (by assumption)⟩ | exact ⟨by omega, fun h => absurd h.1.1 (by assumption)⟩ | exact ⟨by omega, fun h => by first | (have h2 := h.1; have h3 := h.2; omega) | (have h2 := h; dsimp only at h2; omega)⟩ | first | omega | exact fun h => h | exact ⟨by omega, fun h => h⟩ | (intro h; first | (have := hD _ h; omega) | (have := hD_b _ h; omega)) | (refine ⟨by omega, ?_⟩; intro h; first | (have := hD _ h; omega) | (have := hD_b _ h; omega))) | clear F95 | skip
       replace HG := HG.n1 G136
       clear G136
       have Fk := Fs137; clear Fs137
       simp only [V.spliceL, V.cellsL] at Fk
       refine V.nil ?_
       refine V.tN ?_
       refine V.region ?_
       refine V.run T_ok 2 rfl ?_
       refine V.ofStr Try.underlying9 Try.underlying22 Try.underlying5 rfl rfl rfl rfl (by (unfold maxLen; rw [V.S_size]; omega)) ?_
       rintro a140 c141 w143 G144 s145 F142
       have z146 := V.Fr.size G144
       try replace FL := FL.gr G144
       try replace Fd := Fd.gr G144
       try replace FM := FM.gr G144
       try replace F_b := F_b.gr G144
       try replace F95 := F95.gr G144
       try replace Fk := Fk.gr G144
       replace HG := HG.grow G144
       clear G144
       refine V.run T_ok 2 rfl ?_
       refine V.storeO Fk rfl rfl rfl rfl sz22 rfl rfl rfl rfl ?_
       rintro w147 G148 z150 Fs149
       clear Fk
       have z151 := V.Fr.size G148
       first | replace FL := FL.mv1 G148 (by (try dsimp only [V.In]); first | omega | grind) | clear FL | skip
       first | replace Fd := Fd.mv1 G148 (by (try dsimp only [V.In]); first | omega | grind) | clear Fd | skip
       first | replace FM := FM.mv1 G148 (by (try dsimp only [V.In]); first | omega | grind) | clear FM | skip
       try replace F_b := F_b.mb G148 hD_b
       first | replace F95 := F95.mv1 G148 (by first | exact ⟨by omega, by assumption⟩ | exact ⟨by omega, fun h => absurd h.1 (by assumption)⟩ | exact ⟨by omega, fun h => absurd h.1.1 (by assumption)⟩ | exact ⟨by omega, fun h => by first | (have h2 := h.1; have h3 := h.2; omega) | (have h2 := h; dsimp only at h2; omega)⟩ | first | omega | exact fun h => h | exact ⟨by omega, fun h => h⟩ | (intro h; first | (have := hD _ h; omega) | (have := hD_b _ h; omega)) | (refine ⟨by omega, ?_⟩; intro h; first | (have := hD _ h; omega) | (have := hD_b _ h; omega))) | clear F95 | skip
       try replace F142 := F142.ma G148
       replace HG := HG.n1 G148
       clear G148
       have Fk := Fs149; clear Fs149
       simp only [V.spliceL, V.cellsL] at Fk
       refine V.nil ?_
       refine V.bN ?_
       refine V.tN ?_
       refine V.seq ?_
       refine V.region ?_
       refine V.run T_ok 1 rfl ?_
       refine V.nil ?_
       refine V.tN ?_
       refine V.ret ?_
       have hbl : basL jv n1 = [] := by unfold basL; rw [if_pos (by omega)]
       have hyes : takeV jv b = some (⟨n1, ((S x1).data.toList), ([]), jv.t, jv.v, jv.b⟩ : JV) := by
         rw [takeV_3 he (hv_kn.trans (by assumption))]; unfold basV; rw [if_pos (by grind), hv_n1, hv_x1, hbl]; try rfl
       have hok9 := (takeV_ok FJ0.ok hs hyes).1
       rw [hyes]
       have FJ9 := RJst.mk2 (j := ⟨n1, ((S x1).data.toList), ([]), jv.t, jv.v, jv.b⟩) Fk (Sl.nil _ _ (fun i => D i ∨ V.In w.heap.size w147.heap.size i) _ _ (Nat.zero_le _)) (F142.mono (D' := (fun i => D i ∨ V.In w.heap.size w147.heap.size i)) (by intro i h; first | exact .inl h | ((try dsimp only [V.In] at h ⊢); first | omega | grind))) hok9 (FM.mono (D' := (fun i => D i ∨ V.In w.heap.size w147.heap.size i)) (by intro i h; ((try dsimp only [V.In] at h ⊢); first | omega | grind)) (by intro i h; ((try dsimp only [V.In] at h ⊢); first | omega | grind)) (by (try dsimp only [V.In]); first | omega | grind)) ⟨by (try dsimp only [V.In]); first | omega | grind, hkm⟩
       refine V.done rfl ?_
       exact ⟨(by first | rfl | simp only [List.length_set]), FJ9, HG⟩
      ·
       try replace h20 := V.dec h20
       try simp only [V.mk0, V.mk1, V.mk2, V.mk3] at h20
       have hcap := FL.cap
       refine V.drawMT 16 (fun w_ => V.Bl w127.heap.size w127 w_) (fun i => Nat.beq i 1 || Nat.beq i 13) (fun _ g_ => V.Bl.gr g_ (by omega)) mixed (by kernel_rfl) (by kernel_rfl) ?_
       refine V.mrun T_ok 1 rfl rfl ?_
       refine V.mop (fun w1_ v_ w2_ => ∃ k_, v_ = .slice (some ⟨k_, 0, none⟩) 0 0 ∧ V.Gr w1_ w2_ ∧ V.Row V.Cod.byte.sl 22 w2_ D w127.heap.size w2_.heap.size (some ⟨k_, 0, none⟩) 0 []) rfl rfl rfl rfl (fun w' g_ h_ => ?_) ?_
       ·
        have z0_ := V.Fr.size h_
        refine V.mkSlice T_ok zero22 rfl rfl sz22 rfl rfl rfl rfl rfl rfl ?_
        rintro k2_ w2_ s1_ s2_ G2_ Fk_
        refine V.nil ?_
        exact ⟨rfl, V.Bl.tr g_ (V.Bl.gr G2_ (by omega)), k2_, rfl, G2_, (V.rowOfC (C := V.Cod.byte.sl) (xs := []) Fk_ rfl rfl).mono (fun _ h => h.elim) (by omega) (by omega)⟩
       rintro _ _ _ _ _ ⟨k152, rfl, -, -⟩
       refine V.mrun T_ok 3 rfl rfl ?_
       refine V.mloadO T_ok (fun w' g_ => V.Cells.bl Fk g_ (by omega)) rfl rfl rfl rfl rfl rfl ?_
       refine V.mrun T_ok 4 rfl rfl ?_
       refine V.mloadO T_ok (fun w' g_ => V.Cells.bl Fk g_ (by omega)) rfl rfl rfl rfl rfl rfl ?_
       refine V.mstep rfl rfl rfl (fun w_ _ => V.sub_runC rfl rfl rfl (by omega) (by omega) w_) ?_
       refine V.mstep rfl rfl rfl (fun w_ _ => V.cutD_runC (C := V.Cod.byte.sl) T_ok hcap rfl rfl sz22 rfl rfl (by omega) (by omega) w_) ?_
       refine V.mop (fun w1_ v_ w2_ => ∃ a_ c_, v_ = .slice a_ (jv.l.drop (n1 - jv.base).toNat).length c_ ∧ V.Bl w127.heap.size w1_ w2_ ∧ w2_.heap.size ≤ w1_.heap.size + 1 ∧ V.Row V.Cod.byte.sl 22 w2_ D w127.heap.size w2_.heap.size a_ c_ (jv.l.drop (n1 - jv.base).toNat)) rfl rfl rfl rfl (fun w' g_ h_ => ?_) ?_
       ·
        obtain ⟨w1_, c1_, g0_, k2_, hk_, G2_, FR_⟩ := h_
        cases hk_
        have z0_ := V.Fr.size g0_
        have z1_ := V.Fr.size G2_
        have hl2_ : (jv.l.drop (n1 - jv.base).toNat).length ≤ 1000000 := by rw [List.length_drop]; omega
        refine V.appendR FR_ ((V.cutD_sl ((FL.gr g0_).gr G2_) (by omega) (by omega)).from Try.underlying54) elT54_54 rfl rfl rfl rfl rfl (by simp only [List.length_nil]; omega) (by unfold maxLen; simp only [List.length_nil]; omega) (by omega) (by omega) (by intro k h; have := hD k h; omega) (fun k h => .inl h) ?_
        rintro a3_ c3_ w3_ Gb_ z3_ F3_
        rw [List.nil_append] at F3_ ⊢
        refine V.nil ?_
        exact ⟨rfl, V.Bl.tr g_ Gb_, a3_, c3_, rfl, Gb_, z3_, F3_⟩
       rintro _ _ _ _ _ ⟨a153, c154, rfl, -, -, -⟩
       refine V.mrun T_ok 2 rfl rfl ?_
       refine V.mnil ?_
       rintro w157 - ⟨w156, -, ⟨w155, -, g0_, k2_, hk_, G2_, FR_⟩, a3_, c3_, hv_, G3_, z3_, F3_⟩
       cases hk_; cases hv_
       clear FR_
       have z158 := V.Fr.size g0_
       try replace Fk := Fk.gr g0_
       try replace FL := FL.gr g0_
       try replace Fd := Fd.gr g0_
       try replace FM := FM.gr g0_
       try replace F_b := F_b.gr g0_
       try replace F95 := F95.gr g0_
       replace HG := HG.grow g0_
       clear g0_
       have z159 := V.Fr.size G2_
       try replace Fk := Fk.gr G2_
       try replace FL := FL.gr G2_
       try replace Fd := Fd.gr G2_
       try replace FM := FM.gr G2_
       try replace F_b := F_b.gr G2_
       try replace F95 := F95.gr G2_
       replace HG := HG.grow G2_
       clear G2_
       have z160 := Go.RowKit.Below.size G3_
       first | replace Fk := V.Cells.bl Fk G3_ (by first | assumption | omega) | clear Fk | skip
       first | replace FL := V.Sl.bl FL G3_ (by intro j h; (try dsimp only [V.In] at h ⊢); first | omega | grind) | clear FL | skip
       first | replace Fd := V.Sl.bl Fd G3_ (by intro j h; (try dsimp only [V.In] at h ⊢); first | omega | grind) | clear Fd | skip
       first | replace FM := FM.bl1 G3_ (by intro j h; (try dsimp only [V.In] at h ⊢); first | omega | grind) | clear FM | skip
       first | replace F_b := V.Sl.bl F_b G3_ (by first | exact (fun _ h => by have := h.2; omega) | (intro k h; have := hD_b k h; omega)) | clear F_b | skip
       first | replace F95 := F95.bl G3_ (by first | exact ⟨by omega, fun j h => by have := h.2; omega⟩ | (first | omega | exact fun h => h | exact ⟨by omega, fun h => h⟩ | (intro h; first | (have := hD _ h; omega) | (have := hD_b _ h; omega)) | (refine ⟨by omega, ?_⟩; intro h; first | (have := hD _ h; omega) | (have := hD_b _ h; omega)))) | clear F95 | skip
       replace HG := HG.bl (Go.RowKit.Below.mono G3_ (by first | assumption | omega))
       clear G3_
       refine V.storeO Fk rfl rfl rfl rfl sz54 rfl rfl rfl rfl ?_
       rintro w161 G162 z164 Fs163
       clear Fk
       have z165 := V.Fr.size G162
       first | replace FL := FL.mv1 G162 (by (try dsimp only [V.In]); first | omega | grind) | clear FL | skip
       first | replace Fd := Fd.mv1 G162 (by (try dsimp only [V.In]); first | omega | grind) | clear Fd | skip
       first | replace FM := FM.mv1 G162 (by (try dsimp only [V.In]); first | omega | grind) | clear FM | skip
       try replace F_b := F_b.mb G162 hD_b
       first | replace F95 := F95.mv1 G162 (by first | exact ⟨by omega, by assumption⟩ | exact ⟨by omega, fun h => absurd h.1 (by assumption)⟩ | exact ⟨by omega, fun h => absurd h.1.1 (by assumption)⟩ | exact ⟨by omega, fun h => by first | (have h2 := h.1; have h3 := h.2; omega) | (have h2 := h; dsimp only at h2; omega)⟩ | first | omega | exact fun h => h | exact ⟨by omega, fun h => h⟩ | (intro h; first | (have := hD _ h; omega) | (have := hD_b _ h; omega)) | (refine ⟨by omega, ?_⟩; intro h; first | (have := hD _ h; omega) | (have := hD_b _ h; omega))) | clear F95 | skip
       first | replace F3_ := F3_.ma G162 | replace F3_ := V.Row.mv1b F3_ G162 (by (try dsimp only [V.In]); constructor <;> first | omega | grind) | clear F3_ | skip
       replace HG := HG.n1 G162
       clear G162
       have Fk := Fs163; clear Fs163
       simp only [V.spliceL, V.cellsL] at Fk
       refine V.nil ?_
       refine V.tN ?_
       refine V.seq ?_
       refine V.region ?_
       refine V.run T_ok 4 rfl ?_
       refine V.storeO Fk rfl rfl rfl rfl sz3 rfl rfl rfl rfl ?_
       rintro w166 G167 z169 Fs168
       clear Fk
       have z170 := V.Fr.size G167
       first | replace FL := FL.mv1 G167 (by (try dsimp only [V.In]); first | omega | grind) | clear FL | skip
       first | replace Fd := Fd.mv1 G167 (by (try dsimp only [V.In]); first | omega | grind) | clear Fd | skip
       first | replace FM := FM.mv1 G167 (by (try dsimp only [V.In]); first | omega | grind) | clear FM | skip
       try replace F_b := F_b.mb G167 hD_b
       first | replace F95 := F95.mv1 G167 (by first | exact ⟨by omega, by assumption⟩ | exact ⟨by omega, fun h => absurd h.1 (by assumption)⟩ | exact ⟨by omega, fun h => absurd h.1.1 (by assumption)⟩ | exact ⟨by omega, fun h => by first | (have h2 := h.1; have h3 := h.2; omega) | (have h2 := h; dsimp only at h2; omega)⟩ | first | omega | exact fun h => h | exact ⟨by omega, fun h => h⟩ | (intro h; first | (have := hD _ h; omega) | (have := hD_b _ h; omega)) | (refine ⟨by omega, ?_⟩; intro h; first | (have := hD _ h; omega) | (have := hD_b _ h; omega))) | clear F95 | skip
       first | replace F3_ := F3_.ma G167 | replace F3_ := V.Row.mv1b F3_ G167 (by (try dsimp only [V.In]); constructor <;> first | omega | grind) | clear F3_ | skip
       replace HG := HG.n1 G167
       clear G167
       have Fk := Fs168; clear Fs168
       simp only [V.spliceL, V.cellsL] at Fk
       refine V.nil ?_
       refine V.tN ?_
       refine V.region ?_
       refine V.run T_ok 2 rfl ?_
       refine V.ofStr Try.underlying9 Try.underlying22 Try.underlying5 rfl rfl rfl rfl (by (unfold maxLen; rw [V.S_size]; omega)) ?_
       rintro a171 c172 w174 G175 s176 F173
       have z177 := V.Fr.size G175
       try replace FL := FL.gr G175
       try replace Fd := Fd.gr G175
       try replace FM := FM.gr G175
       try replace F_b := F_b.gr G175
       try replace F95 := F95.gr G175
       try replace F3_ := F3_.gr G175
       try replace Fk := Fk.gr G175
       replace HG := HG.grow G175
       clear G175
       refine V.run T_ok 2 rfl ?_
       refine V.storeO Fk rfl rfl rfl rfl sz22 rfl rfl rfl rfl ?_
       rintro w178 G179 z181 Fs180
       clear Fk
       have z182 := V.Fr.size G179
       first | replace FL := FL.mv1 G179 (by (try dsimp only [V.In]); first | omega | grind) | clear FL | skip
       first | replace Fd := Fd.mv1 G179 (by (try dsimp only [V.In]); first | omega | grind) | clear Fd | skip
       first | replace FM := FM.mv1 G179 (by (try dsimp only [V.In]); first | omega | grind) | clear FM | skip
       try replace F_b := F_b.mb G179 hD_b
       first | replace F95 := F95.mv1 G179 (by first | exact ⟨by omega, by assumption⟩ | exact ⟨by omega, fun h => absurd h.1 (by assumption)⟩ | exact ⟨by omega, fun h => absurd h.1.1 (by assumption)⟩ | exact ⟨by omega, fun h => by first | (have h2 := h.1; have h3 := h.2; omega) | (have h2 := h; dsimp only at h2; omega)⟩ | first | omega | exact fun h => h | exact ⟨by omega, fun h => h⟩ | (intro h; first | (have := hD _ h; omega) | (have := hD_b _ h; omega)) | (refine ⟨by omega, ?_⟩; intro h; first | (have := hD _ h; omega) | (have := hD_b _ h; omega))) | clear F95 | skip
       first | replace F3_ := F3_.ma G179 | replace F3_ := V.Row.mv1b F3_ G179 (by (try dsimp only [V.In]); constructor <;> first | omega | grind) | clear F3_ | skip
       try replace F173 := F173.ma G179
       replace HG := HG.n1 G179
       clear G179
       have Fk := Fs180; clear Fs180
       simp only [V.spliceL, V.cellsL] at Fk
       refine V.nil ?_
       refine V.bN ?_
       refine V.tN ?_
       refine V.seq ?_
       refine V.region ?_
       refine V.run T_ok 1 rfl ?_
       refine V.nil ?_
       refine V.tN ?_
       refine V.ret ?_
       have hbl : basL jv n1 = jv.l.drop (n1 - jv.base).toNat := by unfold basL; rw [if_neg (by omega)]
       have hyes : takeV jv b = some (⟨n1, ((S x1).data.toList), (jv.l.drop (n1 - jv.base).toNat), jv.t, jv.v, jv.b⟩ : JV) := by
         rw [takeV_3 he (hv_kn.trans (by assumption))]; unfold basV; rw [if_pos (by grind), hv_n1, hv_x1, hbl]; try rfl
       have hok9 := (takeV_ok FJ0.ok hs hyes).1
       rw [hyes]
       have FJ9 := RJst.mk2 (j := ⟨n1, ((S x1).data.toList), (jv.l.drop (n1 - jv.base).toNat), jv.t, jv.v, jv.b⟩) Fk (F3_.slB.mono (D' := (fun i => D i ∨ V.In w.heap.size w178.heap.size i)) (by intro i h; first | exact .inl h | ((try dsimp only [V.In] at h ⊢); first | omega | grind))) (F173.mono (D' := (fun i => D i ∨ V.In w.heap.size w178.heap.size i)) (by intro i h; first | exact .inl h | ((try dsimp only [V.In] at h ⊢); first | omega | grind))) hok9 (FM.mono (D' := (fun i => D i ∨ V.In w.heap.size w178.heap.size i)) (by intro i h; ((try dsimp only [V.In] at h ⊢); first | omega | grind)) (by intro i h; ((try dsimp only [V.In] at h ⊢); first | omega | grind)) (by (try dsimp only [V.In]); first | omega | grind)) ⟨by (try dsimp only [V.In]); first | omega | grind, hkm⟩
       refine V.done rfl ?_
       exact ⟨(by first | rfl | simp only [List.length_set]), FJ9, HG⟩
   ·
    try replace h15 := V.dec h15
    try simp only [V.mk0, V.mk1, V.mk2, V.mk3] at h15
    refine V.seq ?_
    refine V.region ?_
    refine V.run T_ok 1 rfl ?_
    refine V.nil ?_
    refine V.tN ?_
    refine V.ret ?_
    refine V.bR ?_
    refine V.tR ?_
    have hno : takeV jv b = none := by
      have hq := (rdN_range b 3 (by decide)).1
      rw [hv_kn] at hq
      exact takeV_0 (by omega)
    rw [hno]
    have hok9 := FJ0.ok
    have FJ9 := RJst.mk2 (j := ⟨jv.base, jv.data, jv.l, jv.t, jv.v, jv.b⟩) Fk (FL.mono (D' := (fun i => D i ∨ V.In w.heap.size w8.heap.size i)) (by intro i h; first | exact .inl h | ((try dsimp only [V.In] at h ⊢); first | omega | grind))) (Fd.mono (D' := (fun i => D i ∨ V.In w.heap.size w8.heap.size i)) (by intro i h; first | exact .inl h | ((try dsimp only [V.In] at h ⊢); first | omega | grind))) hok9 (FM.mono (D' := (fun i => D i ∨ V.In w.heap.size w8.heap.size i)) (by intro i h; ((try dsimp only [V.In] at h ⊢); first | omega | grind)) (by intro i h; ((try dsimp only [V.In] at h ⊢); first | omega | grind)) (by (try dsimp only [V.In]); first | omega | grind)) ⟨by (try dsimp only [V.In]); first | omega | grind, hkm⟩
    refine V.done rfl ?_
    exact ⟨(by first | rfl | simp only [List.length_set]), FJ9, HG⟩

set_option maxHeartbeats 900000 in
set_option maxRecDepth 10000 in
theorem rdoes_spec {w : World} {k km : Nat} {D : Nat → Prop} {jv : JV} {dv : DiskV} (FJ : RJst w k km D jv dv) {D_b : Nat → Prop} {c_b : Nat} {a_b : Option Addr} {b : List UInt8} (F_b : Sl V.Cod.byte w D_b a_b c_b b) (hD_b : ∀ k, D_b k → k < w.heap.size) (hs : jv.l.length + 1 ≤ 1000000) (hbl : b.length ≤ 140737488355300) (hbk : ¬ D_b km) :
    Meets Try.prog 55 [.pointer (some ⟨k, 0, none⟩), .slice a_b b.length c_b] w fun r w' => r = .int .i64 (rdoE dv b) ∧ RJst w' k km (fun i => D i ∨ V.In w.heap.size w'.heap.size i) (rdoJ jv dv b) (dAppend dv (frmB b).1) ∧ V.FrE (fun i => i = k ∨ i = km) w w' := by
 have FJ0 := FJ
 obtain ⟨aL, cL, aD, cD, Fk, FL, Fd⟩ := FJ.ex
 have hD := FJ.lt
 obtain ⟨hb0, hb1, hll, hdl, hel⟩ := FJ.ok
 obtain ⟨hDk, hkm⟩ := FJ.nk
 have hDm := FJ.dk.nk
 have FM := FJ.dk
 have hkl := Fk.lt
 have hml := FM.klt
 have hl63 := FL.len63
 obtain ⟨hs0, hs1, hs2, hs3⟩ := FM.ds.small
 have hkm2 : km ≠ k := fun h => hkm h.symm
 have HG := V.FrE.refl (fun i => i = k ∨ i = km) w
 refine V.enter (n := 22) Try.func55 rfl rfl (by decide) rfl ?_
 refine V.seq ?_
 refine V.region ?_
 refine V.run T_ok 1 rfl ?_
 refine V.nil ?_
 refine V.tN ?_
 refine V.seq ?_
 have hfl := frmB_len b
 refine V.region ?_
 refine V.run T_ok 1 rfl ?_
 refine V.call (rframe_spec F_b (by intro k h; (try dsimp only [V.In] at h ⊢); first | omega | grind)) rfl rfl rfl ?_
 rintro _ w4 ⟨a1, c2, rfl, F3, G5⟩
 have z6 := V.Fr.size G5
 try replace Fk := Fk.gr G5
 try replace FL := FL.gr G5
 try replace Fd := Fd.gr G5
 try replace FM := FM.gr G5
 try replace F_b := F_b.gr G5
 replace HG := HG.grow G5
 clear G5
 refine V.run T_ok 5 rfl ?_
 refine V.nil ?_
 refine V.tN ?_
 refine V.seq ?_
 refine V.seq ?_
 refine V.region ?_
 refine V.run T_ok 3 rfl ?_
 refine V.loadO T_ok Fk rfl rfl rfl rfl rfl ?_
 refine V.run T_ok 1 rfl ?_
 refine V.call (rk_append FM F3.sl (by first | omega | (simp only [List.length_take, List.length_drop, List.length_append, List.length_cons, List.length_nil, List.length_replicate, List.length_set, V.length_data, V.S_size]; omega))) rfl rfl rfl ?_
 rintro _ w8 ⟨rfl, F7, G9⟩
 have z10 := V.Fr.size G9
 try replace Fk := Fk.ma G9
 first | replace FL := FL.mv1 G9 (by (try dsimp only [V.In]); first | omega | grind) | clear FL | skip
 first | replace Fd := Fd.mv1 G9 (by (try dsimp only [V.In]); first | omega | grind) | clear Fd | skip
 first | replace FM := FM.mv1 G9 (by (try dsimp only [V.In]); first | omega | grind) | clear FM | skip
 first | replace F_b := F_b.mv1 G9 (by (try dsimp only [V.In]); first | omega | grind) | clear F_b | skip
 try replace F3 := F3.ma G9
 replace HG := HG.n1 G9
 clear G9
 refine V.run T_ok 1 rfl ?_
 refine V.nil ?_
 refine V.tN ?_
 refine V.condT rfl (fun h2 => ?_) (fun h2 => ?_)
 ·
  try replace h2 := V.dec h2
  try simp only [V.mk0, V.mk1, V.mk2, V.mk3] at h2
  refine V.seq ?_
  refine V.region ?_
  refine V.run T_ok 1 rfl ?_
  refine V.nil ?_
  refine V.tN ?_
  refine V.ret ?_
  refine V.tR ?_
  have hq : rdoE dv b = 71 ∧ rdoJ jv dv b = jv := by unfold rdoE rdoJ; constructor <;> rw [if_neg (by assumption)]
  rw [hq.1, hq.2]
  have hok9 := FJ0.ok
  have FJ9 := RJst.mk2 (j := ⟨jv.base, jv.data, jv.l, jv.t, jv.v, jv.b⟩) Fk (FL.mono (D' := (fun i => D i ∨ V.In w.heap.size w8.heap.size i)) (by intro i h; first | exact .inl h | ((try dsimp only [V.In] at h ⊢); first | omega | grind))) (Fd.mono (D' := (fun i => D i ∨ V.In w.heap.size w8.heap.size i)) (by intro i h; first | exact .inl h | ((try dsimp only [V.In] at h ⊢); first | omega | grind))) hok9 (F7.mono (D' := (fun i => D i ∨ V.In w.heap.size w8.heap.size i)) (by intro i h; ((try dsimp only [V.In] at h ⊢); first | omega | grind)) (by intro i h; ((try dsimp only [V.In] at h ⊢); first | omega | grind)) (by (try dsimp only [V.In]); first | omega | grind)) ⟨by (try dsimp only [V.In]); first | omega | grind, hkm⟩
  refine V.done rfl ?_
  exact ⟨(by first | rfl | simp only [List.length_set]), FJ9, HG⟩
 ·
  try replace h2 := V.dec h2
  try simp only [V.mk0, V.mk1, V.mk2, V.mk3] at h2
  refine V.skip ?_
  refine V.tN ?_
  refine V.seq ?_
  have hok9 := FJ0.ok
  have FJ5 := RJst.mk2 (j := ⟨jv.base, jv.data, jv.l, jv.t, jv.v, jv.b⟩) Fk (FL.mono (D' := (fun i => D i ∨ V.In w.heap.size w8.heap.size i)) (by intro i h; first | exact .inl h | ((try dsimp only [V.In] at h ⊢); first | omega | grind))) (Fd.mono (D' := (fun i => D i ∨ V.In w.heap.size w8.heap.size i)) (by intro i h; first | exact .inl h | ((try dsimp only [V.In] at h ⊢); first | omega | grind))) hok9 (F7.mono (D' := (fun i => D i ∨ V.In w.heap.size w8.heap.size i)) (by intro i h; ((try dsimp only [V.In] at h ⊢); first | omega | grind)) (by intro i h; ((try dsimp only [V.In] at h ⊢); first | omega | grind)) (by (try dsimp only [V.In]); first | omega | grind)) ⟨by (try dsimp only [V.In]); first | omega | grind, hkm⟩
  refine V.region ?_
  refine V.run T_ok 2 rfl ?_
  refine V.call (change_spec FJ5 F_b (by intro k h; (try dsimp only [V.In] at h ⊢); first | omega | grind) (by first | assumption | omega)) rfl rfl rfl ?_
  rintro _ w12 ⟨rfl, F11, G13⟩
  have z14 := V.Fr.size G13
  try replace Fk := Fk.ma G13
  first | replace FL := FL.mv1 G13 (by (try dsimp only [V.In]); first | omega | grind) | clear FL | skip
  first | replace Fd := Fd.mv1 G13 (by (try dsimp only [V.In]); first | omega | grind) | clear Fd | skip
  first | replace F_b := F_b.mv1 G13 (by (try dsimp only [V.In]); first | omega | grind) | clear F_b | skip
  try replace F3 := F3.ma G13
  first | replace F7 := F7.mv1 G13 (by (try dsimp only [V.In]); first | omega | grind) | clear F7 | skip
  first | replace FJ5 := FJ5.mv1 G13 (by (try dsimp only [V.In]); first | omega | grind) | clear FJ5 | skip
  replace HG := HG.n1 G13
  clear G13
  refine V.nil ?_
  refine V.tN ?_
  refine V.seq ?_
  refine V.region ?_
  refine V.run T_ok 1 rfl ?_
  refine V.nil ?_
  refine V.tN ?_
  refine V.ret ?_
  have hq : rdoE dv b = 0 ∧ rdoJ jv dv b = (takeV jv b).getD jv := by unfold rdoE rdoJ; constructor <;> rw [if_pos (by omega)]
  rw [hq.1, hq.2]
  have FJ9 := F11.mono (D' := (fun i => D i ∨ V.In w.heap.size w12.heap.size i)) (by intro i h; ((try dsimp only [V.In] at h ⊢); first | omega | grind)) (by intro i h; ((try dsimp only [V.In] at h ⊢); first | omega | grind)) ⟨by (try dsimp only [V.In]); first | omega | grind, by (try dsimp only [V.In]); first | omega | grind⟩
  refine V.done rfl ?_
  exact ⟨(by first | rfl | simp only [List.length_set]), FJ9, HG⟩

set_option maxHeartbeats 900000 in
set_option maxRecDepth 10000 in
theorem rapp_spec {w : World} {k km : Nat} {D : Nat → Prop} {jv : JV} {dv : DiskV} (FJ : RJst w k km D jv dv) {D_b : Nat → Prop} {c_b : Nat} {a_b : Option Addr} {b : List UInt8} (F_b : Sl V.Cod.byte w D_b a_b c_b b) (hD_b : ∀ k, D_b k → k < w.heap.size) (hs : jv.l.length + 1 ≤ 1000000) :
    Meets Try.prog 20 [.pointer (some ⟨k, 0, none⟩), .slice a_b b.length c_b] w fun r w' => r = .int .i64 (appE jv dv b) ∧ RJst w' k km (fun i => D i ∨ V.In w.heap.size w'.heap.size i) (appJ jv dv b) (appD dv b) ∧ V.FrE (fun i => i = k ∨ i = km) w w' := by
 have FJ0 := FJ
 obtain ⟨aL, cL, aD, cD, Fk, FL, Fd⟩ := FJ.ex
 have hD := FJ.lt
 obtain ⟨hb0, hb1, hll, hdl, hel⟩ := FJ.ok
 obtain ⟨hDk, hkm⟩ := FJ.nk
 have hDm := FJ.dk.nk
 have FM := FJ.dk
 have hkl := Fk.lt
 have hml := FM.klt
 have hl63 := FL.len63
 obtain ⟨hs0, hs1, hs2, hs3⟩ := FM.ds.small
 have hkm2 : km ≠ k := fun h => hkm h.symm
 have HG := V.FrE.refl (fun i => i = k ∨ i = km) w
 refine V.enter (n := 15) Try.func20 rfl rfl (by decide) rfl ?_
 refine V.seq ?_
 refine V.region ?_
 refine V.run T_ok 1 rfl ?_
 refine V.nil ?_
 refine V.tN ?_
 refine V.seq ?_
 refine V.seq ?_
 refine V.region ?_
 refine V.run T_ok 3 rfl ?_
 refine V.nil ?_
 refine V.tN ?_
 refine V.condT rfl (fun h1 => ?_) (fun h1 => ?_)
 ·
  try replace h1 := V.dec h1
  try simp only [V.mk0, V.mk1, V.mk2, V.mk3] at h1
  refine V.seq ?_
  refine V.region ?_
  refine V.run T_ok 1 rfl ?_
  refine V.nil ?_
  refine V.tN ?_
  refine V.ret ?_
  refine V.tR ?_
  rw [show appJ jv dv b = jv by unfold appJ; rw [if_pos (by grind)], show appD dv b = dv by unfold appD; rw [if_pos (by grind)], show appE jv dv b = 71 by unfold appE; rw [if_pos (by grind)]]
  have FJ9 := FJ.mono (D' := (fun i => D i ∨ V.In w.heap.size w.heap.size i)) (by intro i h; ((try dsimp only [V.In] at h ⊢); first | omega | grind)) (by intro i h; ((try dsimp only [V.In] at h ⊢); first | omega | grind)) ⟨by (try dsimp only [V.In]); first | omega | grind, by (try dsimp only [V.In]); first | omega | grind⟩
  refine V.done rfl ?_
  exact ⟨(by first | rfl | simp only [List.length_set]), FJ9, HG⟩
 ·
  try replace h1 := V.dec h1
  try simp only [V.mk0, V.mk1, V.mk2, V.mk3] at h1
  refine V.skip ?_
  refine V.tN ?_
  refine V.seq ?_
  have hn9 := numB_len9 (v := 1) (by decide)
  have hn92 := numB_len9 (v := 2) (by decide)
  have hn93 := numB_len9 (v := 3) (by decide)
  have htb : ∀ x : List UInt8, x.length ≤ 65516 → (textB x).length ≤ 65525 := fun x hx => by unfold textB; have := numB_len9 (v := (x.length : Int)) (by omega); rw [Int.toNat_natCast] at this; rw [List.length_append]; omega
  have htb2 := htb (V.S b).data.toList (by show b.length ≤ _; omega)
  refine V.drawE 0 5 mixed rfl (V.pure_move rfl) (by kernel_rfl) ?_
  refine V.drawGT_any 5 (V.sel [(1, (fun v wz => ∃ (ra7 : Option Addr) (rc7 : Nat), v = .slice ra7 (numB (1 : Int).toNat).length rc7 ∧ V.Row V.Cod.byte 5 wz V.None' w.heap.size wz.heap.size ra7 rc7 (numB (1 : Int).toNat))), (4, (fun v wz => ∃ (ra8 : Option Addr) (rc8 : Nat), v = .slice ra8 (textB (V.S b).data.toList).length rc8 ∧ V.Row V.Cod.byte 5 wz V.None' w.heap.size wz.heap.size ra8 rc8 (textB (V.S b).data.toList)))]) (by kernel_rfl) (V.mono_cons (by rintro v wz wz' g ⟨ra7, rc7, rfl, rF7⟩; exact ⟨ra7, rc7, rfl, (by first | exact (rF7.gr g).mono (V.In.sub (Nat.le_refl _) g.size) | exact rF7.gr g | exact (rF7.gr g).mono (fun _ h => h) (Nat.le_refl _) g.size | exact (rF7.gr g).mono (fun k h => ⟨h.1, Nat.lt_of_lt_of_le h.2 g.size⟩))⟩) (V.mono_cons (by rintro v wz wz' g ⟨ra8, rc8, rfl, rF8⟩; exact ⟨ra8, rc8, rfl, (by first | exact (rF8.gr g).mono (V.In.sub (Nat.le_refl _) g.size) | exact rF8.gr g | exact (rF8.gr g).mono (fun _ h => h) (Nat.le_refl _) g.size | exact (rF8.gr g).mono (fun k h => ⟨h.1, Nat.lt_of_lt_of_le h.2 g.size⟩))⟩) V.mono_nil)) ?_
  refine V.grun T_ok 1 rfl (V.sel_none rfl) ?_
  refine V.gcall (fun w' h => (rp_number (v := 1) (by omega)).mono (by rintro v w'' ⟨ra7, rc7, rfl, rF7, G⟩; exact ⟨⟨ra7, rc7, rfl, (by first | exact rF7.mono (V.In.mono_l h.1.size) | exact rF7 | exact rF7.mono (fun _ h => h) h.1.size (Nat.le_refl _))⟩, G⟩)) rfl rfl rfl rfl ?_
  rintro _ w4 - - ⟨a1, c2, rfl, -⟩
  refine V.grun T_ok 1 rfl (V.sel_none rfl) ?_
  refine V.gtoStr (fun w' h => F_b.gr h.1) Try.underlying22 Try.underlying5 Try.underlying9 rfl rfl rfl rfl rfl ?_
  refine V.gcall (fun w' h => (rp_text (s := (V.S b)) (by first | omega | decide | (simp only [V.S_size, List.length_cons, List.length_nil]; omega))).mono (by rintro v w'' ⟨ra8, rc8, rfl, rF8, G⟩; exact ⟨⟨ra8, rc8, rfl, (by first | exact rF8.mono (V.In.mono_l h.1.size) | exact rF8 | exact rF8.mono (fun _ h => h) h.1.size (Nat.le_refl _))⟩, G⟩)) rfl rfl rfl rfl ?_
  rintro _ w8 - - ⟨a5, c6, rfl, -⟩
  refine V.gnil ?_
  rintro w9 G10 hH11
  have z12 := V.Fr.size G10
  try replace FJ := FJ.gr G10
  try replace F_b := F_b.gr G10
  replace HG := HG.grow G10
  clear G10
  have F3 : V.Row V.Cod.byte 5 w9 V.None' w.heap.size w9.heap.size a1 c2 (numB (1 : Int).toNat) := by
    obtain ⟨_, _, he, F0⟩ := (V.Hist.here (V.Hist.old (hH11 1)))
    cases he
    exact F0
  have F7 : V.Row V.Cod.byte 5 w9 V.None' w.heap.size w9.heap.size a5 c6 (textB (V.S b).data.toList) := by
    obtain ⟨_, _, he, F0⟩ := (V.Hist.here (hH11 4))
    cases he
    exact F0
  clear hH11
  refine V.appendR (F3) (V.From.flat V.flat_byte (D' := V.None') (F7.sl.from Try.underlying22)) elT22_22 rfl rfl rfl rfl rfl (by first | omega | (simp only [List.length_take, List.length_drop, List.length_append, List.length_cons, List.length_nil, List.length_replicate, List.length_set, V.length_data, V.S_size]; omega)) (by unfold maxLen; first | omega | (simp only [List.length_take, List.length_drop, List.length_append, List.length_cons, List.length_nil, List.length_replicate, List.length_set, V.length_data, V.S_size]; omega)) (by omega) (by omega) (fun _ h => h.elim) (fun _ h => h.elim) ?_
  rintro a13 c14 w16 G17 s18 F15
  clear F3
  have z19 := Go.RowKit.Below.size G17
  first | replace FJ := FJ.bl1 G17 (by intro j h; (try dsimp only [V.In] at h ⊢); first | omega | grind) | clear FJ | skip
  first | replace F_b := V.Sl.bl F_b G17 (by first | exact (fun _ h => by have := h.2; omega) | (intro k h; have := hD_b k h; omega)) | clear F_b | skip
  try replace F7 := F7.bm G17
  replace HG := HG.bl (Go.RowKit.Below.mono G17 (by first | assumption | omega))
  clear G17
  refine V.call (rdoes_spec FJ F15.sl (fun k hk => by have := hk.2; omega) (by first | assumption | omega | decide | (dsimp only; omega)) (by first | omega | (simp only [List.length_take, List.length_drop, List.length_append, List.length_cons, List.length_nil, List.length_replicate, List.length_set, V.length_data, V.S_size]; omega)) (by (try dsimp only [V.In]); first | assumption | omega | grind)) rfl rfl rfl ?_
  rintro _ w21 ⟨rfl, F20, G22⟩
  have z23 := V.FrE.size G22
  first | replace FJ := FJ.mvE G22 (by intro j h hd; (try dsimp only [V.In] at h hd ⊢); first | omega | grind) | clear FJ | skip
  first | replace F_b := F_b.mvE G22 (by intro j h hd; (try dsimp only [V.In] at h hd ⊢); first | omega | grind) | clear F_b | skip
  first | replace F7 := F7.mvE G22 (by intro j h; refine ⟨fun hd => ?_, fun hd => ?_⟩ <;> first | exact hd.elim | (try dsimp only [V.In] at h hd ⊢); first | omega | grind) | clear F7 | skip
  first | replace F15 := F15.mvE G22 (by intro j h; refine ⟨fun hd => ?_, fun hd => ?_⟩ <;> first | exact hd.elim | (try dsimp only [V.In] at h hd ⊢); first | omega | grind) | clear F15 | skip
  replace HG := HG.stepE G22 (by intro i h; (try dsimp only [V.In] at h ⊢); first | omega | grind)
  clear G22
  refine V.run T_ok 1 rfl ?_
  refine V.nil ?_
  refine V.to_nrm ?_
  refine V.tN ?_
  refine V.ret ?_
  have hle := chA_len (b := b) (by omega)
  have hq := rdo_eq (d := dv) (j := jv) (frmB_0 (b := chA b) (by omega) (by omega)) (by rw [take_A jv (by omega)]; rfl)
  have hJ : appJ jv dv b = rdoJ jv dv (chA b) := by unfold appJ; rw [if_neg (by grind)]; exact hq.2.1.symm
  have hE : appE jv dv b = rdoE dv (chA b) := by unfold appE; rw [if_neg (by grind)]; exact hq.1.symm
  have hDD : appD dv b = dAppend dv (frmB (chA b)).1 := by unfold appD; rw [if_neg (by grind)]; exact hq.2.2.symm
  rw [hJ, hE, hDD]
  have FJ9 := F20.mono (D' := (fun i => D i ∨ V.In w.heap.size w21.heap.size i)) (by intro i h; ((try dsimp only [V.In] at h ⊢); first | omega | grind)) (by intro i h; ((try dsimp only [V.In] at h ⊢); first | omega | grind)) ⟨by (try dsimp only [V.In]); first | omega | grind, by (try dsimp only [V.In]); first | omega | grind⟩
  refine V.done rfl ?_
  exact ⟨(by first | rfl | simp only [List.length_set]), FJ9, HG⟩

set_option maxHeartbeats 900000 in
set_option maxRecDepth 10000 in
theorem rcutj_spec {w : World} {k km : Nat} {D : Nat → Prop} {jv : JV} {dv : DiskV} (FJ : RJst w k km D jv dv) {n : Int} (hs : jv.l.length + 1 ≤ 1000000) :
    Meets Try.prog 22 [.pointer (some ⟨k, 0, none⟩), .int .i64 n] w fun r w' => r = .int .i64 (cutE jv dv n) ∧ RJst w' k km (fun i => D i ∨ V.In w.heap.size w'.heap.size i) (cutJ jv dv n) (cutD jv dv n) ∧ V.FrE (fun i => i = k ∨ i = km) w w' := by
 have FJ0 := FJ
 obtain ⟨aL, cL, aD, cD, Fk, FL, Fd⟩ := FJ.ex
 have hD := FJ.lt
 obtain ⟨hb0, hb1, hll, hdl, hel⟩ := FJ.ok
 obtain ⟨hDk, hkm⟩ := FJ.nk
 have hDm := FJ.dk.nk
 have FM := FJ.dk
 have hkl := Fk.lt
 have hml := FM.klt
 have hl63 := FL.len63
 obtain ⟨hs0, hs1, hs2, hs3⟩ := FM.ds.small
 have hkm2 : km ≠ k := fun h => hkm h.symm
 have HG := V.FrE.refl (fun i => i = k ∨ i = km) w
 refine V.enter (n := 36) Try.func22 rfl rfl (by decide) rfl ?_
 refine V.seq ?_
 refine V.region ?_
 refine V.run T_ok 1 rfl ?_
 refine V.nil ?_
 refine V.tN ?_
 refine V.seq ?_
 refine V.seq ?_
 refine V.drawQ mixed (by kernel_rfl) ?_
 refine V.qrun T_ok 4 rfl ?_
 refine V.qloadO T_ok Fk rfl rfl rfl rfl rfl ?_
 refine V.qrun T_ok 2 rfl ?_
 refine V.qsplit (j := 6) (t := 11) rfl rfl (fun g1_6 => ?_) (fun g1_6 => ?_)
 ·
  try replace g1_6 := V.dec g1_6
  try simp only [V.mk0, V.mk1, V.mk2, V.mk3] at g1_6
  refine V.qrun T_ok 13 rfl ?_
  refine V.qnil ?_
  rintro w1 G2
  have z3 := V.Fr.size G2
  try replace Fk := Fk.gr G2
  try replace FJ := FJ.gr G2
  replace HG := HG.grow G2
  clear G2
  refine V.tN ?_
  refine V.condY rfl rfl ?_
  refine V.seq ?_
  refine V.region ?_
  refine V.run T_ok 1 rfl ?_
  refine V.nil ?_
  refine V.tN ?_
  refine V.ret ?_
  refine V.tR ?_
  rw [show cutJ jv dv n = jv by unfold cutJ; rw [if_pos (by grind)], show cutD jv dv n = dv by unfold cutD; rw [if_pos (by grind)], show cutE jv dv n = 71 by unfold cutE; rw [if_pos (by grind)]]
  have FJ9 := FJ.mono (D' := (fun i => D i ∨ V.In w.heap.size w1.heap.size i)) (by intro i h; ((try dsimp only [V.In] at h ⊢); first | omega | grind)) (by intro i h; ((try dsimp only [V.In] at h ⊢); first | omega | grind)) ⟨by (try dsimp only [V.In]); first | omega | grind, by (try dsimp only [V.In]); first | omega | grind⟩
  refine V.done rfl ?_
  exact ⟨(by first | rfl | simp only [List.length_set]), FJ9, HG⟩
 ·
  try replace g1_6 := V.dec g1_6
  try simp only [V.mk0, V.mk1, V.mk2, V.mk3] at g1_6
  refine V.qrun T_ok 4 rfl ?_
  refine V.qyes rfl rfl rfl ?_
  refine V.qloadO T_ok Fk rfl rfl rfl rfl rfl ?_
  refine V.qrun T_ok 3 rfl ?_
  refine V.qyes rfl rfl rfl ?_
  refine V.qloadO T_ok Fk rfl rfl rfl rfl rfl ?_
  refine V.qrun T_ok 1 rfl ?_
  refine V.qyes rfl rfl rfl ?_
  refine V.qaddN rfl rfl rfl rfl rfl (by first | omega | (simp only [List.length_take, List.length_drop, List.length_append, List.length_cons, List.length_nil, List.length_replicate, List.length_set, V.length_data, V.S_size]; omega)) (by first | omega | (simp only [List.length_take, List.length_drop, List.length_append, List.length_cons, List.length_nil, List.length_replicate, List.length_set, V.length_data, V.S_size]; omega)) ?_
  refine V.qrun T_ok 2 rfl ?_
  refine V.qnil ?_
  rintro w4 G5
  have z6 := V.Fr.size G5
  try replace Fk := Fk.gr G5
  try replace FJ := FJ.gr G5
  replace HG := HG.grow G5
  clear G5
  refine V.tN ?_
  refine V.condT rfl (fun h1 => ?_) (fun h1 => ?_)
  ·
   try replace h1 := V.dec h1
   try simp only [V.mk0, V.mk1, V.mk2, V.mk3] at h1
   refine V.seq ?_
   refine V.region ?_
   refine V.run T_ok 1 rfl ?_
   refine V.nil ?_
   refine V.tN ?_
   refine V.ret ?_
   refine V.tR ?_
   rw [show cutJ jv dv n = jv by unfold cutJ; rw [if_pos (by grind)], show cutD jv dv n = dv by unfold cutD; rw [if_pos (by grind)], show cutE jv dv n = 71 by unfold cutE; rw [if_pos (by grind)]]
   have FJ9 := FJ.mono (D' := (fun i => D i ∨ V.In w.heap.size w4.heap.size i)) (by intro i h; ((try dsimp only [V.In] at h ⊢); first | omega | grind)) (by intro i h; ((try dsimp only [V.In] at h ⊢); first | omega | grind)) ⟨by (try dsimp only [V.In]); first | omega | grind, by (try dsimp only [V.In]); first | omega | grind⟩
   refine V.done rfl ?_
   exact ⟨(by first | rfl | simp only [List.length_set]), FJ9, HG⟩
  ·
   try replace h1 := V.dec h1
   try simp only [V.mk0, V.mk1, V.mk2, V.mk3] at h1
   refine V.skip ?_
   refine V.tN ?_
   refine V.seq ?_
   have hn9 := numB_len9 (v := 1) (by decide)
   have hn92 := numB_len9 (v := 2) (by decide)
   have hn93 := numB_len9 (v := 3) (by decide)
   have htb : ∀ x : List UInt8, x.length ≤ 65516 → (textB x).length ≤ 65525 := fun x hx => by unfold textB; have := numB_len9 (v := (x.length : Int)) (by omega); rw [Int.toNat_natCast] at this; rw [List.length_append]; omega
   have hn0 := numB_len9 (v := n - jv.base) (by omega)
   refine V.drawE 0 9 mixed rfl (V.pure_move rfl) (by kernel_rfl) ?_
   refine V.drawGT_any 9 (V.sel [(1, (fun v wz => ∃ (ra7 : Option Addr) (rc7 : Nat), v = .slice ra7 (numB (2 : Int).toNat).length rc7 ∧ V.Row V.Cod.byte 5 wz V.None' w4.heap.size wz.heap.size ra7 rc7 (numB (2 : Int).toNat))), (8, (fun v wz => ∃ (ra7 : Option Addr) (rc7 : Nat), v = .slice ra7 (numB (n - jv.base).toNat).length rc7 ∧ V.Row V.Cod.byte 5 wz V.None' w4.heap.size wz.heap.size ra7 rc7 (numB (n - jv.base).toNat)))]) (by kernel_rfl) (V.mono_cons (by rintro v wz wz' g ⟨ra7, rc7, rfl, rF7⟩; exact ⟨ra7, rc7, rfl, (by first | exact (rF7.gr g).mono (V.In.sub (Nat.le_refl _) g.size) | exact rF7.gr g | exact (rF7.gr g).mono (fun _ h => h) (Nat.le_refl _) g.size | exact (rF7.gr g).mono (fun k h => ⟨h.1, Nat.lt_of_lt_of_le h.2 g.size⟩))⟩) (V.mono_cons (by rintro v wz wz' g ⟨ra7, rc7, rfl, rF7⟩; exact ⟨ra7, rc7, rfl, (by first | exact (rF7.gr g).mono (V.In.sub (Nat.le_refl _) g.size) | exact rF7.gr g | exact (rF7.gr g).mono (fun _ h => h) (Nat.le_refl _) g.size | exact (rF7.gr g).mono (fun k h => ⟨h.1, Nat.lt_of_lt_of_le h.2 g.size⟩))⟩) V.mono_nil)) ?_
   refine V.grun T_ok 1 rfl (V.sel_none rfl) ?_
   refine V.gcall (fun w' h => (rp_number (v := 2) (by omega)).mono (by rintro v w'' ⟨ra7, rc7, rfl, rF7, G⟩; exact ⟨⟨ra7, rc7, rfl, (by first | exact rF7.mono (V.In.mono_l h.1.size) | exact rF7 | exact rF7.mono (fun _ h => h) h.1.size (Nat.le_refl _))⟩, G⟩)) rfl rfl rfl rfl ?_
   rintro _ w10 - - ⟨a7, c8, rfl, -⟩
   refine V.grun T_ok 4 rfl (V.sel_none rfl) ?_
   refine V.gloadO T_ok (fun w' h => Fk.gr h.1) rfl rfl rfl rfl rfl rfl ?_
   refine V.gsubM rfl rfl rfl rfl rfl (by first | omega | (simp only [List.length_take, List.length_drop, List.length_append, List.length_cons, List.length_nil, List.length_replicate, List.length_set, V.length_data, V.S_size]; omega)) (by first | omega | (simp only [List.length_take, List.length_drop, List.length_append, List.length_cons, List.length_nil, List.length_replicate, List.length_set, V.length_data, V.S_size]; omega)) ?_
   refine V.gcall (fun w' h => (rp_number (v := (n - jv.base)) (by omega)).mono (by rintro v w'' ⟨ra7, rc7, rfl, rF7, G⟩; exact ⟨⟨ra7, rc7, rfl, (by first | exact rF7.mono (V.In.mono_l h.1.size) | exact rF7 | exact rF7.mono (fun _ h => h) h.1.size (Nat.le_refl _))⟩, G⟩)) rfl rfl rfl rfl ?_
   rintro _ w14 - - ⟨a11, c12, rfl, -⟩
   refine V.gnil ?_
   rintro w15 G16 hH17
   have z18 := V.Fr.size G16
   try replace Fk := Fk.gr G16
   try replace FJ := FJ.gr G16
   replace HG := HG.grow G16
   clear G16
   have F9 : V.Row V.Cod.byte 5 w15 V.None' w4.heap.size w15.heap.size a7 c8 (numB (2 : Int).toNat) := by
     obtain ⟨_, _, he, F0⟩ := (V.Hist.here (V.Hist.old (hH17 1)))
     cases he
     exact F0
   have F13 : V.Row V.Cod.byte 5 w15 V.None' w4.heap.size w15.heap.size a11 c12 (numB (n - jv.base).toNat) := by
     obtain ⟨_, _, he, F0⟩ := (V.Hist.here (hH17 8))
     cases he
     exact F0
   clear hH17
   refine V.appendR (F9) (V.From.flat V.flat_byte (D' := V.None') (F13.sl.from Try.underlying22)) elT22_22 rfl rfl rfl rfl rfl (by first | omega | (simp only [List.length_take, List.length_drop, List.length_append, List.length_cons, List.length_nil, List.length_replicate, List.length_set, V.length_data, V.S_size]; omega)) (by unfold maxLen; first | omega | (simp only [List.length_take, List.length_drop, List.length_append, List.length_cons, List.length_nil, List.length_replicate, List.length_set, V.length_data, V.S_size]; omega)) (by omega) (by omega) (fun _ h => h.elim) (fun _ h => h.elim) ?_
   rintro a19 c20 w22 G23 s24 F21
   clear F9
   have z25 := Go.RowKit.Below.size G23
   first | replace Fk := V.Cells.bl Fk G23 (by first | assumption | omega) | clear Fk | skip
   first | replace FJ := FJ.bl1 G23 (by intro j h; (try dsimp only [V.In] at h ⊢); first | omega | grind) | clear FJ | skip
   try replace F13 := F13.bm G23
   replace HG := HG.bl (Go.RowKit.Below.mono G23 (by first | assumption | omega))
   clear G23
   refine V.call (rdoes_spec FJ F21.sl (fun k hk => by have := hk.2; omega) (by first | assumption | omega | decide | (dsimp only; omega)) (by first | omega | (simp only [List.length_take, List.length_drop, List.length_append, List.length_cons, List.length_nil, List.length_replicate, List.length_set, V.length_data, V.S_size]; omega)) (by (try dsimp only [V.In]); first | assumption | omega | grind)) rfl rfl rfl ?_
   rintro _ w27 ⟨rfl, F26, G28⟩
   have z29 := V.FrE.size G28
   first | replace Fk := Fk.mvE G28 (by (try dsimp only [V.In]); first | omega | grind) | clear Fk | skip
   first | replace FJ := FJ.mvE G28 (by intro j h hd; (try dsimp only [V.In] at h hd ⊢); first | omega | grind) | clear FJ | skip
   first | replace F13 := F13.mvE G28 (by intro j h; refine ⟨fun hd => ?_, fun hd => ?_⟩ <;> first | exact hd.elim | (try dsimp only [V.In] at h hd ⊢); first | omega | grind) | clear F13 | skip
   first | replace F21 := F21.mvE G28 (by intro j h; refine ⟨fun hd => ?_, fun hd => ?_⟩ <;> first | exact hd.elim | (try dsimp only [V.In] at h hd ⊢); first | omega | grind) | clear F21 | skip
   replace HG := HG.stepE G28 (by intro i h; (try dsimp only [V.In] at h ⊢); first | omega | grind)
   clear G28
   refine V.run T_ok 1 rfl ?_
   refine V.nil ?_
   refine V.to_nrm ?_
   refine V.tN ?_
   refine V.ret ?_
   have hle := chC_len (n := n - jv.base) (by omega)
   have hq := rdo_eq (d := dv) (j := jv) (frmB_0 (b := chC (n - jv.base)) (by omega) (by omega)) (by rw [take_C (by omega) (by omega) (by omega)]; rfl)
   have hJ : cutJ jv dv n = rdoJ jv dv (chC (n - jv.base)) := by unfold cutJ; rw [if_neg (by grind)]; exact hq.2.1.symm
   have hE : cutE jv dv n = rdoE dv (chC (n - jv.base)) := by unfold cutE; rw [if_neg (by grind)]; exact hq.1.symm
   have hDD : cutD jv dv n = dAppend dv (frmB (chC (n - jv.base))).1 := by unfold cutD; rw [if_neg (by grind)]; exact hq.2.2.symm
   rw [hJ, hE, hDD]
   have FJ9 := F26.mono (D' := (fun i => D i ∨ V.In w.heap.size w27.heap.size i)) (by intro i h; ((try dsimp only [V.In] at h ⊢); first | omega | grind)) (by intro i h; ((try dsimp only [V.In] at h ⊢); first | omega | grind)) ⟨by (try dsimp only [V.In]); first | omega | grind, by (try dsimp only [V.In]); first | omega | grind⟩
   refine V.done rfl ?_
   exact ⟨(by first | rfl | simp only [List.length_set]), FJ9, HG⟩

set_option maxHeartbeats 900000 in
set_option maxRecDepth 10000 in
theorem rreb_spec {w : World} {k km : Nat} {D : Nat → Prop} {jv : JV} {dv : DiskV} (FJ : RJst w k km D jv dv) {n : Int} {D_b : Nat → Prop} {c_b : Nat} {a_b : Option Addr} {b : List UInt8} (F_b : Sl V.Cod.byte w D_b a_b c_b b) (hD_b : ∀ k, D_b k → k < w.heap.size) (hs : jv.l.length + 1 ≤ 1000000) :
    Meets Try.prog 24 [.pointer (some ⟨k, 0, none⟩), .int .i64 n, .slice a_b b.length c_b] w fun r w' => r = .int .i64 (rebE jv dv n b) ∧ RJst w' k km (fun i => D i ∨ V.In w.heap.size w'.heap.size i) (rebJ jv dv n b) (rebD dv n b) ∧ V.FrE (fun i => i = k ∨ i = km) w w' := by
 have FJ0 := FJ
 obtain ⟨aL, cL, aD, cD, Fk, FL, Fd⟩ := FJ.ex
 have hD := FJ.lt
 obtain ⟨hb0, hb1, hll, hdl, hel⟩ := FJ.ok
 obtain ⟨hDk, hkm⟩ := FJ.nk
 have hDm := FJ.dk.nk
 have FM := FJ.dk
 have hkl := Fk.lt
 have hml := FM.klt
 have hl63 := FL.len63
 obtain ⟨hs0, hs1, hs2, hs3⟩ := FM.ds.small
 have hkm2 : km ≠ k := fun h => hkm h.symm
 have HG := V.FrE.refl (fun i => i = k ∨ i = km) w
 refine V.enter (n := 31) Try.func24 rfl rfl (by decide) rfl ?_
 refine V.seq ?_
 refine V.region ?_
 refine V.run T_ok 1 rfl ?_
 refine V.nil ?_
 refine V.tN ?_
 refine V.seq ?_
 refine V.seq ?_
 refine V.region ?_
 refine V.run T_ok 3 rfl ?_
 refine V.orG T_ok 2 2 10 rfl rfl rfl rfl rfl rfl rfl rfl ?_
 refine V.run T_ok 1 rfl ?_
 refine V.orG T_ok 3 6 14 rfl rfl rfl rfl rfl rfl rfl rfl ?_
 refine V.nil ?_
 refine V.tN ?_
 refine V.condT rfl (fun h1 => ?_) (fun h1 => ?_)
 ·
  try replace h1 := V.dec h1
  try simp only [V.mk0, V.mk1, V.mk2, V.mk3] at h1
  refine V.seq ?_
  refine V.region ?_
  refine V.run T_ok 1 rfl ?_
  refine V.nil ?_
  refine V.tN ?_
  refine V.ret ?_
  refine V.tR ?_
  rw [show rebJ jv dv n b = jv by unfold rebJ; rw [if_pos (by grind)], show rebD dv n b = dv by unfold rebD; rw [if_pos (by grind)], show rebE jv dv n b = 71 by unfold rebE; rw [if_pos (by grind)]]
  have FJ9 := FJ.mono (D' := (fun i => D i ∨ V.In w.heap.size w.heap.size i)) (by intro i h; ((try dsimp only [V.In] at h ⊢); first | omega | grind)) (by intro i h; ((try dsimp only [V.In] at h ⊢); first | omega | grind)) ⟨by (try dsimp only [V.In]); first | omega | grind, by (try dsimp only [V.In]); first | omega | grind⟩
  refine V.done rfl ?_
  exact ⟨(by first | rfl | simp only [List.length_set]), FJ9, HG⟩
 ·
  try replace h1 := V.dec h1
  try simp only [V.mk0, V.mk1, V.mk2, V.mk3] at h1
  refine V.skip ?_
  refine V.tN ?_
  refine V.seq ?_
  have hn9 := numB_len9 (v := 1) (by decide)
  have hn92 := numB_len9 (v := 2) (by decide)
  have hn93 := numB_len9 (v := 3) (by decide)
  have htb : ∀ x : List UInt8, x.length ≤ 65516 → (textB x).length ≤ 65525 := fun x hx => by unfold textB; have := numB_len9 (v := (x.length : Int)) (by omega); rw [Int.toNat_natCast] at this; rw [List.length_append]; omega
  have htb2 := htb (V.S b).data.toList (by show b.length ≤ _; omega)
  have hn0 := numB_len9 (v := n) (by omega)
  refine V.region ?_
  refine V.call (rp_number (v := 3) (by omega)) rfl rfl rfl ?_
  rintro _ w4 ⟨a1, c2, rfl, F3, G5⟩
  have z6 := V.Fr.size G5
  try replace FJ := FJ.gr G5
  try replace F_b := F_b.gr G5
  replace HG := HG.grow G5
  clear G5
  refine V.run T_ok 1 rfl ?_
  refine V.call (rp_number (v := n) (by omega)) rfl rfl rfl ?_
  rintro _ w10 ⟨a7, c8, rfl, F9, G11⟩
  have z12 := V.Fr.size G11
  try replace FJ := FJ.gr G11
  try replace F_b := F_b.gr G11
  try replace F3 := F3.gr G11
  replace HG := HG.grow G11
  clear G11
  refine V.appendR (F3) (V.From.flat V.flat_byte (D' := V.None') (F9.sl.from Try.underlying22)) elT22_22 rfl rfl rfl rfl rfl (by first | omega | (simp only [List.length_take, List.length_drop, List.length_append, List.length_cons, List.length_nil, List.length_replicate, List.length_set, V.length_data, V.S_size]; omega)) (by unfold maxLen; first | omega | (simp only [List.length_take, List.length_drop, List.length_append, List.length_cons, List.length_nil, List.length_replicate, List.length_set, V.length_data, V.S_size]; omega)) (by omega) (by omega) (fun _ h => h.elim) (fun _ h => h.elim) ?_
  rintro a13 c14 w16 G17 s18 F15
  clear F3
  have z19 := Go.RowKit.Below.size G17
  first | replace FJ := FJ.bl1 G17 (by intro j h; (try dsimp only [V.In] at h ⊢); first | omega | grind) | clear FJ | skip
  first | replace F_b := V.Sl.bl F_b G17 (by first | exact (fun _ h => by have := h.2; omega) | (intro k h; have := hD_b k h; omega)) | clear F_b | skip
  try replace F9 := F9.bm G17
  replace HG := HG.bl (Go.RowKit.Below.mono G17 (by first | assumption | omega))
  clear G17
  refine V.run T_ok 1 rfl ?_
  refine V.nil ?_
  refine V.tN ?_
  refine V.seq ?_
  refine V.region ?_
  refine V.run T_ok 2 rfl ?_
  refine V.toStr F_b Try.underlying22 Try.underlying5 Try.underlying9 rfl rfl rfl rfl ?_
  refine V.call (rp_text (s := (V.S b)) (by first | omega | decide | (simp only [V.S_size, List.length_cons, List.length_nil]; omega))) rfl rfl rfl ?_
  rintro _ w23 ⟨a20, c21, rfl, F22, G24⟩
  have z25 := V.Fr.size G24
  try replace FJ := FJ.gr G24
  try replace F_b := F_b.gr G24
  try replace F9 := F9.gr G24
  try replace F15 := F15.gr G24
  replace HG := HG.grow G24
  clear G24
  refine V.appendR (F15) (V.From.flat V.flat_byte (D' := V.None') (F22.sl.from Try.underlying22)) elT22_22 rfl rfl rfl rfl rfl (by first | omega | (simp only [List.length_take, List.length_drop, List.length_append, List.length_cons, List.length_nil, List.length_replicate, List.length_set, V.length_data, V.S_size]; omega)) (by unfold maxLen; first | omega | (simp only [List.length_take, List.length_drop, List.length_append, List.length_cons, List.length_nil, List.length_replicate, List.length_set, V.length_data, V.S_size]; omega)) (by omega) (by omega) (fun _ h => h.elim) (fun _ h => h.elim) ?_
  rintro a26 c27 w29 G30 s31 F28
  clear F15
  have z32 := Go.RowKit.Below.size G30
  first | replace FJ := FJ.bl1 G30 (by intro j h; (try dsimp only [V.In] at h ⊢); first | omega | grind) | clear FJ | skip
  first | replace F_b := V.Sl.bl F_b G30 (by first | exact (fun _ h => by have := h.2; omega) | (intro k h; have := hD_b k h; omega)) | clear F_b | skip
  try replace F9 := F9.bm G30
  try replace F22 := F22.bm G30
  replace HG := HG.bl (Go.RowKit.Below.mono G30 (by first | assumption | omega))
  clear G30
  refine V.run T_ok 1 rfl ?_
  refine V.nil ?_
  refine V.tN ?_
  refine V.seq ?_
  refine V.region ?_
  refine V.run T_ok 2 rfl ?_
  refine V.call (rdoes_spec FJ F28.sl (fun k hk => by have := hk.2; omega) (by first | assumption | omega | decide | (dsimp only; omega)) (by first | omega | (simp only [List.length_take, List.length_drop, List.length_append, List.length_cons, List.length_nil, List.length_replicate, List.length_set, V.length_data, V.S_size]; omega)) (by (try dsimp only [V.In]); first | assumption | omega | grind)) rfl rfl rfl ?_
  rintro _ w34 ⟨rfl, F33, G35⟩
  have z36 := V.FrE.size G35
  first | replace FJ := FJ.mvE G35 (by intro j h hd; (try dsimp only [V.In] at h hd ⊢); first | omega | grind) | clear FJ | skip
  first | replace F_b := F_b.mvE G35 (by intro j h hd; (try dsimp only [V.In] at h hd ⊢); first | omega | grind) | clear F_b | skip
  first | replace F9 := F9.mvE G35 (by intro j h; refine ⟨fun hd => ?_, fun hd => ?_⟩ <;> first | exact hd.elim | (try dsimp only [V.In] at h hd ⊢); first | omega | grind) | clear F9 | skip
  first | replace F22 := F22.mvE G35 (by intro j h; refine ⟨fun hd => ?_, fun hd => ?_⟩ <;> first | exact hd.elim | (try dsimp only [V.In] at h hd ⊢); first | omega | grind) | clear F22 | skip
  first | replace F28 := F28.mvE G35 (by intro j h; refine ⟨fun hd => ?_, fun hd => ?_⟩ <;> first | exact hd.elim | (try dsimp only [V.In] at h hd ⊢); first | omega | grind) | clear F28 | skip
  replace HG := HG.stepE G35 (by intro i h; (try dsimp only [V.In] at h ⊢); first | omega | grind)
  clear G35
  refine V.run T_ok 1 rfl ?_
  refine V.nil ?_
  refine V.tN ?_
  refine V.ret ?_
  have hle := chR_len (n := n) (b := b) (by grind)
  have hq := rdo_eq (d := dv) (j := jv) (frmB_0 (b := chR n b) (by omega) (by omega)) (by rw [take_R (by grind)]; rfl)
  have hJ : rebJ jv dv n b = rdoJ jv dv (chR n b) := by unfold rebJ; rw [if_neg (by grind)]; exact hq.2.1.symm
  have hE : rebE jv dv n b = rdoE dv (chR n b) := by unfold rebE; rw [if_neg (by grind)]; exact hq.1.symm
  have hDD : rebD dv n b = dAppend dv (frmB (chR n b)).1 := by unfold rebD; rw [if_neg (by grind)]; exact hq.2.2.symm
  rw [hJ, hE, hDD]
  have FJ9 := F33.mono (D' := (fun i => D i ∨ V.In w.heap.size w34.heap.size i)) (by intro i h; ((try dsimp only [V.In] at h ⊢); first | omega | grind)) (by intro i h; ((try dsimp only [V.In] at h ⊢); first | omega | grind)) ⟨by (try dsimp only [V.In]); first | omega | grind, by (try dsimp only [V.In]); first | omega | grind⟩
  refine V.done rfl ?_
  exact ⟨(by first | rfl | simp only [List.length_set]), FJ9, HG⟩

set_option maxHeartbeats 900000 in
set_option maxRecDepth 10000 in
theorem rsetj_spec {w : World} {k km : Nat} {D : Nat → Prop} {jv : JV} {dv : DiskV} (FJ : RJst w k km D jv dv) {n1 : Int} {n2 : Int} {n3 : Int}  :
    Meets Try.prog 26 [.pointer (some ⟨k, 0, none⟩), .int .i64 n1, .int .i64 n2, .int .i64 n3] w fun r w' => r = .int .i64 (setE n1 n2 n3) ∧ RJst w' k km (fun i => D i ∨ V.In w.heap.size w'.heap.size i) (setJ jv n1 n2 n3) (setD dv n1 n2 n3) ∧ V.FrE (fun i => i = k ∨ i = km) w w' := by
 have FJ0 := FJ
 obtain ⟨aL, cL, aD, cD, Fk, FL, Fd⟩ := FJ.ex
 have hD := FJ.lt
 obtain ⟨hb0, hb1, hll, hdl, hel⟩ := FJ.ok
 obtain ⟨hDk, hkm⟩ := FJ.nk
 have hDm := FJ.dk.nk
 have FM := FJ.dk
 have hkl := Fk.lt
 have hml := FM.klt
 have hl63 := FL.len63
 obtain ⟨hs0, hs1, hs2, hs3⟩ := FM.ds.small
 have hkm2 : km ≠ k := fun h => hkm h.symm
 have HG := V.FrE.refl (fun i => i = k ∨ i = km) w
 refine V.enter (n := 64) Try.func26 rfl rfl (by decide) rfl ?_
 refine V.seq ?_
 refine V.region ?_
 refine V.run T_ok 1 rfl ?_
 refine V.nil ?_
 refine V.tN ?_
 refine V.seq ?_
 refine V.region ?_
 refine V.run T_ok 3 rfl ?_
 refine V.mkSlice T_ok zero3 rfl rfl sz3 rfl rfl rfl rfl rfl rfl ?_
 rintro k1 w4 s6 s7 G5 Fk2
 have z8 := V.Fr.size G5
 try replace Fk := Fk.gr G5
 try replace FL := FL.gr G5
 try replace Fd := Fd.gr G5
 try replace FM := FM.gr G5
 replace HG := HG.grow G5
 clear G5
 have F3 := V.rowOfI (q := .i64) (xs := ([n1, n2, n3] : List Int)) Fk2 rfl rfl
 clear Fk2
 refine V.run T_ok 1 rfl ?_
 refine V.nil ?_
 refine V.tN ?_
 refine V.seq ?_
 refine V.region ?_
 refine V.run T_ok 1 rfl ?_
 refine V.nil ?_
 refine V.tN ?_
 refine V.seq ?_
 refine V.seq ?_
 refine V.region ?_
 refine V.run T_ok 1 rfl ?_
 refine V.nil ?_
 refine V.tN ?_
 refine V.block ?_
 refine V.loopR 4 ?_
 refine V.rnd ?_
 refine V.seq ?_
 refine V.seq ?_
 refine V.region ?_
 refine V.run T_ok 2 rfl ?_
 refine V.nil ?_
 refine V.tN ?_
 refine V.condY rfl rfl ?_
 refine V.skip ?_
 refine V.tN ?_
 refine V.seq ?_
 refine V.block ?_
 refine V.seq ?_
 refine V.seq ?_
 refine V.region ?_
 refine V.run T_ok 2 rfl ?_
 refine V.elem T_ok F3.sl rfl rfl sz3 rfl rfl rfl rfl (by first | omega | (simp only [List.length_take, List.length_drop, List.length_append, List.length_cons, List.length_nil, List.length_replicate, List.length_set, V.length_data, V.S_size]; omega)) (by first | omega | (simp only [List.length_take, List.length_drop, List.length_append, List.length_cons, List.length_nil, List.length_replicate, List.length_set, V.length_data, V.S_size]; omega)) ?_
 rintro b9 o10 cs11 hx12 hb13 hR16 hA14
 obtain ⟨x15, hx15⟩ : ∃ z', ([n1, n2, n3] : List Int)[(0 : Int).toNat] = z' := ⟨_, rfl⟩
 rw [hx15] at hR16
 obtain rfl := hR16
 try simp only [Int.toNat_natCast] at hx15 hx12
 replace hx15 : n1 = x15 := hx15
 subst hx15
 clear hx12
 refine V.loadA T_ok (o0 := o10) (off := 0) hA14 rfl rfl rfl rfl rfl ?_
 refine V.run T_ok 2 rfl ?_
 refine V.split (j := 5) (t := 27) rfl rfl (fun g6_5_0 => ?_) (fun g6_5_0 => ?_)
 ·
  try replace g6_5_0 := V.dec g6_5_0
  try simp only [V.mk0, V.mk1, V.mk2, V.mk3] at g6_5_0
  refine V.run T_ok 6 rfl ?_
  refine V.nil ?_
  refine V.tN ?_
  refine V.condY rfl rfl ?_
  refine V.seq ?_
  refine V.region ?_
  refine V.run T_ok 1 rfl ?_
  refine V.nil ?_
  refine V.tN ?_
  refine V.ret ?_
  refine V.tR ?_
  refine V.bR ?_
  refine V.tR ?_
  refine V.tR ?_
  refine V.bR ?_
  refine V.tR ?_
  rw [show setJ jv n1 n2 n3 = jv by unfold setJ; rw [if_pos (by grind)], show setD dv n1 n2 n3 = dv by unfold setD; rw [if_pos (by grind)], show setE n1 n2 n3 = 71 by unfold setE; rw [if_pos (by grind)]]
  have hok9 := FJ0.ok
  have FJ9 := RJst.mk2 (j := ⟨jv.base, jv.data, jv.l, jv.t, jv.v, jv.b⟩) Fk (FL.mono (D' := (fun i => D i ∨ V.In w.heap.size w4.heap.size i)) (by intro i h; first | exact .inl h | ((try dsimp only [V.In] at h ⊢); first | omega | grind))) (Fd.mono (D' := (fun i => D i ∨ V.In w.heap.size w4.heap.size i)) (by intro i h; first | exact .inl h | ((try dsimp only [V.In] at h ⊢); first | omega | grind))) hok9 (FM.mono (D' := (fun i => D i ∨ V.In w.heap.size w4.heap.size i)) (by intro i h; ((try dsimp only [V.In] at h ⊢); first | omega | grind)) (by intro i h; ((try dsimp only [V.In] at h ⊢); first | omega | grind)) (by (try dsimp only [V.In]); first | omega | grind)) ⟨by (try dsimp only [V.In]); first | omega | grind, hkm⟩
  refine V.done rfl ?_
  exact ⟨(by first | rfl | simp only [List.length_set]), FJ9, HG⟩
 ·
  try replace g6_5_0 := V.dec g6_5_0
  try simp only [V.mk0, V.mk1, V.mk2, V.mk3] at g6_5_0
  refine V.run T_ok 2 rfl ?_
  refine V.yes rfl rfl rfl ?_
  refine V.elem T_ok F3.sl rfl rfl sz3 rfl rfl rfl rfl (by first | omega | (simp only [List.length_take, List.length_drop, List.length_append, List.length_cons, List.length_nil, List.length_replicate, List.length_set, V.length_data, V.S_size]; omega)) (by first | omega | (simp only [List.length_take, List.length_drop, List.length_append, List.length_cons, List.length_nil, List.length_replicate, List.length_set, V.length_data, V.S_size]; omega)) ?_
  rintro b17 o18 cs19 hx20 hb21 hR24 hA22
  obtain ⟨x23, hx23⟩ : ∃ z', ([n1, n2, n3] : List Int)[(0 : Int).toNat] = z' := ⟨_, rfl⟩
  rw [hx23] at hR24
  obtain rfl := hR24
  try simp only [Int.toNat_natCast] at hx23 hx20
  refine V.yes rfl rfl rfl ?_
  replace hx23 : n1 = x23 := hx23
  subst hx23
  clear hx20
  refine V.loadA T_ok (o0 := o18) (off := 0) hA22 rfl rfl rfl rfl rfl ?_
  refine V.run T_ok 2 rfl ?_
  refine V.nil ?_
  refine V.tN ?_
  refine V.condT rfl (fun h6_0 => ?_) (fun h6_0 => ?_)
  ·
   try replace h6_0 := V.dec h6_0
   try simp only [V.mk0, V.mk1, V.mk2, V.mk3] at h6_0
   refine V.seq ?_
   refine V.region ?_
   refine V.run T_ok 1 rfl ?_
   refine V.nil ?_
   refine V.tN ?_
   refine V.ret ?_
   refine V.tR ?_
   refine V.bR ?_
   refine V.tR ?_
   refine V.tR ?_
   refine V.bR ?_
   refine V.tR ?_
   rw [show setJ jv n1 n2 n3 = jv by unfold setJ; rw [if_pos (by grind)], show setD dv n1 n2 n3 = dv by unfold setD; rw [if_pos (by grind)], show setE n1 n2 n3 = 71 by unfold setE; rw [if_pos (by grind)]]
   have hok9 := FJ0.ok
   have FJ9 := RJst.mk2 (j := ⟨jv.base, jv.data, jv.l, jv.t, jv.v, jv.b⟩) Fk (FL.mono (D' := (fun i => D i ∨ V.In w.heap.size w4.heap.size i)) (by intro i h; first | exact .inl h | ((try dsimp only [V.In] at h ⊢); first | omega | grind))) (Fd.mono (D' := (fun i => D i ∨ V.In w.heap.size w4.heap.size i)) (by intro i h; first | exact .inl h | ((try dsimp only [V.In] at h ⊢); first | omega | grind))) hok9 (FM.mono (D' := (fun i => D i ∨ V.In w.heap.size w4.heap.size i)) (by intro i h; ((try dsimp only [V.In] at h ⊢); first | omega | grind)) (by intro i h; ((try dsimp only [V.In] at h ⊢); first | omega | grind)) (by (try dsimp only [V.In]); first | omega | grind)) ⟨by (try dsimp only [V.In]); first | omega | grind, hkm⟩
   refine V.done rfl ?_
   exact ⟨(by first | rfl | simp only [List.length_set]), FJ9, HG⟩
  ·
   try replace h6_0 := V.dec h6_0
   try simp only [V.mk0, V.mk1, V.mk2, V.mk3] at h6_0
   refine V.skip ?_
   refine V.tN ?_
   have hn1 := numB_len9 (v := n1) (by omega)
   refine V.region ?_
   refine V.run T_ok 3 rfl ?_
   refine V.elem T_ok F3.sl rfl rfl sz3 rfl rfl rfl rfl (by first | omega | (simp only [List.length_take, List.length_drop, List.length_append, List.length_cons, List.length_nil, List.length_replicate, List.length_set, V.length_data, V.S_size]; omega)) (by first | omega | (simp only [List.length_take, List.length_drop, List.length_append, List.length_cons, List.length_nil, List.length_replicate, List.length_set, V.length_data, V.S_size]; omega)) ?_
   rintro b25 o26 cs27 hx28 hb29 hR32 hA30
   obtain ⟨x31, hx31⟩ : ∃ z', ([n1, n2, n3] : List Int)[(0 : Int).toNat] = z' := ⟨_, rfl⟩
   rw [hx31] at hR32
   obtain rfl := hR32
   try simp only [Int.toNat_natCast] at hx31 hx28
   replace hx31 : n1 = x31 := hx31
   subst hx31
   clear hx28
   refine V.loadA T_ok (o0 := o26) (off := 0) hA30 rfl rfl rfl rfl rfl ?_
   refine V.call (rp_number (v := n1) (by omega)) rfl rfl rfl ?_
   rintro _ w36 ⟨a33, c34, rfl, F35, G37⟩
   have z38 := V.Fr.size G37
   try replace Fk := Fk.gr G37
   try replace FL := FL.gr G37
   try replace Fd := Fd.gr G37
   try replace FM := FM.gr G37
   try replace F3 := F3.gr G37
   replace HG := HG.grow G37
   clear G37
   generalize hu1 : numB n1.toNat = u1 at F35 hn1 ⊢
   refine V.appendR ((V.Row.nil (C := V.Cod.byte) (t := 5) (w := w36) (B := V.None') (lo := w36.heap.size) (hi := w36.heap.size))) (V.From.flat V.flat_byte (D' := V.None') (F35.sl.from Try.underlying22)) elT22_22 rfl rfl rfl rfl rfl (by (first | (simp only [List.length_append, List.length_nil]; omega) | omega)) (by unfold maxLen; (first | (simp only [List.length_append, List.length_nil]; omega) | omega)) (by omega) (by omega) (fun _ h => h.elim) (fun _ h => h.elim) ?_
   rintro a39 c40 w42 G43 - F41
   have z44 := Go.RowKit.Below.size G43
   first | replace Fk := V.Cells.bl Fk G43 (by first | assumption | omega) | clear Fk | skip
   first | replace FL := V.Sl.bl FL G43 (by intro j h; (try dsimp only [V.In] at h ⊢); first | omega | grind) | clear FL | skip
   first | replace Fd := V.Sl.bl Fd G43 (by intro j h; (try dsimp only [V.In] at h ⊢); first | omega | grind) | clear Fd | skip
   first | replace FM := FM.bl1 G43 (by intro j h; (try dsimp only [V.In] at h ⊢); first | omega | grind) | clear FM | skip
   try replace F3 := F3.bm G43
   try replace F35 := F35.bm G43
   replace HG := HG.bl (Go.RowKit.Below.mono G43 (by first | assumption | omega))
   clear G43
   rw [List.nil_append] at F41 ⊢
   refine V.run T_ok 1 rfl ?_
   refine V.nil ?_
   refine V.bN ?_
   refine V.tN ?_
   have hw0_0 : k < w36.heap.size := by first | assumption | omega
   have hw1_0 : km < w36.heap.size := by first | assumption | omega
   have hw2_0 : w.heap.size ≤ w36.heap.size := by first | assumption | omega
   have hw3_0 : w36.heap.size ≤ w42.heap.size := by first | assumption | omega
   have hw4_0 : k1 < w36.heap.size := by first | assumption | omega
   have hw5_0 : w.heap.size ≤ k1 := by first | assumption | omega
   try clear s6
   try clear s7
   try clear z38
   try clear z44
   try clear z8
   clear F35
   refine V.region ?_
   refine V.run T_ok 1 rfl ?_
   refine V.addN rfl rfl rfl rfl rfl (by first | omega | (simp only [List.length_take, List.length_drop, List.length_append, List.length_cons, List.length_nil, List.length_replicate, List.length_set, V.length_data, V.S_size]; omega)) (by first | omega | (simp only [List.length_take, List.length_drop, List.length_append, List.length_cons, List.length_nil, List.length_replicate, List.length_set, V.length_data, V.S_size]; omega)) ?_
   refine V.run T_ok 1 rfl ?_
   refine V.nil ?_
   refine V.tN ?_
   refine V.rnd ?_
   refine V.seq ?_
   refine V.seq ?_
   refine V.region ?_
   refine V.run T_ok 2 rfl ?_
   refine V.nil ?_
   refine V.tN ?_
   refine V.condY rfl rfl ?_
   refine V.skip ?_
   refine V.tN ?_
   refine V.seq ?_
   refine V.block ?_
   refine V.seq ?_
   refine V.seq ?_
   refine V.region ?_
   refine V.run T_ok 2 rfl ?_
   refine V.elem T_ok F3.sl rfl rfl sz3 rfl rfl rfl rfl (by first | omega | (simp only [List.length_take, List.length_drop, List.length_append, List.length_cons, List.length_nil, List.length_replicate, List.length_set, V.length_data, V.S_size]; omega)) (by first | omega | (simp only [List.length_take, List.length_drop, List.length_append, List.length_cons, List.length_nil, List.length_replicate, List.length_set, V.length_data, V.S_size]; omega)) ?_
   rintro b45 o46 cs47 hx48 hb49 hR52 hA50
   obtain ⟨x51, hx51⟩ : ∃ z', ([n1, n2, n3] : List Int)[(0 + 1 : Int).toNat] = z' := ⟨_, rfl⟩
   rw [hx51] at hR52
   obtain rfl := hR52
   try simp only [Int.toNat_natCast] at hx51 hx48
   replace hx51 : n2 = x51 := hx51
   subst hx51
   clear hx48
   refine V.loadA T_ok (o0 := o46) (off := 0) hA50 rfl rfl rfl rfl rfl ?_
   refine V.run T_ok 2 rfl ?_
   refine V.split (j := 5) (t := 27) rfl rfl (fun g6_5_1 => ?_) (fun g6_5_1 => ?_)
   ·
    try replace g6_5_1 := V.dec g6_5_1
    try simp only [V.mk0, V.mk1, V.mk2, V.mk3] at g6_5_1
    refine V.run T_ok 6 rfl ?_
    refine V.nil ?_
    refine V.tN ?_
    refine V.condY rfl rfl ?_
    refine V.seq ?_
    refine V.region ?_
    refine V.run T_ok 1 rfl ?_
    refine V.nil ?_
    refine V.tN ?_
    refine V.ret ?_
    refine V.tR ?_
    refine V.bR ?_
    refine V.tR ?_
    refine V.tR ?_
    refine V.bR ?_
    refine V.tR ?_
    rw [show setJ jv n1 n2 n3 = jv by unfold setJ; rw [if_pos (by grind)], show setD dv n1 n2 n3 = dv by unfold setD; rw [if_pos (by grind)], show setE n1 n2 n3 = 71 by unfold setE; rw [if_pos (by grind)]]
    have hok9 := FJ0.ok
    have FJ9 := RJst.mk2 (j := ⟨jv.base, jv.data, jv.l, jv.t, jv.v, jv.b⟩) Fk (FL.mono (D' := (fun i => D i ∨ V.In w.heap.size w42.heap.size i)) (by intro i h; first | exact .inl h | ((try dsimp only [V.In] at h ⊢); first | omega | grind))) (Fd.mono (D' := (fun i => D i ∨ V.In w.heap.size w42.heap.size i)) (by intro i h; first | exact .inl h | ((try dsimp only [V.In] at h ⊢); first | omega | grind))) hok9 (FM.mono (D' := (fun i => D i ∨ V.In w.heap.size w42.heap.size i)) (by intro i h; ((try dsimp only [V.In] at h ⊢); first | omega | grind)) (by intro i h; ((try dsimp only [V.In] at h ⊢); first | omega | grind)) (by (try dsimp only [V.In]); first | omega | grind)) ⟨by (try dsimp only [V.In]); first | omega | grind, hkm⟩
    refine V.done rfl ?_
    exact ⟨(by first | rfl | simp only [List.length_set]), FJ9, HG⟩
   ·
    try replace g6_5_1 := V.dec g6_5_1
    try simp only [V.mk0, V.mk1, V.mk2, V.mk3] at g6_5_1
    refine V.run T_ok 2 rfl ?_
    refine V.yes rfl rfl rfl ?_
    refine V.elem T_ok F3.sl rfl rfl sz3 rfl rfl rfl rfl (by first | omega | (simp only [List.length_take, List.length_drop, List.length_append, List.length_cons, List.length_nil, List.length_replicate, List.length_set, V.length_data, V.S_size]; omega)) (by first | omega | (simp only [List.length_take, List.length_drop, List.length_append, List.length_cons, List.length_nil, List.length_replicate, List.length_set, V.length_data, V.S_size]; omega)) ?_
    rintro b53 o54 cs55 hx56 hb57 hR60 hA58
    obtain ⟨x59, hx59⟩ : ∃ z', ([n1, n2, n3] : List Int)[(0 + 1 : Int).toNat] = z' := ⟨_, rfl⟩
    rw [hx59] at hR60
    obtain rfl := hR60
    try simp only [Int.toNat_natCast] at hx59 hx56
    refine V.yes rfl rfl rfl ?_
    replace hx59 : n2 = x59 := hx59
    subst hx59
    clear hx56
    refine V.loadA T_ok (o0 := o54) (off := 0) hA58 rfl rfl rfl rfl rfl ?_
    refine V.run T_ok 2 rfl ?_
    refine V.nil ?_
    refine V.tN ?_
    refine V.condT rfl (fun h6_1 => ?_) (fun h6_1 => ?_)
    ·
     try replace h6_1 := V.dec h6_1
     try simp only [V.mk0, V.mk1, V.mk2, V.mk3] at h6_1
     refine V.seq ?_
     refine V.region ?_
     refine V.run T_ok 1 rfl ?_
     refine V.nil ?_
     refine V.tN ?_
     refine V.ret ?_
     refine V.tR ?_
     refine V.bR ?_
     refine V.tR ?_
     refine V.tR ?_
     refine V.bR ?_
     refine V.tR ?_
     rw [show setJ jv n1 n2 n3 = jv by unfold setJ; rw [if_pos (by grind)], show setD dv n1 n2 n3 = dv by unfold setD; rw [if_pos (by grind)], show setE n1 n2 n3 = 71 by unfold setE; rw [if_pos (by grind)]]
     have hok9 := FJ0.ok
     have FJ9 := RJst.mk2 (j := ⟨jv.base, jv.data, jv.l, jv.t, jv.v, jv.b⟩) Fk (FL.mono (D' := (fun i => D i ∨ V.In w.heap.size w42.heap.size i)) (by intro i h; first | exact .inl h | ((try dsimp only [V.In] at h ⊢); first | omega | grind))) (Fd.mono (D' := (fun i => D i ∨ V.In w.heap.size w42.heap.size i)) (by intro i h; first | exact .inl h | ((try dsimp only [V.In] at h ⊢); first | omega | grind))) hok9 (FM.mono (D' := (fun i => D i ∨ V.In w.heap.size w42.heap.size i)) (by intro i h; ((try dsimp only [V.In] at h ⊢); first | omega | grind)) (by intro i h; ((try dsimp only [V.In] at h ⊢); first | omega | grind)) (by (try dsimp only [V.In]); first | omega | grind)) ⟨by (try dsimp only [V.In]); first | omega | grind, hkm⟩
     refine V.done rfl ?_
     exact ⟨(by first | rfl | simp only [List.length_set]), FJ9, HG⟩
    ·
     try replace h6_1 := V.dec h6_1
     try simp only [V.mk0, V.mk1, V.mk2, V.mk3] at h6_1
     refine V.skip ?_
     refine V.tN ?_
     have hn2 := numB_len9 (v := n2) (by omega)
     refine V.region ?_
     refine V.run T_ok 3 rfl ?_
     refine V.elem T_ok F3.sl rfl rfl sz3 rfl rfl rfl rfl (by first | omega | (simp only [List.length_take, List.length_drop, List.length_append, List.length_cons, List.length_nil, List.length_replicate, List.length_set, V.length_data, V.S_size]; omega)) (by first | omega | (simp only [List.length_take, List.length_drop, List.length_append, List.length_cons, List.length_nil, List.length_replicate, List.length_set, V.length_data, V.S_size]; omega)) ?_
     rintro b61 o62 cs63 hx64 hb65 hR68 hA66
     obtain ⟨x67, hx67⟩ : ∃ z', ([n1, n2, n3] : List Int)[(0 + 1 : Int).toNat] = z' := ⟨_, rfl⟩
     rw [hx67] at hR68
     obtain rfl := hR68
     try simp only [Int.toNat_natCast] at hx67 hx64
     replace hx67 : n2 = x67 := hx67
     subst hx67
     clear hx64
     refine V.loadA T_ok (o0 := o62) (off := 0) hA66 rfl rfl rfl rfl rfl ?_
     refine V.call (rp_number (v := n2) (by omega)) rfl rfl rfl ?_
     rintro _ w72 ⟨a69, c70, rfl, F71, G73⟩
     have z74 := V.Fr.size G73
     try replace Fk := Fk.gr G73
     try replace FL := FL.gr G73
     try replace Fd := Fd.gr G73
     try replace FM := FM.gr G73
     try replace F3 := F3.gr G73
     try replace F41 := F41.gr G73
     replace HG := HG.grow G73
     clear G73
     generalize hu2 : numB n2.toNat = u2 at F71 hn2 ⊢
     refine V.appendR (F41) (V.From.flat V.flat_byte (D' := V.None') (F71.sl.from Try.underlying22)) elT22_22 rfl rfl rfl rfl rfl (by (first | (simp only [List.length_append, List.length_nil]; omega) | omega)) (by unfold maxLen; (first | (simp only [List.length_append, List.length_nil]; omega) | omega)) (by omega) (by omega) (fun _ h => h.elim) (fun _ h => h.elim) ?_
     rintro a75 c76 w78 G79 - F77
     clear F41
     have z80 := Go.RowKit.Below.size G79
     first | replace Fk := V.Cells.bl Fk G79 (by first | assumption | omega) | clear Fk | skip
     first | replace FL := V.Sl.bl FL G79 (by intro j h; (try dsimp only [V.In] at h ⊢); first | omega | grind) | clear FL | skip
     first | replace Fd := V.Sl.bl Fd G79 (by intro j h; (try dsimp only [V.In] at h ⊢); first | omega | grind) | clear Fd | skip
     first | replace FM := FM.bl1 G79 (by intro j h; (try dsimp only [V.In] at h ⊢); first | omega | grind) | clear FM | skip
     try replace F3 := F3.bm G79
     try replace F71 := F71.bm G79
     replace HG := HG.bl (Go.RowKit.Below.mono G79 (by first | assumption | omega))
     clear G79
     refine V.run T_ok 1 rfl ?_
     refine V.nil ?_
     refine V.bN ?_
     refine V.tN ?_
     have hw0_1 : k < w36.heap.size := by first | assumption | omega
     have hw1_1 : km < w36.heap.size := by first | assumption | omega
     have hw2_1 : w.heap.size ≤ w36.heap.size := by first | assumption | omega
     have hw3_1 : w36.heap.size ≤ w78.heap.size := by first | assumption | omega
     have hw4_1 : k1 < w36.heap.size := by first | assumption | omega
     have hw5_1 : w.heap.size ≤ k1 := by first | assumption | omega
     try clear s6
     try clear s7
     try clear z38
     try clear z44
     try clear z74
     try clear z8
     try clear z80
     clear F71
     refine V.region ?_
     refine V.run T_ok 1 rfl ?_
     refine V.addN rfl rfl rfl rfl rfl (by first | omega | (simp only [List.length_take, List.length_drop, List.length_append, List.length_cons, List.length_nil, List.length_replicate, List.length_set, V.length_data, V.S_size]; omega)) (by first | omega | (simp only [List.length_take, List.length_drop, List.length_append, List.length_cons, List.length_nil, List.length_replicate, List.length_set, V.length_data, V.S_size]; omega)) ?_
     refine V.run T_ok 1 rfl ?_
     refine V.nil ?_
     refine V.tN ?_
     refine V.rnd ?_
     refine V.seq ?_
     refine V.seq ?_
     refine V.region ?_
     refine V.run T_ok 2 rfl ?_
     refine V.nil ?_
     refine V.tN ?_
     refine V.condY rfl rfl ?_
     refine V.skip ?_
     refine V.tN ?_
     refine V.seq ?_
     refine V.block ?_
     refine V.seq ?_
     refine V.seq ?_
     refine V.region ?_
     refine V.run T_ok 2 rfl ?_
     refine V.elem T_ok F3.sl rfl rfl sz3 rfl rfl rfl rfl (by first | omega | (simp only [List.length_take, List.length_drop, List.length_append, List.length_cons, List.length_nil, List.length_replicate, List.length_set, V.length_data, V.S_size]; omega)) (by first | omega | (simp only [List.length_take, List.length_drop, List.length_append, List.length_cons, List.length_nil, List.length_replicate, List.length_set, V.length_data, V.S_size]; omega)) ?_
     rintro b81 o82 cs83 hx84 hb85 hR88 hA86
     obtain ⟨x87, hx87⟩ : ∃ z', ([n1, n2, n3] : List Int)[((0 + 1) + 1 : Int).toNat] = z' := ⟨_, rfl⟩
     rw [hx87] at hR88
     obtain rfl := hR88
     try simp only [Int.toNat_natCast] at hx87 hx84
     replace hx87 : n3 = x87 := hx87
     subst hx87
     clear hx84
     refine V.loadA T_ok (o0 := o82) (off := 0) hA86 rfl rfl rfl rfl rfl ?_
     refine V.run T_ok 2 rfl ?_
     refine V.split (j := 5) (t := 27) rfl rfl (fun g6_5_2 => ?_) (fun g6_5_2 => ?_)
     ·
      try replace g6_5_2 := V.dec g6_5_2
      try simp only [V.mk0, V.mk1, V.mk2, V.mk3] at g6_5_2
      refine V.run T_ok 6 rfl ?_
      refine V.nil ?_
      refine V.tN ?_
      refine V.condY rfl rfl ?_
      refine V.seq ?_
      refine V.region ?_
      refine V.run T_ok 1 rfl ?_
      refine V.nil ?_
      refine V.tN ?_
      refine V.ret ?_
      refine V.tR ?_
      refine V.bR ?_
      refine V.tR ?_
      refine V.tR ?_
      refine V.bR ?_
      refine V.tR ?_
      rw [show setJ jv n1 n2 n3 = jv by unfold setJ; rw [if_pos (by grind)], show setD dv n1 n2 n3 = dv by unfold setD; rw [if_pos (by grind)], show setE n1 n2 n3 = 71 by unfold setE; rw [if_pos (by grind)]]
      have hok9 := FJ0.ok
      have FJ9 := RJst.mk2 (j := ⟨jv.base, jv.data, jv.l, jv.t, jv.v, jv.b⟩) Fk (FL.mono (D' := (fun i => D i ∨ V.In w.heap.size w78.heap.size i)) (by intro i h; first | exact .inl h | ((try dsimp only [V.In] at h ⊢); first | omega | grind))) (Fd.mono (D' := (fun i => D i ∨ V.In w.heap.size w78.heap.size i)) (by intro i h; first | exact .inl h | ((try dsimp only [V.In] at h ⊢); first | omega | grind))) hok9 (FM.mono (D' := (fun i => D i ∨ V.In w.heap.size w78.heap.size i)) (by intro i h; ((try dsimp only [V.In] at h ⊢); first | omega | grind)) (by intro i h; ((try dsimp only [V.In] at h ⊢); first | omega | grind)) (by (try dsimp only [V.In]); first | omega | grind)) ⟨by (try dsimp only [V.In]); first | omega | grind, hkm⟩
      refine V.done rfl ?_
      exact ⟨(by first | rfl | simp only [List.length_set]), FJ9, HG⟩
     ·
      try replace g6_5_2 := V.dec g6_5_2
      try simp only [V.mk0, V.mk1, V.mk2, V.mk3] at g6_5_2
      refine V.run T_ok 2 rfl ?_
      refine V.yes rfl rfl rfl ?_
      refine V.elem T_ok F3.sl rfl rfl sz3 rfl rfl rfl rfl (by first | omega | (simp only [List.length_take, List.length_drop, List.length_append, List.length_cons, List.length_nil, List.length_replicate, List.length_set, V.length_data, V.S_size]; omega)) (by first | omega | (simp only [List.length_take, List.length_drop, List.length_append, List.length_cons, List.length_nil, List.length_replicate, List.length_set, V.length_data, V.S_size]; omega)) ?_
      rintro b89 o90 cs91 hx92 hb93 hR96 hA94
      obtain ⟨x95, hx95⟩ : ∃ z', ([n1, n2, n3] : List Int)[((0 + 1) + 1 : Int).toNat] = z' := ⟨_, rfl⟩
      rw [hx95] at hR96
      obtain rfl := hR96
      try simp only [Int.toNat_natCast] at hx95 hx92
      refine V.yes rfl rfl rfl ?_
      replace hx95 : n3 = x95 := hx95
      subst hx95
      clear hx92
      refine V.loadA T_ok (o0 := o90) (off := 0) hA94 rfl rfl rfl rfl rfl ?_
      refine V.run T_ok 2 rfl ?_
      refine V.nil ?_
      refine V.tN ?_
      refine V.condT rfl (fun h6_2 => ?_) (fun h6_2 => ?_)
      ·
       try replace h6_2 := V.dec h6_2
       try simp only [V.mk0, V.mk1, V.mk2, V.mk3] at h6_2
       refine V.seq ?_
       refine V.region ?_
       refine V.run T_ok 1 rfl ?_
       refine V.nil ?_
       refine V.tN ?_
       refine V.ret ?_
       refine V.tR ?_
       refine V.bR ?_
       refine V.tR ?_
       refine V.tR ?_
       refine V.bR ?_
       refine V.tR ?_
       rw [show setJ jv n1 n2 n3 = jv by unfold setJ; rw [if_pos (by grind)], show setD dv n1 n2 n3 = dv by unfold setD; rw [if_pos (by grind)], show setE n1 n2 n3 = 71 by unfold setE; rw [if_pos (by grind)]]
       have hok9 := FJ0.ok
       have FJ9 := RJst.mk2 (j := ⟨jv.base, jv.data, jv.l, jv.t, jv.v, jv.b⟩) Fk (FL.mono (D' := (fun i => D i ∨ V.In w.heap.size w78.heap.size i)) (by intro i h; first | exact .inl h | ((try dsimp only [V.In] at h ⊢); first | omega | grind))) (Fd.mono (D' := (fun i => D i ∨ V.In w.heap.size w78.heap.size i)) (by intro i h; first | exact .inl h | ((try dsimp only [V.In] at h ⊢); first | omega | grind))) hok9 (FM.mono (D' := (fun i => D i ∨ V.In w.heap.size w78.heap.size i)) (by intro i h; ((try dsimp only [V.In] at h ⊢); first | omega | grind)) (by intro i h; ((try dsimp only [V.In] at h ⊢); first | omega | grind)) (by (try dsimp only [V.In]); first | omega | grind)) ⟨by (try dsimp only [V.In]); first | omega | grind, hkm⟩
       refine V.done rfl ?_
       exact ⟨(by first | rfl | simp only [List.length_set]), FJ9, HG⟩
      ·
       try replace h6_2 := V.dec h6_2
       try simp only [V.mk0, V.mk1, V.mk2, V.mk3] at h6_2
       refine V.skip ?_
       refine V.tN ?_
       have hn3 := numB_len9 (v := n3) (by omega)
       refine V.region ?_
       refine V.run T_ok 3 rfl ?_
       refine V.elem T_ok F3.sl rfl rfl sz3 rfl rfl rfl rfl (by first | omega | (simp only [List.length_take, List.length_drop, List.length_append, List.length_cons, List.length_nil, List.length_replicate, List.length_set, V.length_data, V.S_size]; omega)) (by first | omega | (simp only [List.length_take, List.length_drop, List.length_append, List.length_cons, List.length_nil, List.length_replicate, List.length_set, V.length_data, V.S_size]; omega)) ?_
       rintro b97 o98 cs99 hx100 hb101 hR104 hA102
       obtain ⟨x103, hx103⟩ : ∃ z', ([n1, n2, n3] : List Int)[((0 + 1) + 1 : Int).toNat] = z' := ⟨_, rfl⟩
       rw [hx103] at hR104
       obtain rfl := hR104
       try simp only [Int.toNat_natCast] at hx103 hx100
       replace hx103 : n3 = x103 := hx103
       subst hx103
       clear hx100
       refine V.loadA T_ok (o0 := o98) (off := 0) hA102 rfl rfl rfl rfl rfl ?_
       refine V.call (rp_number (v := n3) (by omega)) rfl rfl rfl ?_
       rintro _ w108 ⟨a105, c106, rfl, F107, G109⟩
       have z110 := V.Fr.size G109
       try replace Fk := Fk.gr G109
       try replace FL := FL.gr G109
       try replace Fd := Fd.gr G109
       try replace FM := FM.gr G109
       try replace F3 := F3.gr G109
       try replace F77 := F77.gr G109
       replace HG := HG.grow G109
       clear G109
       generalize hu3 : numB n3.toNat = u3 at F107 hn3 ⊢
       refine V.appendR (F77) (V.From.flat V.flat_byte (D' := V.None') (F107.sl.from Try.underlying22)) elT22_22 rfl rfl rfl rfl rfl (by (first | (simp only [List.length_append, List.length_nil]; omega) | omega)) (by unfold maxLen; (first | (simp only [List.length_append, List.length_nil]; omega) | omega)) (by omega) (by omega) (fun _ h => h.elim) (fun _ h => h.elim) ?_
       rintro a111 c112 w114 G115 - F113
       clear F77
       have z116 := Go.RowKit.Below.size G115
       first | replace Fk := V.Cells.bl Fk G115 (by first | assumption | omega) | clear Fk | skip
       first | replace FL := V.Sl.bl FL G115 (by intro j h; (try dsimp only [V.In] at h ⊢); first | omega | grind) | clear FL | skip
       first | replace Fd := V.Sl.bl Fd G115 (by intro j h; (try dsimp only [V.In] at h ⊢); first | omega | grind) | clear Fd | skip
       first | replace FM := FM.bl1 G115 (by intro j h; (try dsimp only [V.In] at h ⊢); first | omega | grind) | clear FM | skip
       try replace F3 := F3.bm G115
       try replace F107 := F107.bm G115
       replace HG := HG.bl (Go.RowKit.Below.mono G115 (by first | assumption | omega))
       clear G115
       refine V.run T_ok 1 rfl ?_
       refine V.nil ?_
       refine V.bN ?_
       refine V.tN ?_
       have hw0_2 : k < w36.heap.size := by first | assumption | omega
       have hw1_2 : km < w36.heap.size := by first | assumption | omega
       have hw2_2 : w.heap.size ≤ w36.heap.size := by first | assumption | omega
       have hw3_2 : w36.heap.size ≤ w114.heap.size := by first | assumption | omega
       have hw4_2 : k1 < w36.heap.size := by first | assumption | omega
       have hw5_2 : w.heap.size ≤ k1 := by first | assumption | omega
       try clear s6
       try clear s7
       try clear z110
       try clear z116
       try clear z38
       try clear z44
       try clear z74
       try clear z8
       try clear z80
       clear F107
       refine V.region ?_
       refine V.run T_ok 1 rfl ?_
       refine V.addN rfl rfl rfl rfl rfl (by first | omega | (simp only [List.length_take, List.length_drop, List.length_append, List.length_cons, List.length_nil, List.length_replicate, List.length_set, V.length_data, V.S_size]; omega)) (by first | omega | (simp only [List.length_take, List.length_drop, List.length_append, List.length_cons, List.length_nil, List.length_replicate, List.length_set, V.length_data, V.S_size]; omega)) ?_
       refine V.run T_ok 1 rfl ?_
       refine V.nil ?_
       refine V.tN ?_
       refine V.rnd ?_
       refine V.seq ?_
       refine V.seq ?_
       refine V.region ?_
       refine V.run T_ok 2 rfl ?_
       refine V.nil ?_
       refine V.tN ?_
       refine V.condN rfl rfl ?_
       refine V.exit ?_
       refine V.tX ?_
       refine V.tX ?_
       refine V.bE ?_
       refine V.tN ?_
       refine V.seq ?_
       clear F3
       subst hu1 hu2 hu3
       have hn3l := nums3_len (t := n1) (v := n2) (b := n3) (by omega) (by omega) (by omega)
       have hf0 := frmB_0 hn3l.1 (by omega)
       have hfl := frmB_len (nums3 n1 n2 n3)
       unfold nums3 at hn3l hf0 hfl
       refine V.region ?_
       refine V.run T_ok 1 rfl ?_
       refine V.call (rframe_spec F113.sl (fun k hk => by have := hk.2; omega)) rfl rfl rfl ?_
       rintro _ w120 ⟨a117, c118, rfl, F119, G121⟩
       have z122 := V.Fr.size G121
       try replace Fk := Fk.gr G121
       try replace FL := FL.gr G121
       try replace Fd := Fd.gr G121
       try replace FM := FM.gr G121
       try replace F113 := F113.gr G121
       replace HG := HG.grow G121
       clear G121
       refine V.run T_ok 5 rfl ?_
       refine V.nil ?_
       refine V.tN ?_
       refine V.seq ?_
       refine V.region ?_
       refine V.run T_ok 3 rfl ?_
       refine V.loadO T_ok Fk rfl rfl rfl rfl rfl ?_
       refine V.run T_ok 1 rfl ?_
       refine V.call (rk_set FM F119.sl (by first | omega | (simp only [List.length_take, List.length_drop, List.length_append, List.length_cons, List.length_nil, List.length_replicate, List.length_set, V.length_data, V.S_size]; omega))) rfl rfl rfl ?_
       rintro _ w124 ⟨rfl, F123, G125⟩
       have z126 := V.Fr.size G125
       try replace Fk := Fk.ma G125
       first | replace FL := FL.mv1 G125 (by (try dsimp only [V.In]); first | omega | grind) | clear FL | skip
       first | replace Fd := Fd.mv1 G125 (by (try dsimp only [V.In]); first | omega | grind) | clear Fd | skip
       first | replace FM := FM.mv1 G125 (by (try dsimp only [V.In]); first | omega | grind) | clear FM | skip
       try replace F113 := F113.ma G125
       try replace F119 := F119.ma G125
       replace HG := HG.n1 G125
       clear G125
       refine V.nil ?_
       refine V.tN ?_
       refine V.seq ?_
       refine V.region ?_
       refine V.run T_ok 4 rfl ?_
       refine V.storeO Fk rfl rfl rfl rfl sz3 rfl rfl rfl rfl ?_
       rintro w127 G128 z130 Fs129
       clear Fk
       have z131 := V.Fr.size G128
       first | replace FL := FL.mv1 G128 (by (try dsimp only [V.In]); first | omega | grind) | clear FL | skip
       first | replace Fd := Fd.mv1 G128 (by (try dsimp only [V.In]); first | omega | grind) | clear Fd | skip
       try replace F113 := F113.ma G128
       try replace F119 := F119.ma G128
       first | replace F123 := F123.mv1 G128 (by (try dsimp only [V.In]); first | omega | grind) | clear F123 | skip
       replace HG := HG.n1 G128
       clear G128
       have Fk := Fs129; clear Fs129
       simp only [V.spliceL, V.cellsL] at Fk
       refine V.nil ?_
       refine V.tN ?_
       refine V.seq ?_
       refine V.region ?_
       refine V.run T_ok 4 rfl ?_
       refine V.storeO Fk rfl rfl rfl rfl sz3 rfl rfl rfl rfl ?_
       rintro w132 G133 z135 Fs134
       clear Fk
       have z136 := V.Fr.size G133
       first | replace FL := FL.mv1 G133 (by (try dsimp only [V.In]); first | omega | grind) | clear FL | skip
       first | replace Fd := Fd.mv1 G133 (by (try dsimp only [V.In]); first | omega | grind) | clear Fd | skip
       try replace F113 := F113.ma G133
       try replace F119 := F119.ma G133
       first | replace F123 := F123.mv1 G133 (by (try dsimp only [V.In]); first | omega | grind) | clear F123 | skip
       replace HG := HG.n1 G133
       clear G133
       have Fk := Fs134; clear Fs134
       simp only [V.spliceL, V.cellsL] at Fk
       refine V.nil ?_
       refine V.tN ?_
       refine V.seq ?_
       refine V.region ?_
       refine V.run T_ok 4 rfl ?_
       refine V.storeO Fk rfl rfl rfl rfl sz3 rfl rfl rfl rfl ?_
       rintro w137 G138 z140 Fs139
       clear Fk
       have z141 := V.Fr.size G138
       first | replace FL := FL.mv1 G138 (by (try dsimp only [V.In]); first | omega | grind) | clear FL | skip
       first | replace Fd := Fd.mv1 G138 (by (try dsimp only [V.In]); first | omega | grind) | clear Fd | skip
       try replace F113 := F113.ma G138
       try replace F119 := F119.ma G138
       first | replace F123 := F123.mv1 G138 (by (try dsimp only [V.In]); first | omega | grind) | clear F123 | skip
       replace HG := HG.n1 G138
       clear G138
       have Fk := Fs139; clear Fs139
       simp only [V.spliceL, V.cellsL] at Fk
       refine V.nil ?_
       refine V.tN ?_
       refine V.seq ?_
       refine V.region ?_
       refine V.run T_ok 1 rfl ?_
       refine V.nil ?_
       refine V.tN ?_
       refine V.ret ?_
       have hd9 : dSet dv (frmB (numB n1.toNat ++ numB n2.toNat ++ numB n3.toNat)).1 = { dv with nc := (frmB (numB n1.toNat ++ numB n2.toNat ++ numB n3.toNat)).1 } := by unfold dSet; rw [if_neg (by omega)]
       rw [hd9] at F123
       rw [show setJ jv n1 n2 n3 = { jv with t := n1, v := n2, b := n3 } by unfold setJ; rw [if_neg (by grind)], show setD dv n1 n2 n3 = { dv with nc := (frmB (numB n1.toNat ++ numB n2.toNat ++ numB n3.toNat)).1 } by unfold setD; rw [if_neg (by grind)]; rfl, show setE n1 n2 n3 = 0 by unfold setE; rw [if_neg (by grind)]]
       have FJ9 := RJst.mk2 (j := ⟨jv.base, jv.data, jv.l, n1, n2, n3⟩) Fk (FL.mono (D' := (fun i => D i ∨ V.In w.heap.size w137.heap.size i)) (by intro i h; first | exact .inl h | ((try dsimp only [V.In] at h ⊢); first | omega | grind))) (Fd.mono (D' := (fun i => D i ∨ V.In w.heap.size w137.heap.size i)) (by intro i h; first | exact .inl h | ((try dsimp only [V.In] at h ⊢); first | omega | grind))) ⟨hb0, hb1, hll, hdl, hel⟩ (F123.mono (D' := (fun i => D i ∨ V.In w.heap.size w137.heap.size i)) (by intro i h; ((try dsimp only [V.In] at h ⊢); first | omega | grind)) (by intro i h; ((try dsimp only [V.In] at h ⊢); first | omega | grind)) (by (try dsimp only [V.In]); first | omega | grind)) ⟨by (try dsimp only [V.In]); first | omega | grind, hkm⟩
       refine V.done rfl ?_
       exact ⟨(by first | rfl | simp only [List.length_set]), FJ9, HG⟩

end Go.Proofs.Ytnbijpijbhkcpaa
