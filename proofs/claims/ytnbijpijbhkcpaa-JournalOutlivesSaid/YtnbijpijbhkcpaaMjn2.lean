/- Proved here: walks: what functions of this seat's program return and what they leave of memory, each as a contract. Conditions: stated at each theorem. -/
import Derived.Test.YtnbijpijbhkcpaaMjn
namespace Go.Proofs.Ytnbijpijbhkcpaa
set_option linter.unusedVariables false
set_option linter.unusedSimpArgs false
open Go
open V (Bytes Meets Env Sl Own Gr Fr Cells S)
/-! ### A journal with its disk -/
theorem V.FrE.ofBl {b : Nat} {w w' : World} (f : V.Bl b w w') : V.FrE (fun i => b ≤ i) w w' := ⟨_, f.asFr, fun i hi => by simp at hi; omega⟩
theorem Dsk.re {w w' : World} {k : Nat} {D D' X : Nat → Prop} {d : DiskV} (h : Dsk w k D d) (f : V.FrE X w w') (hn : ∀ j, X j → j ≠ k ∧ ¬ (D j ∧ j < w.heap.size)) (hD : ∀ j, D j → j < w.heap.size → D' j) (hk : ¬ D' k) (hnw : ∀ j, w'.heap.size ≤ j → D' j) : Dsk w' k D' d :=
  let ⟨h1, h2, a0, c0, a1, c1, a2, c2, a3, c3, h3, h4, h5, h6, h7⟩ := h.ex
  have m : ∀ j, D j ∧ j < w.heap.size → D' j := fun j hj => hD j hj.1 hj.2
  ⟨⟨hk, hnw, a0, c0, a1, c1, a2, c2, a3, c3, h3.mvE f (fun hX => (hn k hX).1 rfl), (h4.flb.mvE f (fun j hj => (hn j hj).2)).mono m, (h5.flb.mvE f (fun j hj => (hn j hj).2)).mono m, (h6.flb.mvE f (fun j hj => (hn j hj).2)).mono m, (h7.flb.mvE f (fun j hj => (hn j hj).2)).mono m⟩, h.small⟩
/-- at block k a disk; what it has lies in D's blocks -/
structure Dk (w : World) (k : Nat) (D : Nat → Prop) (d : DiskV) : Prop where
  nk : ¬ D k
  lt : ∀ i, D i → i < w.heap.size
  ds : Dsk w k (fun i => D i ∨ w.heap.size ≤ i) d
section
variable {w w' : World} {k kd : Nat} {D D' E X EJ : Nat → Prop} {d d' : DiskV} {j : JV}
theorem Dk.klt (h : Dk w k D d) : k < w.heap.size := h.ds.lt
theorem Dk.mvE (h : Dk w k D d) (f : V.FrE X w w') (hn : ∀ i, X i → ¬ (i = k ∨ D i)) : Dk w' k D d := by
  have hk := h.klt
  have hs := V.FrE.size f
  refine ⟨h.nk, fun i hi => Nat.lt_of_lt_of_le (h.lt i hi) hs, h.ds.re f (fun i hi => ⟨fun e => hn i hi (.inl e), fun hd => hn i hi (.inr (hd.1.elim id (fun h2 => absurd hd.2 (Nat.not_lt_of_le h2))))⟩) (fun i hi hl => hi.elim .inl (fun h2 => absurd hl (Nat.not_lt_of_le h2))) (fun hd => hd.elim h.nk (fun h2 => by omega)) (fun i hi => .inr hi)⟩
theorem Dk.gr (h : Dk w k D d) (f : Gr w w') : Dk w' k D d := h.mvE (X := fun _ => False) (V.FrE.ofGr f) (fun _ h => h.elim)
theorem Dk.mv1 {i : Nat} (h : Dk w k D d) (f : Fr [i] w w') (hn : ¬ (i = k ∨ D i)) : Dk w' k D d := h.mvE (X := fun j => j = i) (V.FrE.of1 f rfl) (fun j hj => hj ▸ hn)
theorem Dk.bl1 {b : Nat} (h : Dk w k D d) (f : V.Bl b w w') (hn : ∀ j, (j = k ∨ D j) → j < b) : Dk w' k D d := h.mvE (V.FrE.ofBl f) (fun i hi hd => absurd (hn i hd) (Nat.not_lt_of_le hi))
theorem Dk.of (h : Dsk w' k (fun i => D i ∨ w.heap.size ≤ i) d') (g : Dk w k D d) (hs : w.heap.size ≤ w'.heap.size) : Dk w' k (fun i => D i ∨ V.In w.heap.size w'.heap.size i) d' := by
  have hk := g.klt
  refine ⟨fun h2 => h2.elim g.nk (fun h3 => by have := h3.1; omega), fun i hi => hi.elim (fun h2 => Nat.lt_of_lt_of_le (g.lt i h2) hs) (fun h2 => h2.2), h.mono (fun i hi => ?_) (fun h2 => ?_)⟩
  · rcases hi with h2 | h2
    · exact .inl (.inl h2)
    · rcases Nat.lt_or_ge i w'.heap.size with h3 | h3
      · exact .inl (.inr ⟨h2, h3⟩)
      · exact .inr h3
  · rcases h2 with (h2 | h2) | h2
    · exact g.nk h2
    · have := h2.1; omega
    · omega
theorem Dk.mono (h : Dk w k D d) (h1 : ∀ i, D i → D' i) (h2 : ∀ i, D' i → i < w.heap.size) (h3 : ¬ D' k) : Dk w k D' d := by
  have hk := h.klt
  exact ⟨h3, h2, h.ds.mono (fun i hi => hi.imp (h1 i) id) (fun hd => hd.elim h3 (fun h2 => by omega))⟩
/-- a new disk, out of what is said of it where it is made -/
theorem Dk.new (h : Dsk w k D' d) (hD : ∀ i, D' i → i < w.heap.size → D i) (hk : ¬ D k) (hl : ∀ i, D i → i < w.heap.size) : Dk w k D d := by
  have := h.lt
  refine ⟨hk, hl, h.re (X := fun _ => False) (V.FrE.refl _ w) (fun _ h => h.elim) (fun i hi hl2 => .inl (hD i hi hl2)) (fun hd => hd.elim hk (fun h2 => by omega)) (fun i hi => .inr hi)⟩
theorem Dk.small (h : Dk w k D d) : d.sf.length ≤ 16777216 ∧ d.sc.length ≤ 16777216 ∧ d.nf.length ≤ 16777216 ∧ d.nc.length ≤ 16777216 := h.ds.small
/-- at block k a journal of the disk at block kd; all their blocks are EJ's -/
structure Jst (w : World) (k kd : Nat) (EJ : Nat → Prop) (j : JV) (d : DiskV) : Prop where
  lt : ∀ i, EJ i → i < w.heap.size
  ex : ∃ E D : Nat → Prop, Jn w k kd E j ∧ Dk w kd D d ∧ ((∀ i, E i → ¬ D i) ∧ ¬ E kd) ∧ (∀ i, E i → EJ i) ∧ (∀ i, D i → EJ i) ∧ EJ kd
theorem Jst.mvE (h : Jst w k kd EJ j d) (f : V.FrE X w w') (hn : ∀ i, X i → ¬ EJ i) : Jst w' k kd EJ j d :=
  let ⟨E, D, h1, h2, h3, h4, h5, h6⟩ := h.ex
  ⟨fun i hi => Nat.lt_of_lt_of_le (h.lt i hi) (V.FrE.size f), E, D, h1.mvE f (fun i hi hE => hn i hi (h4 i hE)), h2.mvE f (fun i hi hD => hn i hi (hD.elim (fun e => e ▸ h6) (h5 i))), h3, h4, h5, h6⟩
theorem Jst.gr (h : Jst w k kd EJ j d) (f : Gr w w') : Jst w' k kd EJ j d := h.mvE (X := fun _ => False) (V.FrE.ofGr f) (fun _ h => h.elim)
theorem Jst.mv1 {i : Nat} (h : Jst w k kd EJ j d) (f : Fr [i] w w') (hn : ¬ EJ i) : Jst w' k kd EJ j d := h.mvE (X := fun j => j = i) (V.FrE.of1 f rfl) (fun j hj => hj ▸ hn)
theorem Jst.bl1 {b : Nat} (h : Jst w k kd EJ j d) (f : V.Bl b w w') (hn : ∀ j, EJ j → j < b) : Jst w' k kd EJ j d := h.mvE (V.FrE.ofBl f) (fun i hi hd => absurd (hn i hd) (Nat.not_lt_of_le hi))
theorem Jst.mono (h : Jst w k kd EJ j d) (h1 : ∀ i, EJ i → X i) (h2 : ∀ i, X i → i < w.heap.size) : Jst w k kd X j d :=
  let ⟨E, D, h3, h4, h5, h6, h7, h8⟩ := h.ex; ⟨h2, E, D, h3, h4, h5, fun i hi => h1 i (h6 i hi), fun i hi => h1 i (h7 i hi), h1 _ h8⟩
theorem Jst.ok (h : Jst w k kd EJ j d) : JOk j := let ⟨_, _, h1, _⟩ := h.ex; h1.ok
theorem Jst.klt (h : Jst w k kd EJ j d) : k < w.heap.size := let ⟨_, _, h1, _⟩ := h.ex; h1.klt
theorem Jst.ek (h : Jst w k kd EJ j d) : EJ k ∧ EJ kd := let ⟨_, _, h1, _, _, h4, _, h6⟩ := h.ex; ⟨h4 k h1.ek, h6⟩
theorem Jst.small (h : Jst w k kd EJ j d) : d.sf.length ≤ 16777216 ∧ d.sc.length ≤ 16777216 ∧ d.nf.length ≤ 16777216 ∧ d.nc.length ≤ 16777216 := let ⟨_, _, _, h2, _⟩ := h.ex; h2.small
/-- the disk alone -/
theorem Jst.dk (h : Jst w k kd EJ j d) : Dk w kd (fun i => EJ i ∧ i ≠ kd) d :=
  let ⟨E, D, h3, h4, h5, h6, h7, h8⟩ := h.ex
  h4.mono (fun i hi => ⟨h7 i hi, fun e => h4.nk (e ▸ hi)⟩) (fun i hi => h.lt i hi.1) (fun h => h.2 rfl)
end
theorem Jst.mk2 {w : World} {k kd : Nat} {E D EJ : Nat → Prop} {j : JV} {d : DiskV} (FX : Jn w k kd E j) (FD : Dk w kd D d) (h1 : (∀ i, E i → ¬ D i) ∧ ¬ E kd) (h2 : ∀ i, E i → EJ i) (h3 : ∀ i, D i → EJ i) (h4 : EJ kd) (h5 : ∀ i, EJ i → i < w.heap.size) : Jst w k kd EJ j d := ⟨h5, E, D, FX, FD, h1, h2, h3, h4⟩
theorem frmB_len (b : List UInt8) : (frmB b).1.length ≤ b.length + 8 := by
  unfold frmB
  split
  · exact Nat.zero_le _
  · dsimp only
    rw [List.length_append, List.length_append, fourI_len, fourI_len]
    omega
/-- the bytes of the changes -/
def chA (b : List UInt8) : List UInt8 := numB 1 ++ textB b
def chC (n : Int) : List UInt8 := numB 2 ++ numB n.toNat
def chR (n : Int) (b : List UInt8) : List UInt8 := numB 3 ++ numB n.toNat ++ textB b
def nums3 (t v b : Int) : List UInt8 := numB t.toNat ++ numB v.toNat ++ numB b.toNat
def appJ (j : JV) (d : DiskV) (b : List UInt8) : JV := if 65516 < b.length then j else doesJ j d (chA b)
def appD (d : DiskV) (b : List UInt8) : DiskV := if 65516 < b.length then d else doesD d (chA b)
def appE (j : JV) (d : DiskV) (b : List UInt8) : Int := if 65516 < b.length then 71 else doesE j d (chA b)
abbrev cutBad (j : JV) (n : Int) : Prop := n < j.base ∨ j.base + j.l.length < n
def cutJ (j : JV) (d : DiskV) (n : Int) : JV := if cutBad j n then j else doesJ j d (chC (n - j.base))
def cutD (j : JV) (d : DiskV) (n : Int) : DiskV := if cutBad j n then d else doesD d (chC (n - j.base))
def cutE (j : JV) (d : DiskV) (n : Int) : Int := if cutBad j n then 71 else doesE j d (chC (n - j.base))
abbrev rebBad (n : Int) (b : List UInt8) : Prop := (n < 0 ∨ 1099511627776 < n) ∨ 65516 < b.length
def rebJ (j : JV) (d : DiskV) (n : Int) (b : List UInt8) : JV := if rebBad n b then j else doesJ j d (chR n b)
def rebD (d : DiskV) (n : Int) (b : List UInt8) : DiskV := if rebBad n b then d else doesD d (chR n b)
def rebE (j : JV) (d : DiskV) (n : Int) (b : List UInt8) : Int := if rebBad n b then 71 else doesE j d (chR n b)
abbrev setBad (t v b : Int) : Prop := ((t < 0 ∨ 1099511627776 < t) ∨ (v < 0 ∨ 1099511627776 < v)) ∨ (b < 0 ∨ 1099511627776 < b)
def setJ (j : JV) (t v b : Int) : JV := if setBad t v b then j else { j with t := t, v := v, b := b }
def setD (d : DiskV) (t v b : Int) : DiskV := if setBad t v b then d else { d with nc := (frmB (nums3 t v b)).1 }
def setE (t v b : Int) : Int := if setBad t v b then 71 else 0
theorem takeV_ok' {j : JV} {x : List UInt8} (h : JOk j) (hl : j.l.length + 1 ≤ 1000000) : JOk ((takeV j x).getD j) := by
  cases he : takeV j x with
  | none => exact h
  | some j' => exact (takeV_ok h hl he).1
theorem takeV_len' {j : JV} {x : List UInt8} (h : JOk j) (hl : j.l.length + 1 ≤ 1000000) : ((takeV j x).getD j).l.length ≤ j.l.length + 1 := by
  cases he : takeV j x with
  | none => exact Nat.le_succ _
  | some j' => exact (takeV_ok h hl he).2
theorem frmB_0 {b : List UInt8} (h : 0 < b.length) (h2 : b.length ≤ 65536) : (frmB b).2 = 0 := by unfold frmB; rw [if_neg (by omega)]
theorem nums3_len {t v b : Int} (h1 : t ≤ 9223372036854775807) (h2 : v ≤ 9223372036854775807) (h3 : b ≤ 9223372036854775807) : 0 < (nums3 t v b).length ∧ (nums3 t v b).length ≤ 27 := by
  have hn1 := numB_len9 h1
  have hn2 := numB_len9 h2
  have hn3 := numB_len9 h3
  have := numB_pos t.toNat
  unfold nums3
  rw [List.length_append, List.length_append]
  omega


theorem wholeB_len (c : List UInt8) : (wholeB c).1.length ≤ c.length := by
  unfold wholeB
  split
  · split
    · dsimp only; omega
    · exact Nat.zero_le _
  · exact Nat.zero_le _

set_option maxHeartbeats 900000 in
set_option maxRecDepth 10000 in
theorem numbers_spec {w : World}  {n1 : Int} {n2 : Int} {n3 : Int} (n1h : n1 ≤ 9223372036854775807) (n2h : n2 ≤ 9223372036854775807) (n3h : n3 ≤ 9223372036854775807) :
    Meets Try.prog 59 [.agg #[.int .i64 n1, .int .i64 n2, .int .i64 n3]] w fun r w' => ∃ (ra45 : Option Addr) (rc45 : Nat), r = .slice ra45 (numB n1.toNat ++ numB n2.toNat ++ numB n3.toNat).length rc45 ∧ V.Row V.Cod.byte 5 w' V.None' w.heap.size w'.heap.size ra45 rc45 (numB n1.toNat ++ numB n2.toNat ++ numB n3.toNat) ∧ Gr w w' := by
 have hn1 := numB_len9 n1h
 have hn2 := numB_len9 n2h
 have hn3 := numB_len9 n3h
 have HG := V.Fr.refl [] w
 refine V.enter (n := 12) Try.func59 rfl rfl (by decide) rfl ?_
 refine V.seq ?_
 refine V.region ?_
 refine V.box rfl rfl rfl rfl ?_
 rintro k1 w3 s5 s6 G4 Fk2
 have z7 := V.Fr.size G4
 replace HG := HG.grow G4
 clear G4
 try simp only [V.cellsL, V.spliceL] at Fk2
 refine V.run T_ok 1 rfl ?_
 refine V.nil ?_
 refine V.tN ?_
 refine V.seq ?_
 refine V.drawGT 8 (V.sel [(2, (fun v wz => ∃ (ra2 : Option Addr) (rc2 : Nat), v = .slice ra2 (([]) ++ numB n1.toNat).length rc2 ∧ V.Row V.Cod.byte 5 wz V.None' w3.heap.size wz.heap.size ra2 rc2 (([]) ++ numB n1.toNat))), (5, (fun v wz => ∃ (ra2 : Option Addr) (rc2 : Nat), v = .slice ra2 ((([]) ++ numB n1.toNat) ++ numB n2.toNat).length rc2 ∧ V.Row V.Cod.byte 5 wz V.None' w3.heap.size wz.heap.size ra2 rc2 ((([]) ++ numB n1.toNat) ++ numB n2.toNat)))]) mixed (by kernel_rfl) (V.mono_cons (by rintro v wz wz' g ⟨ra2, rc2, rfl, rF2⟩; exact ⟨ra2, rc2, rfl, (by first | exact (rF2.gr g).mono (V.In.sub (Nat.le_refl _) g.size) | exact rF2.gr g | exact (rF2.gr g).mono (fun _ h => h) (Nat.le_refl _) g.size | exact (rF2.gr g).mono (fun k h => ⟨h.1, Nat.lt_of_lt_of_le h.2 g.size⟩))⟩) (V.mono_cons (by rintro v wz wz' g ⟨ra2, rc2, rfl, rF2⟩; exact ⟨ra2, rc2, rfl, (by first | exact (rF2.gr g).mono (V.In.sub (Nat.le_refl _) g.size) | exact rF2.gr g | exact (rF2.gr g).mono (fun _ h => h) (Nat.le_refl _) g.size | exact (rF2.gr g).mono (fun k h => ⟨h.1, Nat.lt_of_lt_of_le h.2 g.size⟩))⟩) V.mono_nil)) ?_
 refine V.grun T_ok 1 rfl (V.sel_none rfl) ?_
 refine V.gloadO T_ok (fun w' h => Fk2.gr h.1) rfl rfl rfl rfl rfl rfl ?_
 refine V.gcall (fun w' h => (p_number (v := n1) (Sl.nil _ _ V.None' _ _ (Nat.zero_le _)) (fun _ h => h.elim) (by first | omega | (simp only [List.length_take, List.length_drop, List.length_append, List.length_cons, List.length_nil, List.length_replicate, List.length_set, V.length_data, V.S_size]; omega)) (by omega)).mono (by rintro v w'' ⟨ra2, rc2, rfl, rF2, G⟩; exact ⟨⟨ra2, rc2, rfl, (by first | exact rF2.mono (V.In.mono_l h.1.size) | exact rF2 | exact rF2.mono (fun _ h => h) h.1.size (Nat.le_refl _))⟩, G⟩)) rfl rfl rfl rfl ?_
 rintro _ w11 - - ⟨a8, c9, rfl, -⟩
 refine V.grun T_ok 1 rfl (V.sel_none rfl) ?_
 refine V.gloadO T_ok (fun w' h => Fk2.gr h.1) rfl rfl rfl rfl rfl rfl ?_
 refine V.gcall (fun w' h => (p_number (v := n2) (by obtain ⟨_, _, he, F0⟩ := (V.Hist.here (h.get (i := 2) rfl)); cases he; exact F0.sl) (fun k hk => by have := Fr.size h.1; have := hk.2; omega) (by first | omega | (simp only [List.length_take, List.length_drop, List.length_append, List.length_cons, List.length_nil, List.length_replicate, List.length_set, V.length_data, V.S_size]; omega)) (by omega)).mono (by rintro v w'' ⟨ra2, rc2, rfl, rF2, G⟩; exact ⟨⟨ra2, rc2, rfl, (by first | exact rF2.mono (V.In.mono_l h.1.size) | exact rF2 | exact rF2.mono (fun _ h => h) h.1.size (Nat.le_refl _))⟩, G⟩)) rfl rfl rfl rfl ?_
 rintro _ w15 - - ⟨a12, c13, rfl, -⟩
 refine V.grun T_ok 1 rfl (V.sel_none rfl) ?_
 refine V.gloadO T_ok (fun w' h => Fk2.gr h.1) rfl rfl rfl rfl rfl rfl ?_
 refine V.gnil ?_
 rintro w16 G17 hH18
 have z19 := V.Fr.size G17
 try replace Fk2 := Fk2.gr G17
 replace HG := HG.grow G17
 clear G17
 have F10 : V.Row V.Cod.byte 5 w16 V.None' w3.heap.size w16.heap.size a8 c9 (([]) ++ numB n1.toNat) := by
   obtain ⟨_, _, he, F0⟩ := (V.Hist.here (V.Hist.old (hH18 2)))
   cases he
   exact F0
 have F14 : V.Row V.Cod.byte 5 w16 V.None' w3.heap.size w16.heap.size a12 c13 ((([]) ++ numB n1.toNat) ++ numB n2.toNat) := by
   obtain ⟨_, _, he, F0⟩ := (V.Hist.here (hH18 5))
   cases he
   exact F0
 clear hH18
 refine V.call (p_number (v := n3) F14.sl (fun k hk => by have := hk.2; omega) (by first | omega | (simp only [List.length_take, List.length_drop, List.length_append, List.length_cons, List.length_nil, List.length_replicate, List.length_set, V.length_data, V.S_size]; omega)) (by omega)) rfl rfl rfl ?_
 rintro _ w23 ⟨a20, c21, rfl, F22, G24⟩
 have z25 := V.Fr.size G24
 try replace Fk2 := Fk2.gr G24
 try replace F10 := F10.gr G24
 try replace F14 := F14.gr G24
 replace HG := HG.grow G24
 clear G24
 refine V.run T_ok 1 rfl ?_
 refine V.nil ?_
 refine V.tN ?_
 refine V.ret ?_
 refine V.done rfl ?_
 exact ⟨a20, c21, (by first | rfl | simp only [List.length_set]), F22.re, HG⟩

set_option maxHeartbeats 900000 in
set_option maxRecDepth 10000 in
theorem hard_spec {w : World}  {D_c : Nat → Prop} {c_c : Nat} {a_c : Option Addr} {c : List UInt8} (F_c : Sl V.Cod.byte w D_c a_c c_c c) (hD_c : ∀ k, D_c k → k < w.heap.size) (hl : c.length ≤ 140737488355328) :
    Meets Try.prog 40 [.slice a_c c.length c_c] w fun r w' => ∃ (rt : Int) (rv : Int) (rb : Int), r = .tuple #[.agg #[.int .i64 rt, .int .i64 rv, .int .i64 rb], .bool (hardV c).isSome] ∧ (∀ z, hardV c = some z → z = (rt, rv, rb)) ∧ Gr w w' := by
 have hwl := wholeB_len c
 have HG := V.Fr.refl [] w
 refine V.enter (n := 48) Try.func40 rfl rfl (by decide) rfl ?_
 refine V.seq ?_
 refine V.region ?_
 refine V.alloc zero47 rfl rfl rfl ?_
 rintro k1 w3 s5 s6 G4 Fk2
 have z7 := V.Fr.size G4
 try replace F_c := F_c.gr G4
 replace HG := HG.grow G4
 clear G4
 try simp only [V.cellsL, V.spliceL] at Fk2
 refine V.run T_ok 1 rfl ?_
 refine V.nil ?_
 refine V.tN ?_
 refine V.seq ?_
 refine V.seq ?_
 refine V.region ?_
 refine V.run T_ok 3 rfl ?_
 refine V.nil ?_
 refine V.tN ?_
 refine V.condT rfl (fun h1 => ?_) (fun h1 => ?_)
 ·
  try replace h1 := V.dec h1
  try simp only [V.mk0, V.mk1, V.mk2, V.mk3] at h1
  refine V.seq ?_
  refine V.region ?_
  refine V.mkStruct T_ok zero47 rfl rfl rfl rfl rfl ?_
  refine V.storeO Fk2 rfl rfl rfl rfl sz47 rfl rfl rfl rfl ?_
  rintro w8 G9 z11 Fs10
  clear Fk2
  have z12 := V.Fr.size G9
  try replace F_c := F_c.mb G9 hD_c
  replace HG := HG.n1 G9
  clear G9
  have Fk2 := Fs10; clear Fs10
  simp only [V.spliceL, V.cellsL] at Fk2
  refine V.run T_ok 1 rfl ?_
  refine V.nil ?_
  refine V.tN ?_
  refine V.ret ?_
  refine V.tR ?_
  refine V.done2 rfl (V.resV_cell T_ok Fk2 rfl rfl) (V.resV_tmp rfl) ?_
  have hhv : hardV c = some (0, 0, 0) := by unfold hardV; rw [if_pos (List.length_eq_zero_iff.1 (by omega))]
  exact ⟨_, _, _, (by rw [hhv]; first | rfl | (refine congrArg (fun b_ => Value.tuple #[.agg #[.int .i64 (rdN (wholeB c).1 1099511627776).1.1, .int .i64 (rdN (rdN (wholeB c).1 1099511627776).2 1099511627776).1.1, .int .i64 (rdN (rdN (rdN (wholeB c).1 1099511627776).2 1099511627776).2 1099511627776).1.1], .bool b_]) ?_; by_cases hxe : (rdN (rdN (rdN (wholeB c).1 1099511627776).2 1099511627776).2 1099511627776).2 = [] <;> simp [hxe])), (by intro z hz; rw [hhv] at hz; first | (cases hz; done) | (cases hz; rfl) | (split at hz <;> cases hz; rfl)), HG⟩
 ·
  try replace h1 := V.dec h1
  try simp only [V.mk0, V.mk1, V.mk2, V.mk3] at h1
  refine V.skip ?_
  refine V.tN ?_
  refine V.seq ?_
  refine V.region ?_
  refine V.run T_ok 1 rfl ?_
  refine V.call (whole_spec F_c (fun k hk => by have := hD_c k hk; omega)) rfl rfl rfl ?_
  rintro _ w16 ⟨a13, c14, rfl, F15, G17⟩
  have z18 := V.Fr.size G17
  try replace F_c := F_c.gr G17
  try replace Fk2 := Fk2.gr G17
  replace HG := HG.grow G17
  clear G17
  refine V.run T_ok 5 rfl ?_
  refine V.nil ?_
  refine V.tN ?_
  refine V.seq ?_
  refine V.seq ?_
  refine V.region ?_
  refine V.run T_ok 2 rfl ?_
  refine V.nil ?_
  refine V.tN ?_
  refine V.condT rfl (fun h4 => ?_) (fun h4 => ?_)
  ·
   try replace h4 := V.dec h4
   try simp only [V.mk0, V.mk1, V.mk2, V.mk3] at h4
   refine V.seq ?_
   refine V.region ?_
   refine V.mkStruct T_ok zero47 rfl rfl rfl rfl rfl ?_
   refine V.storeO Fk2 rfl rfl rfl rfl sz47 rfl rfl rfl rfl ?_
   rintro w19 G20 z22 Fs21
   clear Fk2
   have z23 := V.Fr.size G20
   try replace F_c := F_c.mb G20 hD_c
   try replace F15 := F15.ma G20
   replace HG := HG.n1 G20
   clear G20
   have Fk2 := Fs21; clear Fs21
   simp only [V.spliceL, V.cellsL] at Fk2
   refine V.run T_ok 1 rfl ?_
   refine V.nil ?_
   refine V.tN ?_
   refine V.ret ?_
   refine V.tR ?_
   refine V.done2 rfl (V.resV_cell T_ok Fk2 rfl rfl) (V.resV_tmp rfl) ?_
   have hhv : hardV c = none := by unfold hardV; rw [if_neg (fun h => by rw [h] at h1; exact h1 rfl), if_neg (by grind)]
   exact ⟨_, _, _, (by rw [hhv]; first | rfl | (refine congrArg (fun b_ => Value.tuple #[.agg #[.int .i64 (rdN (wholeB c).1 1099511627776).1.1, .int .i64 (rdN (rdN (wholeB c).1 1099511627776).2 1099511627776).1.1, .int .i64 (rdN (rdN (rdN (wholeB c).1 1099511627776).2 1099511627776).2 1099511627776).1.1], .bool b_]) ?_; by_cases hxe : (rdN (rdN (rdN (wholeB c).1 1099511627776).2 1099511627776).2 1099511627776).2 = [] <;> simp [hxe])), (by intro z hz; rw [hhv] at hz; first | (cases hz; done) | (cases hz; rfl) | (split at hz <;> cases hz; rfl)), HG⟩
  ·
   try replace h4 := V.dec h4
   try simp only [V.mk0, V.mk1, V.mk2, V.mk3] at h4
   refine V.skip ?_
   refine V.tN ?_
   refine V.seq ?_
   refine V.region ?_
   refine V.alloc zero47 rfl rfl rfl ?_
   rintro k24 w26 s28 s29 G27 Fk25
   have z30 := V.Fr.size G27
   try replace F_c := F_c.gr G27
   try replace Fk2 := Fk2.gr G27
   try replace F15 := F15.gr G27
   replace HG := HG.grow G27
   clear G27
   try simp only [V.cellsL, V.spliceL] at Fk25
   refine V.nil ?_
   refine V.tN ?_
   refine V.seq ?_
   refine V.region ?_
   refine V.run T_ok 1 rfl ?_
   refine V.call (p_open F15.sl (fun k hk => by have := hk.2; omega) (by first | omega | (simp only [List.length_take, List.length_drop, List.length_append, List.length_cons, List.length_nil, List.length_replicate, List.length_set, V.length_data, V.S_size]; omega))) rfl rfl rfl ?_
   rintro _ w34 ⟨k31, rfl, ⟨h32l, h32u⟩, F33, G35⟩
   have z36 := V.Fr.size G35
   try replace F_c := F_c.gr G35
   try replace Fk2 := Fk2.gr G35
   try replace F15 := F15.gr G35
   try replace Fk25 := Fk25.gr G35
   replace HG := HG.grow G35
   clear G35
   refine V.run T_ok 1 rfl ?_
   refine V.nil ?_
   refine V.tN ?_
   refine V.seq ?_
   refine V.seq ?_
   refine V.region ?_
   refine V.run T_ok 3 rfl ?_
   refine V.mkSlice T_ok zero98 rfl rfl sz98 rfl rfl rfl rfl rfl rfl ?_
   rintro k37 w40 s42 s43 G41 Fk38
   have z44 := V.Fr.size G41
   try replace F_c := F_c.gr G41
   try replace Fk2 := Fk2.gr G41
   try replace F15 := F15.gr G41
   try replace Fk25 := Fk25.gr G41
   try replace F33 := F33.gr G41
   replace HG := HG.grow G41
   clear G41
   refine V.run T_ok 2 rfl ?_
   refine V.nil ?_
   refine V.tN ?_
   refine V.block ?_
   refine V.loopR 4 ?_
   refine V.rnd ?_
   refine V.seq ?_
   refine V.region ?_
   refine V.run T_ok 1 rfl ?_
   refine V.nil ?_
   refine V.tN ?_
   refine V.seq ?_
   refine V.condY rfl rfl ?_
   refine V.skip ?_
   refine V.tN ?_
   refine V.seq ?_
   refine V.block ?_
   refine V.seq ?_
   refine V.region ?_
   refine V.step rfl rfl (V.elem_run T_ok rfl rfl sz98 rfl rfl (by decide) (by decide) _) ?_
   refine V.loadO T_ok Fk38 rfl rfl rfl rfl rfl ?_
   refine V.run T_ok 1 rfl ?_
   refine V.nil ?_
   refine V.tN ?_
   refine V.seq ?_
   refine V.region ?_
   refine V.run T_ok 2 rfl ?_
   refine V.call (rd_number (most := 1099511627776) F33) rfl rfl rfl ?_
   rintro _ w46 ⟨rfl, F45, G47⟩
   have z48 := V.Fr.size G47
   try replace F_c := F_c.mb G47 hD_c
   try replace Fk2 := Fk2.ma G47
   try replace F15 := F15.ma G47
   try replace Fk25 := Fk25.ma G47
   try replace F33 := F33.ma G47
   try replace Fk38 := Fk38.ma G47
   replace HG := HG.n1 G47
   clear G47
   refine V.run T_ok 4 rfl ?_
   refine V.storeO Fk25 rfl rfl rfl rfl sz3 rfl rfl rfl rfl ?_
   rintro w49 G50 z52 Fs51
   clear Fk25
   have z53 := V.Fr.size G50
   try replace F_c := F_c.mb G50 hD_c
   try replace Fk2 := Fk2.ma G50
   try replace F15 := F15.ma G50
   try replace Fk38 := Fk38.ma G50
   try replace F45 := F45.ma G50
   replace HG := HG.n1 G50
   clear G50
   have Fk25 := Fs51; clear Fs51
   simp only [V.spliceL, V.cellsL] at Fk25
   refine V.run T_ok 1 rfl ?_
   refine V.nil ?_
   refine V.tN ?_
   refine V.seq ?_
   refine V.region ?_
   refine V.run T_ok 2 rfl ?_
   refine V.nil ?_
   refine V.tN ?_
   refine V.condT rfl (fun h12_0 => ?_) (fun h12_0 => ?_)
   ·
    try replace h12_0 := V.dec h12_0
    try simp only [V.mk0, V.mk1, V.mk2, V.mk3] at h12_0
    refine V.seq ?_
    refine V.region ?_
    refine V.mkStruct T_ok zero47 rfl rfl rfl rfl rfl ?_
    refine V.storeO Fk2 rfl rfl rfl rfl sz47 rfl rfl rfl rfl ?_
    rintro w54 G55 z57 Fs56
    clear Fk2
    have z58 := V.Fr.size G55
    try replace F_c := F_c.mb G55 hD_c
    try replace F15 := F15.ma G55
    try replace Fk38 := Fk38.ma G55
    try replace F45 := F45.ma G55
    try replace Fk25 := Fk25.ma G55
    replace HG := HG.n1 G55
    clear G55
    have Fk2 := Fs56; clear Fs56
    simp only [V.spliceL, V.cellsL] at Fk2
    refine V.run T_ok 1 rfl ?_
    refine V.nil ?_
    refine V.tN ?_
    refine V.ret ?_
    refine V.bR ?_
    refine V.tR ?_
    refine V.tR ?_
    refine V.bR ?_
    refine V.tR ?_
    refine V.done2 rfl (V.resV_cell T_ok Fk2 rfl rfl) (V.resV_tmp rfl) ?_
    have hhv : hardV c = none := by unfold hardV; rw [if_neg (fun h => by rw [h] at h1; exact h1 rfl), if_neg (by grind)]
    exact ⟨_, _, _, (by rw [hhv]; first | rfl | (refine congrArg (fun b_ => Value.tuple #[.agg #[.int .i64 (rdN (wholeB c).1 1099511627776).1.1, .int .i64 (rdN (rdN (wholeB c).1 1099511627776).2 1099511627776).1.1, .int .i64 (rdN (rdN (rdN (wholeB c).1 1099511627776).2 1099511627776).2 1099511627776).1.1], .bool b_]) ?_; by_cases hxe : (rdN (rdN (rdN (wholeB c).1 1099511627776).2 1099511627776).2 1099511627776).2 = [] <;> simp [hxe])), (by intro z hz; rw [hhv] at hz; first | (cases hz; done) | (cases hz; rfl) | (split at hz <;> cases hz; rfl)), HG⟩
   ·
    try replace h12_0 := V.dec h12_0
    try simp only [V.mk0, V.mk1, V.mk2, V.mk3] at h12_0
    refine V.skip ?_
    refine V.bN ?_
    refine V.tN ?_
    refine V.region ?_
    refine V.addN rfl rfl rfl rfl rfl (by first | omega | (simp only [List.length_take, List.length_drop, List.length_append, List.length_cons, List.length_nil, List.length_replicate, List.length_set, V.length_data, V.S_size]; omega)) (by first | omega | (simp only [List.length_take, List.length_drop, List.length_append, List.length_cons, List.length_nil, List.length_replicate, List.length_set, V.length_data, V.S_size]; omega)) ?_
    refine V.run T_ok 1 rfl ?_
    refine V.nil ?_
    refine V.tN ?_
    refine V.rnd ?_
    refine V.seq ?_
    refine V.region ?_
    refine V.run T_ok 1 rfl ?_
    refine V.nil ?_
    refine V.tN ?_
    refine V.seq ?_
    refine V.condY rfl rfl ?_
    refine V.skip ?_
    refine V.tN ?_
    refine V.seq ?_
    refine V.block ?_
    refine V.seq ?_
    refine V.region ?_
    refine V.step rfl rfl (V.elem_run T_ok rfl rfl sz98 rfl rfl (by decide) (by decide) _) ?_
    refine V.loadO T_ok Fk38 rfl rfl rfl rfl rfl ?_
    refine V.run T_ok 1 rfl ?_
    refine V.nil ?_
    refine V.tN ?_
    refine V.seq ?_
    refine V.region ?_
    refine V.run T_ok 2 rfl ?_
    refine V.call (rd_number (most := 1099511627776) F45) rfl rfl rfl ?_
    rintro _ w60 ⟨rfl, F59, G61⟩
    have z62 := V.Fr.size G61
    try replace F_c := F_c.mb G61 hD_c
    try replace Fk2 := Fk2.ma G61
    try replace F15 := F15.ma G61
    try replace Fk38 := Fk38.ma G61
    try replace F45 := F45.ma G61
    try replace Fk25 := Fk25.ma G61
    replace HG := HG.n1 G61
    clear G61
    refine V.run T_ok 4 rfl ?_
    refine V.storeO Fk25 rfl rfl rfl rfl sz3 rfl rfl rfl rfl ?_
    rintro w63 G64 z66 Fs65
    clear Fk25
    have z67 := V.Fr.size G64
    try replace F_c := F_c.mb G64 hD_c
    try replace Fk2 := Fk2.ma G64
    try replace F15 := F15.ma G64
    try replace Fk38 := Fk38.ma G64
    try replace F59 := F59.ma G64
    replace HG := HG.n1 G64
    clear G64
    have Fk25 := Fs65; clear Fs65
    simp only [V.spliceL, V.cellsL] at Fk25
    refine V.run T_ok 1 rfl ?_
    refine V.nil ?_
    refine V.tN ?_
    refine V.seq ?_
    refine V.region ?_
    refine V.run T_ok 2 rfl ?_
    refine V.nil ?_
    refine V.tN ?_
    refine V.condT rfl (fun h12_1 => ?_) (fun h12_1 => ?_)
    ·
     try replace h12_1 := V.dec h12_1
     try simp only [V.mk0, V.mk1, V.mk2, V.mk3] at h12_1
     refine V.seq ?_
     refine V.region ?_
     refine V.mkStruct T_ok zero47 rfl rfl rfl rfl rfl ?_
     refine V.storeO Fk2 rfl rfl rfl rfl sz47 rfl rfl rfl rfl ?_
     rintro w68 G69 z71 Fs70
     clear Fk2
     have z72 := V.Fr.size G69
     try replace F_c := F_c.mb G69 hD_c
     try replace F15 := F15.ma G69
     try replace Fk38 := Fk38.ma G69
     try replace F59 := F59.ma G69
     try replace Fk25 := Fk25.ma G69
     replace HG := HG.n1 G69
     clear G69
     have Fk2 := Fs70; clear Fs70
     simp only [V.spliceL, V.cellsL] at Fk2
     refine V.run T_ok 1 rfl ?_
     refine V.nil ?_
     refine V.tN ?_
     refine V.ret ?_
     refine V.bR ?_
     refine V.tR ?_
     refine V.tR ?_
     refine V.bR ?_
     refine V.tR ?_
     refine V.done2 rfl (V.resV_cell T_ok Fk2 rfl rfl) (V.resV_tmp rfl) ?_
     have hhv : hardV c = none := by unfold hardV; rw [if_neg (fun h => by rw [h] at h1; exact h1 rfl), if_neg (by grind)]
     exact ⟨_, _, _, (by rw [hhv]; first | rfl | (refine congrArg (fun b_ => Value.tuple #[.agg #[.int .i64 (rdN (wholeB c).1 1099511627776).1.1, .int .i64 (rdN (rdN (wholeB c).1 1099511627776).2 1099511627776).1.1, .int .i64 (rdN (rdN (rdN (wholeB c).1 1099511627776).2 1099511627776).2 1099511627776).1.1], .bool b_]) ?_; by_cases hxe : (rdN (rdN (rdN (wholeB c).1 1099511627776).2 1099511627776).2 1099511627776).2 = [] <;> simp [hxe])), (by intro z hz; rw [hhv] at hz; first | (cases hz; done) | (cases hz; rfl) | (split at hz <;> cases hz; rfl)), HG⟩
    ·
     try replace h12_1 := V.dec h12_1
     try simp only [V.mk0, V.mk1, V.mk2, V.mk3] at h12_1
     refine V.skip ?_
     refine V.bN ?_
     refine V.tN ?_
     refine V.region ?_
     refine V.addN rfl rfl rfl rfl rfl (by first | omega | (simp only [List.length_take, List.length_drop, List.length_append, List.length_cons, List.length_nil, List.length_replicate, List.length_set, V.length_data, V.S_size]; omega)) (by first | omega | (simp only [List.length_take, List.length_drop, List.length_append, List.length_cons, List.length_nil, List.length_replicate, List.length_set, V.length_data, V.S_size]; omega)) ?_
     refine V.run T_ok 1 rfl ?_
     refine V.nil ?_
     refine V.tN ?_
     refine V.rnd ?_
     refine V.seq ?_
     refine V.region ?_
     refine V.run T_ok 1 rfl ?_
     refine V.nil ?_
     refine V.tN ?_
     refine V.seq ?_
     refine V.condY rfl rfl ?_
     refine V.skip ?_
     refine V.tN ?_
     refine V.seq ?_
     refine V.block ?_
     refine V.seq ?_
     refine V.region ?_
     refine V.step rfl rfl (V.elem_run T_ok rfl rfl sz98 rfl rfl (by decide) (by decide) _) ?_
     refine V.loadO T_ok Fk38 rfl rfl rfl rfl rfl ?_
     refine V.run T_ok 1 rfl ?_
     refine V.nil ?_
     refine V.tN ?_
     refine V.seq ?_
     refine V.region ?_
     refine V.run T_ok 2 rfl ?_
     refine V.call (rd_number (most := 1099511627776) F59) rfl rfl rfl ?_
     rintro _ w74 ⟨rfl, F73, G75⟩
     have z76 := V.Fr.size G75
     try replace F_c := F_c.mb G75 hD_c
     try replace Fk2 := Fk2.ma G75
     try replace F15 := F15.ma G75
     try replace Fk38 := Fk38.ma G75
     try replace F59 := F59.ma G75
     try replace Fk25 := Fk25.ma G75
     replace HG := HG.n1 G75
     clear G75
     refine V.run T_ok 4 rfl ?_
     refine V.storeO Fk25 rfl rfl rfl rfl sz3 rfl rfl rfl rfl ?_
     rintro w77 G78 z80 Fs79
     clear Fk25
     have z81 := V.Fr.size G78
     try replace F_c := F_c.mb G78 hD_c
     try replace Fk2 := Fk2.ma G78
     try replace F15 := F15.ma G78
     try replace Fk38 := Fk38.ma G78
     try replace F73 := F73.ma G78
     replace HG := HG.n1 G78
     clear G78
     have Fk25 := Fs79; clear Fs79
     simp only [V.spliceL, V.cellsL] at Fk25
     refine V.run T_ok 1 rfl ?_
     refine V.nil ?_
     refine V.tN ?_
     refine V.seq ?_
     refine V.region ?_
     refine V.run T_ok 2 rfl ?_
     refine V.nil ?_
     refine V.tN ?_
     refine V.condT rfl (fun h12_2 => ?_) (fun h12_2 => ?_)
     ·
      try replace h12_2 := V.dec h12_2
      try simp only [V.mk0, V.mk1, V.mk2, V.mk3] at h12_2
      refine V.seq ?_
      refine V.region ?_
      refine V.mkStruct T_ok zero47 rfl rfl rfl rfl rfl ?_
      refine V.storeO Fk2 rfl rfl rfl rfl sz47 rfl rfl rfl rfl ?_
      rintro w82 G83 z85 Fs84
      clear Fk2
      have z86 := V.Fr.size G83
      try replace F_c := F_c.mb G83 hD_c
      try replace F15 := F15.ma G83
      try replace Fk38 := Fk38.ma G83
      try replace F73 := F73.ma G83
      try replace Fk25 := Fk25.ma G83
      replace HG := HG.n1 G83
      clear G83
      have Fk2 := Fs84; clear Fs84
      simp only [V.spliceL, V.cellsL] at Fk2
      refine V.run T_ok 1 rfl ?_
      refine V.nil ?_
      refine V.tN ?_
      refine V.ret ?_
      refine V.bR ?_
      refine V.tR ?_
      refine V.tR ?_
      refine V.bR ?_
      refine V.tR ?_
      refine V.done2 rfl (V.resV_cell T_ok Fk2 rfl rfl) (V.resV_tmp rfl) ?_
      have hhv : hardV c = none := by unfold hardV; rw [if_neg (fun h => by rw [h] at h1; exact h1 rfl), if_neg (by grind)]
      exact ⟨_, _, _, (by rw [hhv]; first | rfl | (refine congrArg (fun b_ => Value.tuple #[.agg #[.int .i64 (rdN (wholeB c).1 1099511627776).1.1, .int .i64 (rdN (rdN (wholeB c).1 1099511627776).2 1099511627776).1.1, .int .i64 (rdN (rdN (rdN (wholeB c).1 1099511627776).2 1099511627776).2 1099511627776).1.1], .bool b_]) ?_; by_cases hxe : (rdN (rdN (rdN (wholeB c).1 1099511627776).2 1099511627776).2 1099511627776).2 = [] <;> simp [hxe])), (by intro z hz; rw [hhv] at hz; first | (cases hz; done) | (cases hz; rfl) | (split at hz <;> cases hz; rfl)), HG⟩
     ·
      try replace h12_2 := V.dec h12_2
      try simp only [V.mk0, V.mk1, V.mk2, V.mk3] at h12_2
      refine V.skip ?_
      refine V.bN ?_
      refine V.tN ?_
      refine V.region ?_
      refine V.addN rfl rfl rfl rfl rfl (by first | omega | (simp only [List.length_take, List.length_drop, List.length_append, List.length_cons, List.length_nil, List.length_replicate, List.length_set, V.length_data, V.S_size]; omega)) (by first | omega | (simp only [List.length_take, List.length_drop, List.length_append, List.length_cons, List.length_nil, List.length_replicate, List.length_set, V.length_data, V.S_size]; omega)) ?_
      refine V.run T_ok 1 rfl ?_
      refine V.nil ?_
      refine V.tN ?_
      refine V.rnd ?_
      refine V.seq ?_
      refine V.region ?_
      refine V.run T_ok 1 rfl ?_
      refine V.nil ?_
      refine V.tN ?_
      refine V.seq ?_
      refine V.condN rfl rfl ?_
      refine V.exit ?_
      refine V.tX ?_
      refine V.tX ?_
      refine V.bE ?_
      refine V.tN ?_
      refine V.seq ?_
      refine V.drawMT 5 (fun w_ => V.Fr [k1] w77 w_) (fun i => Nat.beq i 2 || Nat.beq i 4) (fun _ g_ => g_.mono (by simp)) mixed (by kernel_rfl) (by kernel_rfl) ?_
      refine V.mloadO T_ok (fun w' g_ => V.Cells.mv1 Fk25 g_ (by omega)) rfl rfl rfl rfl rfl rfl ?_
      refine V.mrun T_ok 1 rfl rfl ?_
      refine V.mcall (R := fun w1_ v_ w2_ => v_ = .int .i64 (if (rdN ((rdN ((rdN ((wholeB c).1) (1099511627776 : Int)).2) (1099511627776 : Int)).2) (1099511627776 : Int)).2 = [] then 0 else 11) ∧ w1_ = w2_) rfl (fun w1_ g_ h_ => rd_end (F73.gr h_)) (by rintro wa va wb ca _ ⟨_, rfl⟩; exact ca) rfl rfl rfl ?_
      rintro _ _ _ _ _ ⟨rfl, -⟩
      refine V.mrun T_ok 1 rfl rfl ?_
      refine V.mstore (fun _ _ h_ => by obtain ⟨w1_, _, h2_, _, rfl⟩ := h_; exact Fk2.gr h2_) (fun _ _ a b => V.Fr.dup a b) rfl rfl rfl rfl sz47 rfl rfl rfl rfl rfl ?_
      refine V.mnil ?_
      rintro w87 - ⟨w88, ⟨w9_, -, g0_, _, rfl⟩, G89, z90, Fnew⟩
      have z91 := V.Fr.size g0_
      try replace F_c := F_c.gr g0_
      try replace Fk2 := Fk2.gr g0_
      try replace F15 := F15.gr g0_
      try replace Fk38 := Fk38.gr g0_
      try replace F73 := F73.gr g0_
      try replace Fk25 := Fk25.gr g0_
      replace HG := HG.grow g0_
      clear g0_
      clear Fk2
      have z92 := V.Fr.size G89
      try replace F_c := F_c.mb G89 hD_c
      try replace F15 := F15.ma G89
      try replace Fk38 := Fk38.ma G89
      try replace F73 := F73.ma G89
      try replace Fk25 := Fk25.ma G89
      replace HG := HG.n1 G89
      clear G89
      have Fk2 := Fnew; clear Fnew
      try simp only [V.spliceL, V.cellsL] at Fk2
      refine V.run T_ok 1 rfl ?_
      refine V.nil ?_
      refine V.tN ?_
      refine V.ret ?_
      refine V.done2 rfl (V.resV_cell T_ok Fk2 rfl rfl) (V.resV_tmp rfl) ?_
      have hhv : hardV c = if (rdN (rdN (rdN (wholeB c).1 1099511627776).2 1099511627776).2 1099511627776).2 = [] then some ((rdN (wholeB c).1 1099511627776).1.1, (rdN (rdN (wholeB c).1 1099511627776).2 1099511627776).1.1, (rdN (rdN (rdN (wholeB c).1 1099511627776).2 1099511627776).2 1099511627776).1.1) else none := by unfold hardV; rw [if_neg (fun h => by rw [h] at h1; exact h1 rfl)]; by_cases hxe : (rdN (rdN (rdN (wholeB c).1 1099511627776).2 1099511627776).2 1099511627776).2 = [] <;> grind
      exact ⟨_, _, _, (by rw [hhv]; first | rfl | (refine congrArg (fun b_ => Value.tuple #[.agg #[.int .i64 (rdN (wholeB c).1 1099511627776).1.1, .int .i64 (rdN (rdN (wholeB c).1 1099511627776).2 1099511627776).1.1, .int .i64 (rdN (rdN (rdN (wholeB c).1 1099511627776).2 1099511627776).2 1099511627776).1.1], .bool b_]) ?_; by_cases hxe : (rdN (rdN (rdN (wholeB c).1 1099511627776).2 1099511627776).2 1099511627776).2 = [] <;> simp [hxe])), (by intro z hz; rw [hhv] at hz; first | (cases hz; done) | (cases hz; rfl) | (split at hz <;> cases hz; rfl)), HG⟩

theorem dk_file {w : World} {kd : Nat} {D : Nat → Prop} {dv : DiskV} (FD : Dk w kd D dv)   :
    Meets Try.prog 18 [.pointer (some ⟨kd, 0, none⟩)] w fun r w' => ∃ (ra47 : Option Addr) (rc47 : Nat), r = .slice ra47 dv.nf.length rc47 ∧ V.Row V.Cod.byte 5 w' V.None' w.heap.size w'.heap.size ra47 rc47 dv.nf ∧ Gr w w' := by
  exact dfile_spec FD.ds

theorem dk_cell {w : World} {kd : Nat} {D : Nat → Prop} {dv : DiskV} (FD : Dk w kd D dv)   :
    Meets Try.prog 31 [.pointer (some ⟨kd, 0, none⟩)] w fun r w' => ∃ (ra48 : Option Addr) (rc48 : Nat), r = .slice ra48 dv.nc.length rc48 ∧ V.Row V.Cod.byte 5 w' V.None' w.heap.size w'.heap.size ra48 rc48 dv.nc ∧ Gr w w' := by
  exact dcell_spec FD.ds

theorem dk_append {w : World} {kd : Nat} {D : Nat → Prop} {dv : DiskV} (FD : Dk w kd D dv) {D_b : Nat → Prop} {c_b : Nat} {a_b : Option Addr} {b : List UInt8} (F_b : Sl V.Cod.byte w D_b a_b c_b b) (hb : b.length ≤ 140737488355328) :
    Meets Try.prog 11 [.pointer (some ⟨kd, 0, none⟩), .slice a_b b.length c_b] w fun r w' => r = .int .i64 (eAppend dv b) ∧ Dk w' kd (fun i => D i ∨ V.In w.heap.size w'.heap.size i) (dAppend dv b) ∧ Fr [kd] w w' := by
  exact (dappend_spec FD.ds F_b hb).mono (by rintro _ w2 ⟨rfl, h, g⟩; exact ⟨rfl, Dk.of h FD g.size, g⟩)

theorem dk_set {w : World} {kd : Nat} {D : Nat → Prop} {dv : DiskV} (FD : Dk w kd D dv) {D_b : Nat → Prop} {c_b : Nat} {a_b : Option Addr} {b : List UInt8} (F_b : Sl V.Cod.byte w D_b a_b c_b b) (hb : b.length ≤ 140737488355328) :
    Meets Try.prog 12 [.pointer (some ⟨kd, 0, none⟩), .slice a_b b.length c_b] w fun r w' => r = .int .i64 (eSet b) ∧ Dk w' kd (fun i => D i ∨ V.In w.heap.size w'.heap.size i) (dSet dv b) ∧ Fr [kd] w w' := by
  exact (dset_spec FD.ds F_b hb).mono (by rintro _ w2 ⟨rfl, h, g⟩; exact ⟨rfl, Dk.of h FD g.size, g⟩)

theorem dk_cut {w : World} {kd : Nat} {D : Nat → Prop} {dv : DiskV} (FD : Dk w kd D dv) {n : Int}  :
    Meets Try.prog 43 [.pointer (some ⟨kd, 0, none⟩), .int .i64 n] w fun r w' => r = .int .i64 (eCut dv n) ∧ Dk w' kd (fun i => D i ∨ V.In w.heap.size w'.heap.size i) (dCut dv n) ∧ Fr [kd] w w' := by
  exact (dcut_spec FD.ds).mono (by rintro _ w2 ⟨rfl, h, g⟩; exact ⟨rfl, Dk.of h FD g.size, g⟩)

theorem dk_sync {w : World} {kd : Nat} {D : Nat → Prop} {dv : DiskV} (FD : Dk w kd D dv)   :
    Meets Try.prog 44 [.pointer (some ⟨kd, 0, none⟩)] w fun r w' => r = .int .i64 0 ∧ Dk w' kd (fun i => D i ∨ V.In w.heap.size w'.heap.size i) (dSync dv) ∧ Fr [kd] w w' := by
  exact (dsync_spec FD.ds).mono (by rintro _ w2 ⟨rfl, h, g⟩; exact ⟨rfl, Dk.of h FD g.size, g⟩)

theorem dk_crash {w : World} {kd : Nat} {D : Nat → Prop} {dv : DiskV} (FD : Dk w kd D dv) {keep : Int} {torn : Bool} {cell : Bool}  :
    Meets Try.prog 29 [.pointer (some ⟨kd, 0, none⟩), .int .i64 keep, .bool torn, .bool cell] w fun r w' => ∃ (rk53 : Nat), r = .pointer (some ⟨rk53, 0, none⟩) ∧ (w.heap.size ≤ rk53 ∧ rk53 < w'.heap.size) ∧ Dk w' rk53 (fun i => V.In w.heap.size w'.heap.size i ∧ i ≠ rk53) (dCrash dv keep torn cell) ∧ Gr w w' := by
  exact (dcrash_spec FD.ds).mono (by rintro _ w2 ⟨k2, rfl, ⟨h1, h2⟩, h3, g⟩; exact ⟨k2, rfl, ⟨h1, h2⟩, Dk.new h3 (fun i hi hl => ⟨⟨hi.1, hl⟩, hi.2⟩) (fun h => h.2 rfl) (fun i hi => hi.1.2), g⟩)

theorem jd_file {w : World} {k kd : Nat} {EJ : Nat → Prop} {jv : JV} {dv : DiskV} (FJ : Jst w k kd EJ jv dv)   :
    Meets Try.prog 18 [.pointer (some ⟨kd, 0, none⟩)] w fun r w' => ∃ (ra54 : Option Addr) (rc54 : Nat), r = .slice ra54 dv.nf.length rc54 ∧ V.Row V.Cod.byte 5 w' V.None' w.heap.size w'.heap.size ra54 rc54 dv.nf ∧ Gr w w' := by
  exact dfile_spec FJ.dk.ds

theorem jd_cell {w : World} {k kd : Nat} {EJ : Nat → Prop} {jv : JV} {dv : DiskV} (FJ : Jst w k kd EJ jv dv)   :
    Meets Try.prog 31 [.pointer (some ⟨kd, 0, none⟩)] w fun r w' => ∃ (ra55 : Option Addr) (rc55 : Nat), r = .slice ra55 dv.nc.length rc55 ∧ V.Row V.Cod.byte 5 w' V.None' w.heap.size w'.heap.size ra55 rc55 dv.nc ∧ Gr w w' := by
  exact dcell_spec FJ.dk.ds

theorem jd_append {w : World} {k kd : Nat} {EJ : Nat → Prop} {jv : JV} {dv : DiskV} (FJ : Jst w k kd EJ jv dv) {D_b : Nat → Prop} {c_b : Nat} {a_b : Option Addr} {b : List UInt8} (F_b : Sl V.Cod.byte w D_b a_b c_b b) (hb : b.length ≤ 140737488355328) :
    Meets Try.prog 11 [.pointer (some ⟨kd, 0, none⟩), .slice a_b b.length c_b] w fun r w' => r = .int .i64 (eAppend dv b) ∧ Dk w' kd (fun i => (EJ i ∧ i ≠ kd) ∨ V.In w.heap.size w'.heap.size i) (dAppend dv b) ∧ Fr [kd] w w' := by
  exact (dappend_spec FJ.dk.ds F_b hb).mono (by rintro _ w2 ⟨rfl, h, g⟩; exact ⟨rfl, Dk.of h FJ.dk g.size, g⟩)

theorem jd_set {w : World} {k kd : Nat} {EJ : Nat → Prop} {jv : JV} {dv : DiskV} (FJ : Jst w k kd EJ jv dv) {D_b : Nat → Prop} {c_b : Nat} {a_b : Option Addr} {b : List UInt8} (F_b : Sl V.Cod.byte w D_b a_b c_b b) (hb : b.length ≤ 140737488355328) :
    Meets Try.prog 12 [.pointer (some ⟨kd, 0, none⟩), .slice a_b b.length c_b] w fun r w' => r = .int .i64 (eSet b) ∧ Dk w' kd (fun i => (EJ i ∧ i ≠ kd) ∨ V.In w.heap.size w'.heap.size i) (dSet dv b) ∧ Fr [kd] w w' := by
  exact (dset_spec FJ.dk.ds F_b hb).mono (by rintro _ w2 ⟨rfl, h, g⟩; exact ⟨rfl, Dk.of h FJ.dk g.size, g⟩)

theorem jd_cut {w : World} {k kd : Nat} {EJ : Nat → Prop} {jv : JV} {dv : DiskV} (FJ : Jst w k kd EJ jv dv) {n : Int}  :
    Meets Try.prog 43 [.pointer (some ⟨kd, 0, none⟩), .int .i64 n] w fun r w' => r = .int .i64 (eCut dv n) ∧ Dk w' kd (fun i => (EJ i ∧ i ≠ kd) ∨ V.In w.heap.size w'.heap.size i) (dCut dv n) ∧ Fr [kd] w w' := by
  exact (dcut_spec FJ.dk.ds).mono (by rintro _ w2 ⟨rfl, h, g⟩; exact ⟨rfl, Dk.of h FJ.dk g.size, g⟩)

theorem jd_sync {w : World} {k kd : Nat} {EJ : Nat → Prop} {jv : JV} {dv : DiskV} (FJ : Jst w k kd EJ jv dv)   :
    Meets Try.prog 44 [.pointer (some ⟨kd, 0, none⟩)] w fun r w' => r = .int .i64 0 ∧ Dk w' kd (fun i => (EJ i ∧ i ≠ kd) ∨ V.In w.heap.size w'.heap.size i) (dSync dv) ∧ Fr [kd] w w' := by
  exact (dsync_spec FJ.dk.ds).mono (by rintro _ w2 ⟨rfl, h, g⟩; exact ⟨rfl, Dk.of h FJ.dk g.size, g⟩)

theorem jd_crash {w : World} {k kd : Nat} {EJ : Nat → Prop} {jv : JV} {dv : DiskV} (FJ : Jst w k kd EJ jv dv) {keep : Int} {torn : Bool} {cell : Bool}  :
    Meets Try.prog 29 [.pointer (some ⟨kd, 0, none⟩), .int .i64 keep, .bool torn, .bool cell] w fun r w' => ∃ (rk60 : Nat), r = .pointer (some ⟨rk60, 0, none⟩) ∧ (w.heap.size ≤ rk60 ∧ rk60 < w'.heap.size) ∧ Dk w' rk60 (fun i => V.In w.heap.size w'.heap.size i ∧ i ≠ rk60) (dCrash dv keep torn cell) ∧ Gr w w' := by
  exact (dcrash_spec FJ.dk.ds).mono (by rintro _ w2 ⟨k2, rfl, ⟨h1, h2⟩, h3, g⟩; exact ⟨k2, rfl, ⟨h1, h2⟩, Dk.new h3 (fun i hi hl => ⟨⟨hi.1, hl⟩, hi.2⟩) (fun h => h.2 rfl) (fun i hi => hi.1.2), g⟩)

theorem dk_new {w : World}    :
    Meets Try.prog 10 [] w fun r w' => ∃ (rk61 : Nat), r = .pointer (some ⟨rk61, 0, none⟩) ∧ (w.heap.size ≤ rk61 ∧ rk61 < w'.heap.size) ∧ Dk w' rk61 (fun i => V.In w.heap.size w'.heap.size i ∧ i ≠ rk61) (⟨[], [], [], []⟩) ∧ Gr w w' := by
  exact dnew_spec.mono (by rintro _ w2 ⟨k2, rfl, h3, ⟨h1, h2⟩, g⟩; exact ⟨k2, rfl, ⟨h1, h2⟩, Dk.new (Dsk.nil (D := fun i => w.heap.size ≤ i ∧ i ≠ k2) h3 (fun h => h.2 rfl) (fun i hi => ⟨by omega, by omega⟩)) (fun i hi hl => ⟨⟨hi.1, hl⟩, hi.2⟩) (fun h => h.2 rfl) (fun i hi => hi.1.2), g⟩)

set_option maxHeartbeats 900000 in
set_option maxRecDepth 10000 in
theorem does_spec {w : World} {k kd : Nat} {EJ : Nat → Prop} {jv : JV} {dv : DiskV} (FJ : Jst w k kd EJ jv dv) {D_b : Nat → Prop} {c_b : Nat} {a_b : Option Addr} {b : List UInt8} (F_b : Sl V.Cod.byte w D_b a_b c_b b) (hD_b : ∀ k, D_b k → k < w.heap.size) (hs : jv.l.length + 1 ≤ 1000000) (hbl : b.length ≤ 140737488355300) (hbk : ¬ D_b kd) :
    Meets Try.prog 52 [.pointer (some ⟨k, 0, none⟩), .slice a_b b.length c_b] w fun r w' => r = .int .i64 (doesE jv dv b) ∧ Jst w' k kd (fun i => EJ i ∨ V.In w.heap.size w'.heap.size i) (doesJ jv dv b) (doesD dv b) ∧ V.FrE EJ w w' := by
 obtain ⟨E, D, FX, FD, ⟨hED, hEkd⟩, hEJ, hDJ, hKJ⟩ := FJ.ex
 have hJl := FJ.lt
 have hkdl := FD.klt
 have hnd := FD.nk
 obtain ⟨hs0, hs1, hs2, hs3⟩ := FD.small
 have FX0 := FX
 obtain ⟨SS, BB, aL, cL, aD, cD, ⟨⟨hkS, hkB⟩, hSB⟩, hEE, Fk, FL, Fd⟩ := FX.ex
 have hlt := FX.lt
 have hok := FX.ok
 obtain ⟨hb0, hb1, hll, hdl, hel⟩ := hok
 have hkl := Fk.lt
 have hEk : E k := hEE k (.inl rfl)
 have hSE : ∀ i, SS i → E i := fun i h => hEE i (.inr (.inl h))
 have hBE : ∀ i, BB i → E i := fun i h => hEE i (.inr (.inr h))
 have hSl : ∀ i, SS i → i < w.heap.size := fun i h => hlt i (hSE i h)
 have hBl : ∀ i, BB i → i < w.heap.size := fun i h => hlt i (hBE i h)
 have hl63 := FL.slB.len63
 have hkk : kd ≠ k := fun h => hEkd (h ▸ hEk)
 have hkJ : EJ k := hEJ k hEk
 have hDl := FD.lt
 have HG := V.FrE.refl EJ w
 refine V.enter (n := 29) Try.func52 rfl rfl (by decide) rfl ?_
 refine V.seq ?_
 refine V.region ?_
 refine V.run T_ok 1 rfl ?_
 refine V.nil ?_
 refine V.tN ?_
 refine V.seq ?_
 have hfl := frmB_len b
 refine V.region ?_
 refine V.run T_ok 1 rfl ?_
 refine V.call (frame_spec F_b (by intro k h; (try dsimp only [V.In] at h ⊢); first | omega | grind)) rfl rfl rfl ?_
 rintro _ w4 ⟨a1, c2, rfl, F3, G5⟩
 have z6 := V.Fr.size G5
 try replace Fk := Fk.gr G5
 try replace FX := FX.gr G5
 try replace FD := FD.gr G5
 try replace F_b := F_b.gr G5
 replace HG := HG.grow G5
 clear G5
 refine V.run T_ok 5 rfl ?_
 refine V.nil ?_
 refine V.tN ?_
 refine V.seq ?_
 refine V.seq ?_
 refine V.region ?_
 refine V.run T_ok 3 rfl ?_
 refine V.split (j := 2) (t := 14) rfl rfl (fun g2_2 => ?_) (fun g2_2 => ?_)
 ·
  try replace g2_2 := V.dec g2_2
  try simp only [V.mk0, V.mk1, V.mk2, V.mk3] at g2_2
  refine V.run T_ok 14 rfl ?_
  refine V.nil ?_
  refine V.tN ?_
  refine V.condY rfl rfl ?_
  refine V.seq ?_
  refine V.region ?_
  refine V.run T_ok 1 rfl ?_
  refine V.nil ?_
  refine V.tN ?_
  refine V.ret ?_
  refine V.tR ?_
  rw [show doesJ jv dv b = jv by unfold doesJ; grind, show doesD dv b = dv by unfold doesD; grind, show doesE jv dv b = 71 by unfold doesE; grind]
  have FJ9 := Jst.mk2 (EJ := (fun i => EJ i ∨ V.In w.heap.size w4.heap.size i)) FX FD ⟨by intro i h; ((try dsimp only [V.In] at h ⊢); first | omega | grind), by (try dsimp only [V.In]); first | omega | grind⟩ (by intro i h; ((try dsimp only [V.In] at h ⊢); first | omega | grind)) (by intro i h; ((try dsimp only [V.In] at h ⊢); first | omega | grind)) (.inl hKJ) (by intro i h; ((try dsimp only [V.In] at h ⊢); first | omega | grind))
  refine V.done rfl ?_
  exact ⟨(by first | rfl | simp only [List.length_set]), FJ9, HG⟩
 ·
  try replace g2_2 := V.dec g2_2
  try simp only [V.mk0, V.mk1, V.mk2, V.mk3] at g2_2
  refine V.run T_ok 3 rfl ?_
  refine V.yes rfl rfl rfl ?_
  refine V.loadO T_ok Fk rfl rfl rfl rfl rfl ?_
  refine V.run T_ok 1 rfl ?_
  refine V.yes rfl rfl rfl ?_
  refine V.call (dk_append FD F3.sl (by first | omega | (simp only [List.length_take, List.length_drop, List.length_append, List.length_cons, List.length_nil, List.length_replicate, List.length_set, V.length_data, V.S_size]; omega))) rfl rfl rfl ?_
  rintro _ w8 ⟨rfl, F7, G9⟩
  have z10 := V.Fr.size G9
  try replace Fk := Fk.ma G9
  first | replace FX := FX.mv1 G9 (by (try dsimp only [V.In]); first | omega | grind) | clear FX | skip
  first | replace FD := FD.mv1 G9 (by (try dsimp only [V.In]); first | omega | grind) | clear FD | skip
  first | replace F_b := F_b.mv1 G9 (by (try dsimp only [V.In]); first | omega | grind) | clear F_b | skip
  try replace F3 := F3.ma G9
  replace HG := HG.n1 G9
  clear G9
  refine V.run T_ok 3 rfl ?_
  refine V.split (j := 11) (t := 23) rfl rfl (fun g2_11 => ?_) (fun g2_11 => ?_)
  ·
   try replace g2_11 := V.dec g2_11
   try simp only [V.mk0, V.mk1, V.mk2, V.mk3] at g2_11
   refine V.run T_ok 5 rfl ?_
   refine V.nil ?_
   refine V.tN ?_
   refine V.condY rfl rfl ?_
   refine V.seq ?_
   refine V.region ?_
   refine V.run T_ok 1 rfl ?_
   refine V.nil ?_
   refine V.tN ?_
   refine V.ret ?_
   refine V.tR ?_
   rw [show doesJ jv dv b = jv by unfold doesJ; grind, show doesD dv b = dAppend dv ((frmB b).1) by unfold doesD; grind, show doesE jv dv b = 71 by unfold doesE; grind]
   have FJ9 := Jst.mk2 (EJ := (fun i => EJ i ∨ V.In w.heap.size w8.heap.size i)) FX F7 ⟨by intro i h; ((try dsimp only [V.In] at h ⊢); first | omega | grind), by (try dsimp only [V.In]); first | omega | grind⟩ (by intro i h; ((try dsimp only [V.In] at h ⊢); first | omega | grind)) (by intro i h; ((try dsimp only [V.In] at h ⊢); first | omega | grind)) (.inl hKJ) (by intro i h; ((try dsimp only [V.In] at h ⊢); first | omega | grind))
   refine V.done rfl ?_
   exact ⟨(by first | rfl | simp only [List.length_set]), FJ9, HG⟩
  ·
   try replace g2_11 := V.dec g2_11
   try simp only [V.mk0, V.mk1, V.mk2, V.mk3] at g2_11
   refine V.run T_ok 2 rfl ?_
   refine V.yes rfl rfl rfl ?_
   refine V.call (take_spec FX F_b (by intro k h; (try dsimp only [V.In] at h ⊢); first | omega | grind) (by first | assumption | omega) (by first | omega | (simp only [List.length_take, List.length_drop, List.length_append, List.length_cons, List.length_nil, List.length_replicate, List.length_set, V.length_data, V.S_size]; omega))) rfl rfl rfl ?_
   rintro _ w12 ⟨rfl, F11, G13⟩
   have z14 := V.FrE.size G13
   first | replace Fk := Fk.mvE G13 (by (try dsimp only [V.In]); first | omega | grind) | clear Fk | skip
   first | replace FX := FX.mvE G13 (by intro j h hd; (try dsimp only [V.In] at h hd ⊢); first | omega | grind) | clear FX | skip
   first | replace F_b := F_b.mvE G13 (by intro j h hd; (try dsimp only [V.In] at h hd ⊢); first | omega | grind) | clear F_b | skip
   first | replace F3 := F3.mvE G13 (by intro j h hd; (try dsimp only [V.In] at h hd ⊢); first | omega | grind) | clear F3 | skip
   first | replace F7 := F7.mvE G13 (by intro j h hd; (try dsimp only [V.In] at h hd ⊢); first | omega | grind) | clear F7 | skip
   replace HG := HG.stepE G13 (by intro i h; (try dsimp only [V.In] at h ⊢); first | omega | grind)
   clear G13
   refine V.run T_ok 2 rfl ?_
   refine V.nil ?_
   refine V.tN ?_
   refine V.condT rfl (fun h2 => ?_) (fun h2 => ?_)
   ·
    try replace h2 := V.dec h2
    try simp only [V.mk0, V.mk1, V.mk2, V.mk3] at h2
    refine V.seq ?_
    refine V.region ?_
    refine V.run T_ok 1 rfl ?_
    refine V.nil ?_
    refine V.tN ?_
    refine V.ret ?_
    refine V.tR ?_
    rw [show doesJ jv dv b = (takeV jv b).getD jv by unfold doesJ; grind, show doesD dv b = dAppend dv ((frmB b).1) by unfold doesD; grind, show doesE jv dv b = 71 by unfold doesE; grind]
    have FJ9 := Jst.mk2 (EJ := (fun i => EJ i ∨ V.In w.heap.size w12.heap.size i)) F11 F7 ⟨by intro i h; ((try dsimp only [V.In] at h ⊢); first | omega | grind), by (try dsimp only [V.In]); first | omega | grind⟩ (by intro i h; ((try dsimp only [V.In] at h ⊢); first | omega | grind)) (by intro i h; ((try dsimp only [V.In] at h ⊢); first | omega | grind)) (.inl hKJ) (by intro i h; ((try dsimp only [V.In] at h ⊢); first | omega | grind))
    refine V.done rfl ?_
    exact ⟨(by first | rfl | simp only [List.length_set]), FJ9, HG⟩
   ·
    try replace h2 := V.dec h2
    try simp only [V.mk0, V.mk1, V.mk2, V.mk3] at h2
    refine V.skip ?_
    refine V.tN ?_
    refine V.seq ?_
    refine V.region ?_
    refine V.run T_ok 1 rfl ?_
    refine V.nil ?_
    refine V.tN ?_
    refine V.ret ?_
    rw [show doesJ jv dv b = (takeV jv b).getD jv by unfold doesJ; grind, show doesD dv b = dAppend dv ((frmB b).1) by unfold doesD; grind, show doesE jv dv b = 0 by unfold doesE; grind]
    have FJ9 := Jst.mk2 (EJ := (fun i => EJ i ∨ V.In w.heap.size w12.heap.size i)) F11 F7 ⟨by intro i h; ((try dsimp only [V.In] at h ⊢); first | omega | grind), by (try dsimp only [V.In]); first | omega | grind⟩ (by intro i h; ((try dsimp only [V.In] at h ⊢); first | omega | grind)) (by intro i h; ((try dsimp only [V.In] at h ⊢); first | omega | grind)) (.inl hKJ) (by intro i h; ((try dsimp only [V.In] at h ⊢); first | omega | grind))
    refine V.done rfl ?_
    exact ⟨(by first | rfl | simp only [List.length_set]), FJ9, HG⟩

set_option maxHeartbeats 900000 in
set_option maxRecDepth 10000 in
theorem jappend_nil {w : World}  {D_b : Nat → Prop} {c_b : Nat} {a_b : Option Addr} {b : List UInt8} (F_b : Sl V.Cod.byte w D_b a_b c_b b)  :
    Meets Try.prog 19 [.pointer none, .slice a_b b.length c_b] w fun r w' => r = .int .i64 1 ∧ Gr w w' := by
 replace F_b := F_b.flb
 have HG := V.Fr.refl [] w
 refine V.enter (n := 18) Try.func19 rfl rfl (by decide) rfl ?_
 refine V.seq ?_
 refine V.region ?_
 refine V.run T_ok 1 rfl ?_
 refine V.nil ?_
 refine V.tN ?_
 refine V.seq ?_
 refine V.block ?_
 refine V.seq ?_
 refine V.region ?_
 refine V.run T_ok 3 rfl ?_
 refine V.nil ?_
 refine V.tN ?_
 refine V.condY rfl rfl ?_
 refine V.seq ?_
 refine V.region ?_
 refine V.run T_ok 1 rfl ?_
 refine V.nil ?_
 refine V.tN ?_
 refine V.ret ?_
 refine V.bR ?_
 refine V.tR ?_
 refine V.done rfl ?_
 exact ⟨(by first | rfl | simp only [List.length_set]), HG⟩

set_option maxHeartbeats 900000 in
set_option maxRecDepth 10000 in
theorem jappend_spec {w : World} {k kd : Nat} {EJ : Nat → Prop} {jv : JV} {dv : DiskV} (FJ : Jst w k kd EJ jv dv) {D_b : Nat → Prop} {c_b : Nat} {a_b : Option Addr} {b : List UInt8} (F_b : Sl V.Cod.byte w D_b a_b c_b b) (hD_b : ∀ k, D_b k → k < w.heap.size) (hs : jv.l.length + 1 ≤ 1000000) :
    Meets Try.prog 19 [.pointer (some ⟨k, 0, none⟩), .slice a_b b.length c_b] w fun r w' => r = .int .i64 (appE jv dv b) ∧ Jst w' k kd (fun i => EJ i ∨ V.In w.heap.size w'.heap.size i) (appJ jv dv b) (appD dv b) ∧ V.FrE EJ w w' := by
 have hJl := FJ.lt
 obtain ⟨hkJ, hKJ⟩ := FJ.ek
 obtain ⟨hb0, hb1, hll, hdl, hel⟩ := FJ.ok
 obtain ⟨hs0, hs1, hs2, hs3⟩ := FJ.small
 have HG := V.FrE.refl EJ w
 refine V.enter (n := 18) Try.func19 rfl rfl (by decide) rfl ?_
 refine V.seq ?_
 refine V.region ?_
 refine V.run T_ok 1 rfl ?_
 refine V.nil ?_
 refine V.tN ?_
 refine V.seq ?_
 refine V.block ?_
 refine V.seq ?_
 refine V.region ?_
 refine V.run T_ok 3 rfl ?_
 refine V.nil ?_
 refine V.tN ?_
 refine V.condN rfl rfl ?_
 refine V.seq ?_
 refine V.region ?_
 refine V.run T_ok 4 rfl ?_
 refine V.nil ?_
 refine V.tN ?_
 refine V.condT rfl (fun h3 => ?_) (fun h3 => ?_)
 ·
  try replace h3 := V.dec h3
  try simp only [V.mk0, V.mk1, V.mk2, V.mk3] at h3
  refine V.seq ?_
  refine V.region ?_
  refine V.run T_ok 1 rfl ?_
  refine V.nil ?_
  refine V.tN ?_
  refine V.ret ?_
  refine V.bR ?_
  refine V.tR ?_
  rw [show appJ jv dv b = jv by unfold appJ; rw [if_pos (by grind)], show appD dv b = dv by unfold appD; rw [if_pos (by grind)], show appE jv dv b = 71 by unfold appE; rw [if_pos (by grind)]]
  have FJ9 := FJ.mono (X := (fun i => EJ i ∨ V.In w.heap.size w.heap.size i)) (by intro i h; ((try dsimp only [V.In] at h ⊢); first | omega | grind)) (by intro i h; ((try dsimp only [V.In] at h ⊢); first | omega | grind))
  refine V.done rfl ?_
  exact ⟨(by first | rfl | simp only [List.length_set]), FJ9, HG⟩
 ·
  try replace h3 := V.dec h3
  try simp only [V.mk0, V.mk1, V.mk2, V.mk3] at h3
  refine V.skip ?_
  refine V.bN ?_
  refine V.tN ?_
  refine V.seq ?_
  have hn9 := numB_len9 (v := 1) (by decide)
  have hn92 := numB_len9 (v := 2) (by decide)
  have hn93 := numB_len9 (v := 3) (by decide)
  have htb : ∀ x : List UInt8, x.length ≤ 65516 → (textB x).length ≤ 65525 := fun x hx => by unfold textB; have := numB_len9 (v := (x.length : Int)) (by omega); rw [Int.toNat_natCast] at this; rw [List.length_append]; omega
  have htb2 := htb (V.S b).data.toList (by show b.length ≤ _; omega)
  refine V.drawGT 5 (V.sel [(1, (fun v wz => ∃ (ra2 : Option Addr) (rc2 : Nat), v = .slice ra2 (([]) ++ numB (1 : Int).toNat).length rc2 ∧ V.Row V.Cod.byte 5 wz V.None' w.heap.size wz.heap.size ra2 rc2 (([]) ++ numB (1 : Int).toNat))), (4, (fun v wz => ∃ (ra3 : Option Addr) (rc3 : Nat), v = .slice ra3 ((([]) ++ numB (1 : Int).toNat) ++ textB (V.S b).data.toList).length rc3 ∧ V.Row V.Cod.byte 5 wz V.None' w.heap.size wz.heap.size ra3 rc3 ((([]) ++ numB (1 : Int).toNat) ++ textB (V.S b).data.toList)))]) mixed (by kernel_rfl) (V.mono_cons (by rintro v wz wz' g ⟨ra2, rc2, rfl, rF2⟩; exact ⟨ra2, rc2, rfl, (by first | exact (rF2.gr g).mono (V.In.sub (Nat.le_refl _) g.size) | exact rF2.gr g | exact (rF2.gr g).mono (fun _ h => h) (Nat.le_refl _) g.size | exact (rF2.gr g).mono (fun k h => ⟨h.1, Nat.lt_of_lt_of_le h.2 g.size⟩))⟩) (V.mono_cons (by rintro v wz wz' g ⟨ra3, rc3, rfl, rF3⟩; exact ⟨ra3, rc3, rfl, (by first | exact (rF3.gr g).mono (V.In.sub (Nat.le_refl _) g.size) | exact rF3.gr g | exact (rF3.gr g).mono (fun _ h => h) (Nat.le_refl _) g.size | exact (rF3.gr g).mono (fun k h => ⟨h.1, Nat.lt_of_lt_of_le h.2 g.size⟩))⟩) V.mono_nil)) ?_
  refine V.grun T_ok 1 rfl (V.sel_none rfl) ?_
  refine V.gcall (fun w' h => (p_number (v := 1) (Sl.nil _ _ V.None' _ _ (Nat.zero_le _)) (fun _ h => h.elim) (by first | omega | (simp only [List.length_take, List.length_drop, List.length_append, List.length_cons, List.length_nil, List.length_replicate, List.length_set, V.length_data, V.S_size]; omega)) (by omega)).mono (by rintro v w'' ⟨ra2, rc2, rfl, rF2, G⟩; exact ⟨⟨ra2, rc2, rfl, (by first | exact rF2.mono (V.In.mono_l h.1.size) | exact rF2 | exact rF2.mono (fun _ h => h) h.1.size (Nat.le_refl _))⟩, G⟩)) rfl rfl rfl rfl ?_
  rintro _ w4 - - ⟨a1, c2, rfl, -⟩
  refine V.grun T_ok 1 rfl (V.sel_none rfl) ?_
  refine V.gtoStr (fun w' h => F_b.gr h.1) Try.underlying22 Try.underlying5 Try.underlying9 rfl rfl rfl rfl rfl ?_
  refine V.gcall (fun w' h => (p_text (s := (V.S b)) (by obtain ⟨_, _, he, F0⟩ := (V.Hist.here (h.get (i := 1) rfl)); cases he; exact F0.sl) (fun k hk => by have := Fr.size h.1; have := hk.2; omega) (by first | omega | (simp only [List.length_take, List.length_drop, List.length_append, List.length_cons, List.length_nil, List.length_replicate, List.length_set, V.length_data, V.S_size]; omega)) (by first | omega | decide | (simp only [V.S_size, List.length_cons, List.length_nil]; omega))).mono (by rintro v w'' ⟨ra3, rc3, rfl, rF3, G⟩; exact ⟨⟨ra3, rc3, rfl, (by first | exact rF3.mono (V.In.mono_l h.1.size) | exact rF3 | exact rF3.mono (fun _ h => h) h.1.size (Nat.le_refl _))⟩, G⟩)) rfl rfl rfl rfl ?_
  rintro _ w8 - - ⟨a5, c6, rfl, -⟩
  refine V.gnil ?_
  rintro w9 G10 hH11
  have z12 := V.Fr.size G10
  try replace FJ := FJ.gr G10
  try replace F_b := F_b.gr G10
  replace HG := HG.grow G10
  clear G10
  have F3 : V.Row V.Cod.byte 5 w9 V.None' w.heap.size w9.heap.size a1 c2 (([]) ++ numB (1 : Int).toNat) := by
    obtain ⟨_, _, he, F0⟩ := (V.Hist.here (V.Hist.old (hH11 1)))
    cases he
    exact F0
  have F7 : V.Row V.Cod.byte 5 w9 V.None' w.heap.size w9.heap.size a5 c6 ((([]) ++ numB (1 : Int).toNat) ++ textB (V.S b).data.toList) := by
    obtain ⟨_, _, he, F0⟩ := (V.Hist.here (hH11 4))
    cases he
    exact F0
  clear hH11
  refine V.call (does_spec FJ F7.sl (fun k hk => by have := hk.2; omega) (by first | assumption | omega) (by first | omega | (simp only [List.length_take, List.length_drop, List.length_append, List.length_cons, List.length_nil, List.length_replicate, List.length_set, V.length_data, V.S_size]; omega)) (by (try dsimp only [V.In]); first | assumption | omega | grind)) rfl rfl rfl ?_
  rintro _ w14 ⟨rfl, F13, G15⟩
  have z16 := V.FrE.size G15
  first | replace FJ := FJ.mvE G15 (by intro j h hd; (try dsimp only [V.In] at h hd ⊢); first | omega | grind) | clear FJ | skip
  first | replace F_b := F_b.mvE G15 (by intro j h hd; (try dsimp only [V.In] at h hd ⊢); first | omega | grind) | clear F_b | skip
  first | replace F3 := F3.mvE G15 (by intro j h hd; (try dsimp only [V.In] at h hd ⊢); first | omega | grind) | clear F3 | skip
  first | replace F7 := F7.mvE G15 (by intro j h hd; (try dsimp only [V.In] at h hd ⊢); first | omega | grind) | clear F7 | skip
  replace HG := HG.stepE G15 (by intro i h; (try dsimp only [V.In] at h ⊢); first | omega | grind)
  clear G15
  refine V.run T_ok 1 rfl ?_
  refine V.nil ?_
  refine V.tN ?_
  refine V.ret ?_
  rw [show appJ jv dv b = doesJ jv dv (numB (1 : Int).toNat ++ textB (V.S b).data.toList) by unfold appJ; rw [if_neg (by grind)]; rfl, show appD dv b = doesD dv (numB (1 : Int).toNat ++ textB (V.S b).data.toList) by unfold appD; rw [if_neg (by grind)]; rfl, show appE jv dv b = doesE jv dv (numB (1 : Int).toNat ++ textB (V.S b).data.toList) by unfold appE; rw [if_neg (by grind)]; rfl]
  have FJ9 := F13.mono (X := (fun i => EJ i ∨ V.In w.heap.size w14.heap.size i)) (by intro i h; ((try dsimp only [V.In] at h ⊢); first | omega | grind)) (by intro i h; ((try dsimp only [V.In] at h ⊢); first | omega | grind))
  refine V.done rfl ?_
  exact ⟨(by first | rfl | simp only [List.length_set]), FJ9, HG⟩

theorem jlast_j {w : World} {k kd : Nat} {EJ : Nat → Prop} {jv : JV} {dv : DiskV} (FJ : Jst w k kd EJ jv dv)   :
    Meets Try.prog 37 [.pointer (some ⟨k, 0, none⟩)] w fun r w' => r = .int .i64 (jv.base + jv.l.length) ∧ Gr w w' := by
  obtain ⟨E, D, FX, -⟩ := FJ.ex
  exact jlast_spec FX

set_option maxHeartbeats 900000 in
set_option maxRecDepth 10000 in
theorem jhard_spec {w : World} {k kd : Nat} {E : Nat → Prop} {jv : JV} (FX : Jn w k kd E jv)   :
    Meets Try.prog 33 [.pointer (some ⟨k, 0, none⟩)] w fun r w' => r = .agg #[.int .i64 jv.t, .int .i64 jv.v, .int .i64 jv.b] ∧ Gr w w' := by
 have FX0 := FX
 obtain ⟨SS, BB, aL, cL, aD, cD, ⟨⟨hkS, hkB⟩, hSB⟩, hEE, Fk, FL, Fd⟩ := FX.ex
 have hlt := FX.lt
 have hok := FX.ok
 obtain ⟨hb0, hb1, hll, hdl, hel⟩ := hok
 have hkl := Fk.lt
 have hEk : E k := hEE k (.inl rfl)
 have hSE : ∀ i, SS i → E i := fun i h => hEE i (.inr (.inl h))
 have hBE : ∀ i, BB i → E i := fun i h => hEE i (.inr (.inr h))
 have hSl : ∀ i, SS i → i < w.heap.size := fun i h => hlt i (hSE i h)
 have hBl : ∀ i, BB i → i < w.heap.size := fun i h => hlt i (hBE i h)
 have hl63 := FL.slB.len63
 have HG := V.Fr.refl [] w
 refine V.enter (n := 10) Try.func33 rfl rfl (by decide) rfl ?_
 refine V.seq ?_
 refine V.region ?_
 refine V.alloc zero47 rfl rfl rfl ?_
 rintro k1 w3 s5 s6 G4 Fk2
 have z7 := V.Fr.size G4
 try replace Fk := Fk.gr G4
 try replace FL := FL.gr G4
 try replace Fd := Fd.gr G4
 try replace FX := FX.gr G4
 replace HG := HG.grow G4
 clear G4
 try simp only [V.cellsL, V.spliceL] at Fk2
 refine V.nil ?_
 refine V.tN ?_
 refine V.seq ?_
 refine V.seq ?_
 refine V.region ?_
 refine V.run T_ok 2 rfl ?_
 refine V.nil ?_
 refine V.tN ?_
 refine V.condN rfl rfl ?_
 refine V.skip ?_
 refine V.tN ?_
 refine V.seq ?_
 refine V.region ?_
 refine V.run T_ok 3 rfl ?_
 refine V.loadO T_ok Fk rfl rfl rfl rfl rfl ?_
 refine V.storeO Fk2 rfl rfl rfl rfl sz47 rfl rfl rfl rfl ?_
 rintro w8 G9 z11 Fs10
 clear Fk2
 have z12 := V.Fr.size G9
 try replace Fk := Fk.ma G9
 first | replace FL := FL.mv1 G9 (by (try dsimp only [V.In]); first | omega | grind) | clear FL | skip
 first | replace Fd := Fd.mv1 G9 (by (try dsimp only [V.In]); first | omega | grind) | clear Fd | skip
 first | replace FX := FX.mv1 G9 (by (try dsimp only [V.In]); first | omega | grind) | clear FX | skip
 replace HG := HG.n1 G9
 clear G9
 have Fk2 := Fs10; clear Fs10
 simp only [V.spliceL, V.cellsL] at Fk2
 refine V.nil ?_
 refine V.tN ?_
 refine V.ret ?_
 refine V.done1 rfl (V.resV_cell T_ok Fk2 rfl rfl) ?_
 exact ⟨(by first | rfl | simp only [List.length_set]), HG⟩

theorem jhard_spec_j {w : World} {k kd : Nat} {EJ : Nat → Prop} {jv : JV} {dv : DiskV} (FJ : Jst w k kd EJ jv dv)   :
    Meets Try.prog 33 [.pointer (some ⟨k, 0, none⟩)] w fun r w' => r = .agg #[.int .i64 jv.t, .int .i64 jv.v, .int .i64 jv.b] ∧ Gr w w' := by
  obtain ⟨E, D, FX, -⟩ := FJ.ex
  exact jhard_spec FX

set_option maxHeartbeats 900000 in
set_option maxRecDepth 10000 in
theorem jhard_nil {w : World}    :
    Meets Try.prog 33 [.pointer none] w fun r w' => r = .agg #[.int .i64 0, .int .i64 0, .int .i64 0] ∧ Gr w w' := by
 have HG := V.Fr.refl [] w
 refine V.enter (n := 10) Try.func33 rfl rfl (by decide) rfl ?_
 refine V.seq ?_
 refine V.region ?_
 refine V.alloc zero47 rfl rfl rfl ?_
 rintro k1 w3 s5 s6 G4 Fk2
 have z7 := V.Fr.size G4
 replace HG := HG.grow G4
 clear G4
 try simp only [V.cellsL, V.spliceL] at Fk2
 refine V.nil ?_
 refine V.tN ?_
 refine V.seq ?_
 refine V.seq ?_
 refine V.region ?_
 refine V.run T_ok 2 rfl ?_
 refine V.nil ?_
 refine V.tN ?_
 refine V.condY rfl rfl ?_
 refine V.seq ?_
 refine V.region ?_
 refine V.mkStruct T_ok zero47 rfl rfl rfl rfl rfl ?_
 refine V.storeO Fk2 rfl rfl rfl rfl sz47 rfl rfl rfl rfl ?_
 rintro w8 G9 z11 Fs10
 clear Fk2
 have z12 := V.Fr.size G9
 replace HG := HG.n1 G9
 clear G9
 have Fk2 := Fs10; clear Fs10
 simp only [V.spliceL, V.cellsL] at Fk2
 refine V.nil ?_
 refine V.tN ?_
 refine V.ret ?_
 refine V.tR ?_
 refine V.done1 rfl (V.resV_cell T_ok Fk2 rfl rfl) ?_
 exact ⟨(by first | rfl | simp only [List.length_set]), HG⟩

set_option maxHeartbeats 900000 in
set_option maxRecDepth 10000 in
theorem jbase_spec {w : World} {k kd : Nat} {E : Nat → Prop} {jv : JV} (FX : Jn w k kd E jv)   :
    Meets Try.prog 35 [.pointer (some ⟨k, 0, none⟩)] w fun r w' => ∃ (ra64 : Option Addr) (rc64 : Nat), r = .tuple #[.int .i64 jv.base, .slice ra64 jv.data.length rc64] ∧ V.Row V.Cod.byte 5 w' V.None' w.heap.size w'.heap.size ra64 rc64 jv.data ∧ Gr w w' := by
 have FX0 := FX
 obtain ⟨SS, BB, aL, cL, aD, cD, ⟨⟨hkS, hkB⟩, hSB⟩, hEE, Fk, FL, Fd⟩ := FX.ex
 have hlt := FX.lt
 have hok := FX.ok
 obtain ⟨hb0, hb1, hll, hdl, hel⟩ := hok
 have hkl := Fk.lt
 have hEk : E k := hEE k (.inl rfl)
 have hSE : ∀ i, SS i → E i := fun i h => hEE i (.inr (.inl h))
 have hBE : ∀ i, BB i → E i := fun i h => hEE i (.inr (.inr h))
 have hSl : ∀ i, SS i → i < w.heap.size := fun i h => hlt i (hSE i h)
 have hBl : ∀ i, BB i → i < w.heap.size := fun i h => hlt i (hBE i h)
 have hl63 := FL.slB.len63
 have HG := V.Fr.refl [] w
 refine V.enter (n := 15) Try.func35 rfl rfl (by decide) rfl ?_
 refine V.seq ?_
 refine V.region ?_
 refine V.run T_ok 2 rfl ?_
 refine V.nil ?_
 refine V.tN ?_
 refine V.seq ?_
 refine V.seq ?_
 refine V.region ?_
 refine V.run T_ok 2 rfl ?_
 refine V.nil ?_
 refine V.tN ?_
 refine V.condN rfl rfl ?_
 refine V.skip ?_
 refine V.tN ?_
 refine V.seq ?_
 refine V.drawGT 9 (V.sel [(8, (fun v wz => ∃ (ra1 : Option Addr) (rc1 : Nat), v = .slice ra1 jv.data.length rc1 ∧ V.Row V.Cod.byte 5 wz V.None' w.heap.size wz.heap.size ra1 rc1 jv.data))]) mixed (by kernel_rfl) (V.mono_cons (by rintro v wz wz' g ⟨ra1, rc1, rfl, rF1⟩; exact ⟨ra1, rc1, rfl, (by first | exact (rF1.gr g).mono (V.In.sub (Nat.le_refl _) g.size) | exact rF1.gr g | exact (rF1.gr g).mono (fun _ h => h) (Nat.le_refl _) g.size | exact (rF1.gr g).mono (fun k h => ⟨h.1, Nat.lt_of_lt_of_le h.2 g.size⟩))⟩) V.mono_nil) ?_
 refine V.grun T_ok 3 rfl (V.sel_none rfl) ?_
 refine V.gloadO T_ok (fun w' h => Fk.gr h.1) rfl rfl rfl rfl rfl rfl ?_
 refine V.grun T_ok 3 rfl (V.sel_none rfl) ?_
 refine V.gloadO T_ok (fun w' h => Fk.gr h.1) rfl rfl rfl rfl rfl rfl ?_
 refine V.gcall (fun w' h => (clone_spec (Fd.gr h.1) (by first | omega | (simp only [List.length_take, List.length_drop, List.length_append, List.length_cons, List.length_nil, List.length_replicate, List.length_set, V.length_data, V.S_size]; omega))).mono (by rintro v w'' ⟨ra1, rc1, rfl, rF1, G⟩; exact ⟨⟨ra1, rc1, rfl, (by first | exact rF1.mono (V.In.mono_l h.1.size) | exact rF1 | exact rF1.mono (fun _ h => h) h.1.size (Nat.le_refl _))⟩, G⟩)) rfl rfl rfl rfl ?_
 rintro _ w4 - - ⟨a1, c2, rfl, -⟩
 refine V.gnil ?_
 rintro w5 G6 hH7
 have z8 := V.Fr.size G6
 try replace Fk := Fk.gr G6
 try replace FL := FL.gr G6
 try replace Fd := Fd.gr G6
 try replace FX := FX.gr G6
 replace HG := HG.grow G6
 clear G6
 have F3 : V.Row V.Cod.byte 5 w5 V.None' w.heap.size w5.heap.size a1 c2 jv.data := by
   obtain ⟨_, _, he, F0⟩ := (V.Hist.here (hH7 8))
   cases he
   exact F0
 clear hH7
 refine V.run T_ok 2 rfl ?_
 refine V.nil ?_
 refine V.tN ?_
 refine V.ret ?_
 refine V.done rfl ?_
 exact ⟨a1, c2, (by first | rfl | simp only [List.length_set]), F3.re, HG⟩

theorem jbase_spec_j {w : World} {k kd : Nat} {EJ : Nat → Prop} {jv : JV} {dv : DiskV} (FJ : Jst w k kd EJ jv dv)   :
    Meets Try.prog 35 [.pointer (some ⟨k, 0, none⟩)] w fun r w' => ∃ (ra64 : Option Addr) (rc64 : Nat), r = .tuple #[.int .i64 jv.base, .slice ra64 jv.data.length rc64] ∧ V.Row V.Cod.byte 5 w' V.None' w.heap.size w'.heap.size ra64 rc64 jv.data ∧ Gr w w' := by
  obtain ⟨E, D, FX, -⟩ := FJ.ex
  exact jbase_spec FX

set_option maxHeartbeats 900000 in
set_option maxRecDepth 10000 in
theorem jbase_nil {w : World}    :
    Meets Try.prog 35 [.pointer none] w fun r w' => r = .tuple #[.int .i64 0, .slice none 0 0] ∧ Gr w w' := by
 have HG := V.Fr.refl [] w
 refine V.enter (n := 15) Try.func35 rfl rfl (by decide) rfl ?_
 refine V.seq ?_
 refine V.region ?_
 refine V.run T_ok 2 rfl ?_
 refine V.nil ?_
 refine V.tN ?_
 refine V.seq ?_
 refine V.seq ?_
 refine V.region ?_
 refine V.run T_ok 2 rfl ?_
 refine V.nil ?_
 refine V.tN ?_
 refine V.condY rfl rfl ?_
 refine V.seq ?_
 refine V.region ?_
 refine V.run T_ok 2 rfl ?_
 refine V.nil ?_
 refine V.tN ?_
 refine V.ret ?_
 refine V.tR ?_
 refine V.done rfl ?_
 exact ⟨(by first | rfl | simp only [List.length_set]), HG⟩

set_option maxHeartbeats 900000 in
set_option maxRecDepth 10000 in
theorem jrec_spec {w : World} {k kd : Nat} {E : Nat → Prop} {jv : JV} (FX : Jn w k kd E jv)   :
    Meets Try.prog 36 [.pointer (some ⟨k, 0, none⟩)] w fun r w' => ∃ (ra65 : Option Addr) (rc65 : Nat), r = .slice ra65 jv.l.length rc65 ∧ V.Row V.Cod.byte.sl 22 w' V.None' w.heap.size w'.heap.size ra65 rc65 jv.l ∧ Gr w w' := by
 have FX0 := FX
 obtain ⟨SS, BB, aL, cL, aD, cD, ⟨⟨hkS, hkB⟩, hSB⟩, hEE, Fk, FL, Fd⟩ := FX.ex
 have hlt := FX.lt
 have hok := FX.ok
 obtain ⟨hb0, hb1, hll, hdl, hel⟩ := hok
 have hkl := Fk.lt
 have hEk : E k := hEE k (.inl rfl)
 have hSE : ∀ i, SS i → E i := fun i h => hEE i (.inr (.inl h))
 have hBE : ∀ i, BB i → E i := fun i h => hEE i (.inr (.inr h))
 have hSl : ∀ i, SS i → i < w.heap.size := fun i h => hlt i (hSE i h)
 have hBl : ∀ i, BB i → i < w.heap.size := fun i h => hlt i (hBE i h)
 have hl63 := FL.slB.len63
 have HG := V.Fr.refl [] w
 refine V.enter (n := 24) Try.func36 rfl rfl (by decide) rfl ?_
 refine V.seq ?_
 refine V.region ?_
 refine V.run T_ok 1 rfl ?_
 refine V.nil ?_
 refine V.tN ?_
 refine V.seq ?_
 refine V.seq ?_
 refine V.region ?_
 refine V.run T_ok 2 rfl ?_
 refine V.nil ?_
 refine V.tN ?_
 refine V.condN rfl rfl ?_
 refine V.skip ?_
 refine V.tN ?_
 refine V.seq ?_
 refine V.region ?_
 refine V.run T_ok 1 rfl ?_
 refine V.nil ?_
 refine V.tN ?_
 refine V.seq ?_
 refine V.seq ?_
 refine V.region ?_
 refine V.run T_ok 3 rfl ?_
 refine V.loadO T_ok Fk rfl rfl rfl rfl rfl ?_
 refine V.run T_ok 2 rfl ?_
 refine V.nil ?_
 refine V.tN ?_
 refine V.block ?_
 refine V.loopM (fun m e v2 => Fr [] w v2 ∧ w.heap.size ≤ v2.heap.size ∧ Cells v2 k [.pointer (some ⟨kd, 0, none⟩), .int .i64 jv.base, .slice aD jv.data.length cD, .slice aL jv.l.length cL, .int .i64 jv.t, .int .i64 jv.v, .int .i64 jv.b] 77 ∧ V.RowW V.Cod.byte.sl 22 v2 V.None' SS aL cL jv.l ∧ Sl V.Cod.byte v2 BB aD cD jv.data ∧ Jn v2 k kd E jv ∧ ∃ (i : Nat) (ra66 : Option Addr) (rc66 : Nat), m = jv.l.length - i ∧ i ≤ jv.l.length ∧ V.Row V.Cod.byte.sl 22 v2 V.None' w.heap.size v2.heap.size ra66 rc66 (jv.l.take i) ∧ e 3 = .slice ra66 (jv.l.take i).length rc66 ∧ e 11 = .slice aL jv.l.length cL ∧ e 12 = .int .i64 (jv.l.length : Int) ∧ e 13 = .int .i64 (i : Int)) ?_ ?_
 ·
  exact ⟨_, HG, (by omega), Fk, FL, Fd, FX, (0), none, 0, rfl, (Nat.zero_le _), V.Row.nil, rfl, rfl, rfl, rfl⟩
 clear HG Fk FL Fd FX
 rintro _ e v2 ⟨HG, z3, Fk, FL, Fd, FX, i, ra66, rc66, rfl, hi, rF66, he0_3, he0_11, he0_12, he0_13⟩
 refine V.knownC (t := 3) he0_3 ?_
 refine V.knownC (t := 11) he0_11 ?_
 refine V.knownC (t := 12) he0_12 ?_
 refine V.knownC (t := 13) he0_13 ?_
 refine V.seq ?_
 refine V.region ?_
 refine V.run T_ok 1 rfl ?_
 refine V.nil ?_
 refine V.tN ?_
 refine V.seq ?_
 refine V.condT rfl (fun h5 => ?_) (fun h5 => ?_)
 ·
  try replace h5 := V.dec h5
  try simp only [V.mk0, V.mk1, V.mk2, V.mk3] at h5
  refine V.skip ?_
  refine V.tN ?_
  refine V.seq ?_
  refine V.block ?_
  refine V.seq ?_
  refine V.region ?_
  refine V.elem T_ok FL.sl rfl rfl sz22 rfl rfl rfl rfl (by first | omega | (simp only [List.length_take, List.length_drop, List.length_append, List.length_cons, List.length_nil, List.length_replicate, List.length_set, V.length_data, V.S_size]; omega)) (by first | omega | (simp only [List.length_take, List.length_drop, List.length_append, List.length_cons, List.length_nil, List.length_replicate, List.length_set, V.length_data, V.S_size]; omega)) ?_
  rintro b4 o5 cs6 hx7 hb8 hR14 hA9
  obtain ⟨x10, hx10⟩ : ∃ z', jv.l[((i : Int)).toNat] = z' := ⟨_, rfl⟩
  rw [hx10] at hR14
  obtain ⟨a11, c12, rfl, F13⟩ := hR14
  try simp only [Int.toNat_natCast] at hx10 hx7
  refine V.loadA T_ok (o0 := o5) (off := 0) hA9 rfl rfl rfl rfl rfl ?_
  refine V.run T_ok 1 rfl ?_
  refine V.nil ?_
  refine V.tN ?_
  have hxl := hel x10 (hx10 ▸ List.getElem_mem (by omega))
  refine V.region ?_
  refine V.run T_ok 2 rfl ?_
  refine V.call (clone_spec F13 (by first | omega | (simp only [List.length_take, List.length_drop, List.length_append, List.length_cons, List.length_nil, List.length_replicate, List.length_set, V.length_data, V.S_size]; omega))) rfl rfl rfl ?_
  rintro _ w18 ⟨a15, c16, rfl, F17, G19⟩
  have z20 := V.Fr.size G19
  try replace Fk := Fk.gr G19
  try replace FL := FL.gr G19
  try replace Fd := Fd.gr G19
  try replace FX := FX.gr G19
  try replace rF66 := rF66.gr G19
  try replace F13 := F13.gr G19
  replace HG := HG.grow G19
  clear G19
  refine V.mkSlice T_ok zero22 rfl rfl sz22 rfl rfl rfl rfl rfl rfl ?_
  rintro k21 w24 s26 s27 G25 Fk22
  have z28 := V.Fr.size G25
  try replace Fk := Fk.gr G25
  try replace FL := FL.gr G25
  try replace Fd := Fd.gr G25
  try replace FX := FX.gr G25
  try replace rF66 := rF66.gr G25
  try replace F13 := F13.gr G25
  try replace F17 := F17.gr G25
  replace HG := HG.grow G25
  clear G25
  have F23 : Sl V.Cod.byte.sl w24 (fun k => k = k21 ∨ (V.In v2.heap.size w18.heap.size) k) (some ⟨k21, 0, none⟩) ([x10] : List (List UInt8)).length ([x10] : List (List UInt8)) := V.Cells.sl Fk22 (V.reps_cons (x := x10) ⟨_, _, rfl, F17.sl.mono (fun k h => .inr (h))⟩ rfl rfl) (.inl rfl) (by simp [maxLen])
  have hDu29 : ∀ k, (fun k => k = k21 ∨ (V.In v2.heap.size w18.heap.size) k) k → k < w24.heap.size := by intro k h; (try dsimp only at h); rcases h with h | h <;> first | omega | (have := h.2; omega) | (have := h.1; omega) | (have := hD k h; omega)
  refine V.appendR (rF66) (F23.from Try.underlying54) elT54_54 rfl rfl rfl rfl rfl (by first | omega | (simp only [List.length_take, List.length_drop, List.length_append, List.length_cons, List.length_nil, List.length_replicate, List.length_set, V.length_data, V.S_size]; omega)) (by unfold maxLen; first | omega | (simp only [List.length_take, List.length_drop, List.length_append, List.length_cons, List.length_nil, List.length_replicate, List.length_set, V.length_data, V.S_size]; omega)) (by omega) (by omega) (fun _ h => h.elim) (by first | omega | (intro k h; (try dsimp only at h); first | exact .inl h | exact .inr ⟨by have := h.1; omega, by have := h.2; omega⟩ | (rcases h with h | h <;> first | exact .inr ⟨by omega, by omega⟩ | exact .inr ⟨by have := h.1; omega, by have := h.2; omega⟩ | exact .inl h))) ?_
  rintro a30 c31 w33 G34 s35 F32
  clear rF66
  clear F23
  have z36 := Go.RowKit.Below.size G34
  first | replace Fk := V.Cells.bl Fk G34 (by omega) | clear Fk | skip
  first | replace FL := V.RowW.bl FL G34 (by intro j h; (try dsimp only [V.In] at h ⊢); first | omega | grind) | clear FL | skip
  first | replace Fd := V.Sl.bl Fd G34 (by intro j h; (try dsimp only [V.In] at h ⊢); first | omega | grind) | clear Fd | skip
  first | replace FX := FX.bl1 G34 (by intro j h; (try dsimp only [V.In] at h ⊢); first | omega | grind) | clear FX | skip
  first | replace F13 := V.Sl.bl F13 G34 (by first | exact (fun _ h => by have := h.2; omega) | (intro k h; have := hD k h; omega)) | clear F13 | skip
  try replace F17 := F17.bm G34
  first | replace Fk22 := V.Cells.bl Fk22 G34 (by omega) | clear Fk22 | skip
  replace HG := HG.bl (Go.RowKit.Below.mono G34 (by omega))
  clear G34
  refine V.run T_ok 1 rfl ?_
  refine V.nil ?_
  refine V.bN ?_
  refine V.tN ?_
  refine V.region ?_
  refine V.addN rfl rfl rfl rfl rfl (by first | omega | (simp only [List.length_take, List.length_drop, List.length_append, List.length_cons, List.length_nil, List.length_replicate, List.length_set, V.length_data, V.S_size]; omega)) (by first | omega | (simp only [List.length_take, List.length_drop, List.length_append, List.length_cons, List.length_nil, List.length_replicate, List.length_set, V.length_data, V.S_size]; omega)) ?_
  refine V.run T_ok 1 rfl ?_
  refine V.nil ?_
  refine V.tN ?_
  have hr37 : (jv.l.take i) ++ ([x10] : List (List UInt8)) = jv.l.take (i + 1) := by subst hx10; rw [List.take_succ_eq_append_getElem (by omega)]
  rw [hr37] at F32 ⊢
  clear hr37
  
  exact ⟨_, (by omega), HG, (by omega), Fk, FL, Fd, FX, (i + 1), a30, c31, rfl, (by omega), F32.re, rfl, rfl, rfl, rfl⟩
 ·
  try replace h5 := V.dec h5
  try simp only [V.mk0, V.mk1, V.mk2, V.mk3] at h5
  refine V.exit ?_
  refine V.tX ?_
  refine V.tX ?_
  refine V.bE ?_
  refine V.tN ?_
  refine V.seq ?_
  refine V.region ?_
  refine V.run T_ok 2 rfl ?_
  refine V.nil ?_
  refine V.tN ?_
  refine V.ret ?_
  have hr38 : jv.l.take i = jv.l := List.take_of_length_le (by omega)
  rw [hr38] at rF66 ⊢
  clear hr38
  refine V.done rfl ?_
  exact ⟨ra66, rc66, (by first | rfl | simp only [List.length_set]), rF66.re, HG⟩

theorem jrec_spec_j {w : World} {k kd : Nat} {EJ : Nat → Prop} {jv : JV} {dv : DiskV} (FJ : Jst w k kd EJ jv dv)   :
    Meets Try.prog 36 [.pointer (some ⟨k, 0, none⟩)] w fun r w' => ∃ (ra65 : Option Addr) (rc65 : Nat), r = .slice ra65 jv.l.length rc65 ∧ V.Row V.Cod.byte.sl 22 w' V.None' w.heap.size w'.heap.size ra65 rc65 jv.l ∧ Gr w w' := by
  obtain ⟨E, D, FX, -⟩ := FJ.ex
  exact jrec_spec FX

set_option maxHeartbeats 900000 in
set_option maxRecDepth 10000 in
theorem jrec_nil {w : World}    :
    Meets Try.prog 36 [.pointer none] w fun r w' => r = .slice none 0 0 ∧ Gr w w' := by
 have HG := V.Fr.refl [] w
 refine V.enter (n := 24) Try.func36 rfl rfl (by decide) rfl ?_
 refine V.seq ?_
 refine V.region ?_
 refine V.run T_ok 1 rfl ?_
 refine V.nil ?_
 refine V.tN ?_
 refine V.seq ?_
 refine V.seq ?_
 refine V.region ?_
 refine V.run T_ok 2 rfl ?_
 refine V.nil ?_
 refine V.tN ?_
 refine V.condY rfl rfl ?_
 refine V.seq ?_
 refine V.region ?_
 refine V.run T_ok 1 rfl ?_
 refine V.nil ?_
 refine V.tN ?_
 refine V.ret ?_
 refine V.tR ?_
 refine V.done rfl ?_
 exact ⟨(by first | rfl | simp only [List.length_set]), HG⟩

set_option maxHeartbeats 900000 in
set_option maxRecDepth 10000 in
theorem jcut_nil {w : World}  {n : Int}  :
    Meets Try.prog 21 [.pointer none, .int .i64 n] w fun r w' => r = .int .i64 1 ∧ Gr w w' := by
 have HG := V.Fr.refl [] w
 refine V.enter (n := 31) Try.func21 rfl rfl (by decide) rfl ?_
 refine V.seq ?_
 refine V.region ?_
 refine V.run T_ok 1 rfl ?_
 refine V.nil ?_
 refine V.tN ?_
 refine V.seq ?_
 refine V.block ?_
 refine V.seq ?_
 refine V.region ?_
 refine V.run T_ok 3 rfl ?_
 refine V.nil ?_
 refine V.tN ?_
 refine V.condY rfl rfl ?_
 refine V.seq ?_
 refine V.region ?_
 refine V.run T_ok 1 rfl ?_
 refine V.nil ?_
 refine V.tN ?_
 refine V.ret ?_
 refine V.bR ?_
 refine V.tR ?_
 refine V.done rfl ?_
 exact ⟨(by first | rfl | simp only [List.length_set]), HG⟩

set_option maxHeartbeats 900000 in
set_option maxRecDepth 10000 in
theorem jcut_spec {w : World} {k kd : Nat} {EJ : Nat → Prop} {jv : JV} {dv : DiskV} (FJ : Jst w k kd EJ jv dv) {n : Int} (hs : jv.l.length + 1 ≤ 1000000) :
    Meets Try.prog 21 [.pointer (some ⟨k, 0, none⟩), .int .i64 n] w fun r w' => r = .int .i64 (cutE jv dv n) ∧ Jst w' k kd (fun i => EJ i ∨ V.In w.heap.size w'.heap.size i) (cutJ jv dv n) (cutD jv dv n) ∧ V.FrE EJ w w' := by
 obtain ⟨E, D, FX, FD, ⟨hED, hEkd⟩, hEJ, hDJ, hKJ⟩ := FJ.ex
 have hJl := FJ.lt
 have hkdl := FD.klt
 have hnd := FD.nk
 obtain ⟨hs0, hs1, hs2, hs3⟩ := FD.small
 have FX0 := FX
 obtain ⟨SS, BB, aL, cL, aD, cD, ⟨⟨hkS, hkB⟩, hSB⟩, hEE, Fk, FL, Fd⟩ := FX.ex
 have hlt := FX.lt
 have hok := FX.ok
 obtain ⟨hb0, hb1, hll, hdl, hel⟩ := hok
 have hkl := Fk.lt
 have hEk : E k := hEE k (.inl rfl)
 have hSE : ∀ i, SS i → E i := fun i h => hEE i (.inr (.inl h))
 have hBE : ∀ i, BB i → E i := fun i h => hEE i (.inr (.inr h))
 have hSl : ∀ i, SS i → i < w.heap.size := fun i h => hlt i (hSE i h)
 have hBl : ∀ i, BB i → i < w.heap.size := fun i h => hlt i (hBE i h)
 have hl63 := FL.slB.len63
 have hkk : kd ≠ k := fun h => hEkd (h ▸ hEk)
 have hkJ : EJ k := hEJ k hEk
 have hDl := FD.lt
 have HG := V.FrE.refl EJ w
 refine V.enter (n := 31) Try.func21 rfl rfl (by decide) rfl ?_
 refine V.seq ?_
 refine V.region ?_
 refine V.run T_ok 1 rfl ?_
 refine V.nil ?_
 refine V.tN ?_
 refine V.seq ?_
 refine V.block ?_
 refine V.seq ?_
 refine V.region ?_
 refine V.run T_ok 3 rfl ?_
 refine V.nil ?_
 refine V.tN ?_
 refine V.condN rfl rfl ?_
 refine V.seq ?_
 refine V.region ?_
 refine V.run T_ok 4 rfl ?_
 refine V.loadO T_ok Fk rfl rfl rfl rfl rfl ?_
 refine V.run T_ok 2 rfl ?_
 refine V.split (j := 6) (t := 15) rfl rfl (fun g3_6 => ?_) (fun g3_6 => ?_)
 ·
  try replace g3_6 := V.dec g3_6
  try simp only [V.mk0, V.mk1, V.mk2, V.mk3] at g3_6
  refine V.run T_ok 6 rfl ?_
  refine V.nil ?_
  refine V.tN ?_
  refine V.condY rfl rfl ?_
  refine V.seq ?_
  refine V.region ?_
  refine V.run T_ok 1 rfl ?_
  refine V.nil ?_
  refine V.tN ?_
  refine V.ret ?_
  refine V.bR ?_
  refine V.tR ?_
  rw [show cutJ jv dv n = jv by unfold cutJ; rw [if_pos (by grind)], show cutD jv dv n = dv by unfold cutD; rw [if_pos (by grind)], show cutE jv dv n = 71 by unfold cutE; rw [if_pos (by grind)]]
  have FJ9 := FJ.mono (X := (fun i => EJ i ∨ V.In w.heap.size w.heap.size i)) (by intro i h; ((try dsimp only [V.In] at h ⊢); first | omega | grind)) (by intro i h; ((try dsimp only [V.In] at h ⊢); first | omega | grind))
  refine V.done rfl ?_
  exact ⟨(by first | rfl | simp only [List.length_set]), FJ9, HG⟩
 ·
  try replace g3_6 := V.dec g3_6
  try simp only [V.mk0, V.mk1, V.mk2, V.mk3] at g3_6
  refine V.run T_ok 2 rfl ?_
  refine V.yes rfl rfl rfl ?_
  refine V.call (jlast_j FJ) rfl rfl rfl ?_
  rintro _ w1 ⟨rfl, G2⟩
  have z3 := V.Fr.size G2
  try replace Fk := Fk.gr G2
  try replace FJ := FJ.gr G2
  replace HG := HG.grow G2
  clear G2
  refine V.run T_ok 3 rfl ?_
  refine V.nil ?_
  refine V.tN ?_
  refine V.condT rfl (fun h3 => ?_) (fun h3 => ?_)
  ·
   try replace h3 := V.dec h3
   try simp only [V.mk0, V.mk1, V.mk2, V.mk3] at h3
   refine V.seq ?_
   refine V.region ?_
   refine V.run T_ok 1 rfl ?_
   refine V.nil ?_
   refine V.tN ?_
   refine V.ret ?_
   refine V.bR ?_
   refine V.tR ?_
   rw [show cutJ jv dv n = jv by unfold cutJ; rw [if_pos (by grind)], show cutD jv dv n = dv by unfold cutD; rw [if_pos (by grind)], show cutE jv dv n = 71 by unfold cutE; rw [if_pos (by grind)]]
   have FJ9 := FJ.mono (X := (fun i => EJ i ∨ V.In w.heap.size w1.heap.size i)) (by intro i h; ((try dsimp only [V.In] at h ⊢); first | omega | grind)) (by intro i h; ((try dsimp only [V.In] at h ⊢); first | omega | grind))
   refine V.done rfl ?_
   exact ⟨(by first | rfl | simp only [List.length_set]), FJ9, HG⟩
  ·
   try replace h3 := V.dec h3
   try simp only [V.mk0, V.mk1, V.mk2, V.mk3] at h3
   refine V.skip ?_
   refine V.bN ?_
   refine V.tN ?_
   refine V.seq ?_
   have hn9 := numB_len9 (v := 1) (by decide)
   have hn92 := numB_len9 (v := 2) (by decide)
   have hn93 := numB_len9 (v := 3) (by decide)
   have htb : ∀ x : List UInt8, x.length ≤ 65516 → (textB x).length ≤ 65525 := fun x hx => by unfold textB; have := numB_len9 (v := (x.length : Int)) (by omega); rw [Int.toNat_natCast] at this; rw [List.length_append]; omega
   have hn0 := numB_len9 (v := n - jv.base) (by omega)
   refine V.drawGT 9 (V.sel [(1, (fun v wz => ∃ (ra2 : Option Addr) (rc2 : Nat), v = .slice ra2 (([]) ++ numB (2 : Int).toNat).length rc2 ∧ V.Row V.Cod.byte 5 wz V.None' w1.heap.size wz.heap.size ra2 rc2 (([]) ++ numB (2 : Int).toNat))), (8, (fun v wz => ∃ (ra2 : Option Addr) (rc2 : Nat), v = .slice ra2 ((([]) ++ numB (2 : Int).toNat) ++ numB (n - jv.base).toNat).length rc2 ∧ V.Row V.Cod.byte 5 wz V.None' w1.heap.size wz.heap.size ra2 rc2 ((([]) ++ numB (2 : Int).toNat) ++ numB (n - jv.base).toNat)))]) mixed (by kernel_rfl) (V.mono_cons (by rintro v wz wz' g ⟨ra2, rc2, rfl, rF2⟩; exact ⟨ra2, rc2, rfl, (by first | exact (rF2.gr g).mono (V.In.sub (Nat.le_refl _) g.size) | exact rF2.gr g | exact (rF2.gr g).mono (fun _ h => h) (Nat.le_refl _) g.size | exact (rF2.gr g).mono (fun k h => ⟨h.1, Nat.lt_of_lt_of_le h.2 g.size⟩))⟩) (V.mono_cons (by rintro v wz wz' g ⟨ra2, rc2, rfl, rF2⟩; exact ⟨ra2, rc2, rfl, (by first | exact (rF2.gr g).mono (V.In.sub (Nat.le_refl _) g.size) | exact rF2.gr g | exact (rF2.gr g).mono (fun _ h => h) (Nat.le_refl _) g.size | exact (rF2.gr g).mono (fun k h => ⟨h.1, Nat.lt_of_lt_of_le h.2 g.size⟩))⟩) V.mono_nil)) ?_
   refine V.grun T_ok 1 rfl (V.sel_none rfl) ?_
   refine V.gcall (fun w' h => (p_number (v := 2) (Sl.nil _ _ V.None' _ _ (Nat.zero_le _)) (fun _ h => h.elim) (by first | omega | (simp only [List.length_take, List.length_drop, List.length_append, List.length_cons, List.length_nil, List.length_replicate, List.length_set, V.length_data, V.S_size]; omega)) (by omega)).mono (by rintro v w'' ⟨ra2, rc2, rfl, rF2, G⟩; exact ⟨⟨ra2, rc2, rfl, (by first | exact rF2.mono (V.In.mono_l h.1.size) | exact rF2 | exact rF2.mono (fun _ h => h) h.1.size (Nat.le_refl _))⟩, G⟩)) rfl rfl rfl rfl ?_
   rintro _ w7 - - ⟨a4, c5, rfl, -⟩
   refine V.grun T_ok 4 rfl (V.sel_none rfl) ?_
   refine V.gloadO T_ok (fun w' h => Fk.gr h.1) rfl rfl rfl rfl rfl rfl ?_
   refine V.gsubM rfl rfl rfl rfl rfl (by first | omega | (simp only [List.length_take, List.length_drop, List.length_append, List.length_cons, List.length_nil, List.length_replicate, List.length_set, V.length_data, V.S_size]; omega)) (by first | omega | (simp only [List.length_take, List.length_drop, List.length_append, List.length_cons, List.length_nil, List.length_replicate, List.length_set, V.length_data, V.S_size]; omega)) ?_
   refine V.gcall (fun w' h => (p_number (v := (n - jv.base)) (by obtain ⟨_, _, he, F0⟩ := (V.Hist.here (h.get (i := 1) rfl)); cases he; exact F0.sl) (fun k hk => by have := Fr.size h.1; have := hk.2; omega) (by first | omega | (simp only [List.length_take, List.length_drop, List.length_append, List.length_cons, List.length_nil, List.length_replicate, List.length_set, V.length_data, V.S_size]; omega)) (by omega)).mono (by rintro v w'' ⟨ra2, rc2, rfl, rF2, G⟩; exact ⟨⟨ra2, rc2, rfl, (by first | exact rF2.mono (V.In.mono_l h.1.size) | exact rF2 | exact rF2.mono (fun _ h => h) h.1.size (Nat.le_refl _))⟩, G⟩)) rfl rfl rfl rfl ?_
   rintro _ w11 - - ⟨a8, c9, rfl, -⟩
   refine V.gnil ?_
   rintro w12 G13 hH14
   have z15 := V.Fr.size G13
   try replace Fk := Fk.gr G13
   try replace FJ := FJ.gr G13
   replace HG := HG.grow G13
   clear G13
   have F6 : V.Row V.Cod.byte 5 w12 V.None' w1.heap.size w12.heap.size a4 c5 (([]) ++ numB (2 : Int).toNat) := by
     obtain ⟨_, _, he, F0⟩ := (V.Hist.here (V.Hist.old (hH14 1)))
     cases he
     exact F0
   have F10 : V.Row V.Cod.byte 5 w12 V.None' w1.heap.size w12.heap.size a8 c9 ((([]) ++ numB (2 : Int).toNat) ++ numB (n - jv.base).toNat) := by
     obtain ⟨_, _, he, F0⟩ := (V.Hist.here (hH14 8))
     cases he
     exact F0
   clear hH14
   refine V.call (does_spec FJ F10.sl (fun k hk => by have := hk.2; omega) (by first | assumption | omega) (by first | omega | (simp only [List.length_take, List.length_drop, List.length_append, List.length_cons, List.length_nil, List.length_replicate, List.length_set, V.length_data, V.S_size]; omega)) (by (try dsimp only [V.In]); first | assumption | omega | grind)) rfl rfl rfl ?_
   rintro _ w17 ⟨rfl, F16, G18⟩
   have z19 := V.FrE.size G18
   first | replace Fk := Fk.mvE G18 (by (try dsimp only [V.In]); first | omega | grind) | clear Fk | skip
   first | replace FJ := FJ.mvE G18 (by intro j h hd; (try dsimp only [V.In] at h hd ⊢); first | omega | grind) | clear FJ | skip
   first | replace F6 := F6.mvE G18 (by intro j h hd; (try dsimp only [V.In] at h hd ⊢); first | omega | grind) | clear F6 | skip
   first | replace F10 := F10.mvE G18 (by intro j h hd; (try dsimp only [V.In] at h hd ⊢); first | omega | grind) | clear F10 | skip
   replace HG := HG.stepE G18 (by intro i h; (try dsimp only [V.In] at h ⊢); first | omega | grind)
   clear G18
   refine V.run T_ok 1 rfl ?_
   refine V.nil ?_
   refine V.tN ?_
   refine V.ret ?_
   rw [show cutJ jv dv n = doesJ jv dv (numB (2 : Int).toNat ++ numB (n - jv.base).toNat) by unfold cutJ; rw [if_neg (by grind)]; rfl, show cutD jv dv n = doesD dv (numB (2 : Int).toNat ++ numB (n - jv.base).toNat) by unfold cutD; rw [if_neg (by grind)]; rfl, show cutE jv dv n = doesE jv dv (numB (2 : Int).toNat ++ numB (n - jv.base).toNat) by unfold cutE; rw [if_neg (by grind)]; rfl]
   have FJ9 := F16.mono (X := (fun i => EJ i ∨ V.In w.heap.size w17.heap.size i)) (by intro i h; ((try dsimp only [V.In] at h ⊢); first | omega | grind)) (by intro i h; ((try dsimp only [V.In] at h ⊢); first | omega | grind))
   refine V.done rfl ?_
   exact ⟨(by first | rfl | simp only [List.length_set]), FJ9, HG⟩

set_option maxHeartbeats 900000 in
set_option maxRecDepth 10000 in
theorem jreb_nil {w : World}  {n : Int} {D_b : Nat → Prop} {c_b : Nat} {a_b : Option Addr} {b : List UInt8} (F_b : Sl V.Cod.byte w D_b a_b c_b b)  :
    Meets Try.prog 23 [.pointer none, .int .i64 n, .slice a_b b.length c_b] w fun r w' => r = .int .i64 1 ∧ Gr w w' := by
 replace F_b := F_b.flb
 have HG := V.Fr.refl [] w
 refine V.enter (n := 30) Try.func23 rfl rfl (by decide) rfl ?_
 refine V.seq ?_
 refine V.region ?_
 refine V.run T_ok 1 rfl ?_
 refine V.nil ?_
 refine V.tN ?_
 refine V.seq ?_
 refine V.block ?_
 refine V.seq ?_
 refine V.region ?_
 refine V.run T_ok 3 rfl ?_
 refine V.nil ?_
 refine V.tN ?_
 refine V.condY rfl rfl ?_
 refine V.seq ?_
 refine V.region ?_
 refine V.run T_ok 1 rfl ?_
 refine V.nil ?_
 refine V.tN ?_
 refine V.ret ?_
 refine V.bR ?_
 refine V.tR ?_
 refine V.done rfl ?_
 exact ⟨(by first | rfl | simp only [List.length_set]), HG⟩

set_option maxHeartbeats 900000 in
set_option maxRecDepth 10000 in
theorem jreb_spec {w : World} {k kd : Nat} {EJ : Nat → Prop} {jv : JV} {dv : DiskV} (FJ : Jst w k kd EJ jv dv) {n : Int} {D_b : Nat → Prop} {c_b : Nat} {a_b : Option Addr} {b : List UInt8} (F_b : Sl V.Cod.byte w D_b a_b c_b b) (hD_b : ∀ k, D_b k → k < w.heap.size) (hs : jv.l.length + 1 ≤ 1000000) :
    Meets Try.prog 23 [.pointer (some ⟨k, 0, none⟩), .int .i64 n, .slice a_b b.length c_b] w fun r w' => r = .int .i64 (rebE jv dv n b) ∧ Jst w' k kd (fun i => EJ i ∨ V.In w.heap.size w'.heap.size i) (rebJ jv dv n b) (rebD dv n b) ∧ V.FrE EJ w w' := by
 obtain ⟨E, D, FX, FD, ⟨hED, hEkd⟩, hEJ, hDJ, hKJ⟩ := FJ.ex
 have hJl := FJ.lt
 have hkdl := FD.klt
 have hnd := FD.nk
 obtain ⟨hs0, hs1, hs2, hs3⟩ := FD.small
 have FX0 := FX
 obtain ⟨SS, BB, aL, cL, aD, cD, ⟨⟨hkS, hkB⟩, hSB⟩, hEE, Fk, FL, Fd⟩ := FX.ex
 have hlt := FX.lt
 have hok := FX.ok
 obtain ⟨hb0, hb1, hll, hdl, hel⟩ := hok
 have hkl := Fk.lt
 have hEk : E k := hEE k (.inl rfl)
 have hSE : ∀ i, SS i → E i := fun i h => hEE i (.inr (.inl h))
 have hBE : ∀ i, BB i → E i := fun i h => hEE i (.inr (.inr h))
 have hSl : ∀ i, SS i → i < w.heap.size := fun i h => hlt i (hSE i h)
 have hBl : ∀ i, BB i → i < w.heap.size := fun i h => hlt i (hBE i h)
 have hl63 := FL.slB.len63
 have hkk : kd ≠ k := fun h => hEkd (h ▸ hEk)
 have hkJ : EJ k := hEJ k hEk
 have hDl := FD.lt
 have HG := V.FrE.refl EJ w
 refine V.enter (n := 30) Try.func23 rfl rfl (by decide) rfl ?_
 refine V.seq ?_
 refine V.region ?_
 refine V.run T_ok 1 rfl ?_
 refine V.nil ?_
 refine V.tN ?_
 refine V.seq ?_
 refine V.block ?_
 refine V.seq ?_
 refine V.region ?_
 refine V.run T_ok 3 rfl ?_
 refine V.nil ?_
 refine V.tN ?_
 refine V.condN rfl rfl ?_
 refine V.seq ?_
 refine V.region ?_
 refine V.run T_ok 3 rfl ?_
 refine V.orG T_ok 2 2 13 rfl rfl rfl rfl rfl rfl rfl rfl ?_
 refine V.run T_ok 1 rfl ?_
 refine V.orG T_ok 3 6 17 rfl rfl rfl rfl rfl rfl rfl rfl ?_
 refine V.run T_ok 1 rfl ?_
 refine V.nil ?_
 refine V.tN ?_
 refine V.condT rfl (fun h3 => ?_) (fun h3 => ?_)
 ·
  try replace h3 := V.dec h3
  try simp only [V.mk0, V.mk1, V.mk2, V.mk3] at h3
  refine V.seq ?_
  refine V.region ?_
  refine V.run T_ok 1 rfl ?_
  refine V.nil ?_
  refine V.tN ?_
  refine V.ret ?_
  refine V.bR ?_
  refine V.tR ?_
  rw [show rebJ jv dv n b = jv by unfold rebJ; rw [if_pos (by grind)], show rebD dv n b = dv by unfold rebD; rw [if_pos (by grind)], show rebE jv dv n b = 71 by unfold rebE; rw [if_pos (by grind)]]
  have FJ9 := FJ.mono (X := (fun i => EJ i ∨ V.In w.heap.size w.heap.size i)) (by intro i h; ((try dsimp only [V.In] at h ⊢); first | omega | grind)) (by intro i h; ((try dsimp only [V.In] at h ⊢); first | omega | grind))
  refine V.done rfl ?_
  exact ⟨(by first | rfl | simp only [List.length_set]), FJ9, HG⟩
 ·
  try replace h3 := V.dec h3
  try simp only [V.mk0, V.mk1, V.mk2, V.mk3] at h3
  refine V.skip ?_
  refine V.bN ?_
  refine V.tN ?_
  refine V.seq ?_
  have hn9 := numB_len9 (v := 1) (by decide)
  have hn92 := numB_len9 (v := 2) (by decide)
  have hn93 := numB_len9 (v := 3) (by decide)
  have htb : ∀ x : List UInt8, x.length ≤ 65516 → (textB x).length ≤ 65525 := fun x hx => by unfold textB; have := numB_len9 (v := (x.length : Int)) (by omega); rw [Int.toNat_natCast] at this; rw [List.length_append]; omega
  have htb2 := htb (V.S b).data.toList (by show b.length ≤ _; omega)
  have hn0 := numB_len9 (v := n) (by omega)
  refine V.drawGT 7 (V.sel [(1, (fun v wz => ∃ (ra2 : Option Addr) (rc2 : Nat), v = .slice ra2 (([]) ++ numB (3 : Int).toNat).length rc2 ∧ V.Row V.Cod.byte 5 wz V.None' w.heap.size wz.heap.size ra2 rc2 (([]) ++ numB (3 : Int).toNat))), (3, (fun v wz => ∃ (ra2 : Option Addr) (rc2 : Nat), v = .slice ra2 ((([]) ++ numB (3 : Int).toNat) ++ numB n.toNat).length rc2 ∧ V.Row V.Cod.byte 5 wz V.None' w.heap.size wz.heap.size ra2 rc2 ((([]) ++ numB (3 : Int).toNat) ++ numB n.toNat))), (6, (fun v wz => ∃ (ra3 : Option Addr) (rc3 : Nat), v = .slice ra3 (((([]) ++ numB (3 : Int).toNat) ++ numB n.toNat) ++ textB (V.S b).data.toList).length rc3 ∧ V.Row V.Cod.byte 5 wz V.None' w.heap.size wz.heap.size ra3 rc3 (((([]) ++ numB (3 : Int).toNat) ++ numB n.toNat) ++ textB (V.S b).data.toList)))]) mixed (by kernel_rfl) (V.mono_cons (by rintro v wz wz' g ⟨ra2, rc2, rfl, rF2⟩; exact ⟨ra2, rc2, rfl, (by first | exact (rF2.gr g).mono (V.In.sub (Nat.le_refl _) g.size) | exact rF2.gr g | exact (rF2.gr g).mono (fun _ h => h) (Nat.le_refl _) g.size | exact (rF2.gr g).mono (fun k h => ⟨h.1, Nat.lt_of_lt_of_le h.2 g.size⟩))⟩) (V.mono_cons (by rintro v wz wz' g ⟨ra2, rc2, rfl, rF2⟩; exact ⟨ra2, rc2, rfl, (by first | exact (rF2.gr g).mono (V.In.sub (Nat.le_refl _) g.size) | exact rF2.gr g | exact (rF2.gr g).mono (fun _ h => h) (Nat.le_refl _) g.size | exact (rF2.gr g).mono (fun k h => ⟨h.1, Nat.lt_of_lt_of_le h.2 g.size⟩))⟩) (V.mono_cons (by rintro v wz wz' g ⟨ra3, rc3, rfl, rF3⟩; exact ⟨ra3, rc3, rfl, (by first | exact (rF3.gr g).mono (V.In.sub (Nat.le_refl _) g.size) | exact rF3.gr g | exact (rF3.gr g).mono (fun _ h => h) (Nat.le_refl _) g.size | exact (rF3.gr g).mono (fun k h => ⟨h.1, Nat.lt_of_lt_of_le h.2 g.size⟩))⟩) V.mono_nil))) ?_
  refine V.grun T_ok 1 rfl (V.sel_none rfl) ?_
  refine V.gcall (fun w' h => (p_number (v := 3) (Sl.nil _ _ V.None' _ _ (Nat.zero_le _)) (fun _ h => h.elim) (by first | omega | (simp only [List.length_take, List.length_drop, List.length_append, List.length_cons, List.length_nil, List.length_replicate, List.length_set, V.length_data, V.S_size]; omega)) (by omega)).mono (by rintro v w'' ⟨ra2, rc2, rfl, rF2, G⟩; exact ⟨⟨ra2, rc2, rfl, (by first | exact rF2.mono (V.In.mono_l h.1.size) | exact rF2 | exact rF2.mono (fun _ h => h) h.1.size (Nat.le_refl _))⟩, G⟩)) rfl rfl rfl rfl ?_
  rintro _ w4 - - ⟨a1, c2, rfl, -⟩
  refine V.grun T_ok 1 rfl (V.sel_none rfl) ?_
  refine V.gcall (fun w' h => (p_number (v := n) (by obtain ⟨_, _, he, F0⟩ := (V.Hist.here (h.get (i := 1) rfl)); cases he; exact F0.sl) (fun k hk => by have := Fr.size h.1; have := hk.2; omega) (by first | omega | (simp only [List.length_take, List.length_drop, List.length_append, List.length_cons, List.length_nil, List.length_replicate, List.length_set, V.length_data, V.S_size]; omega)) (by omega)).mono (by rintro v w'' ⟨ra2, rc2, rfl, rF2, G⟩; exact ⟨⟨ra2, rc2, rfl, (by first | exact rF2.mono (V.In.mono_l h.1.size) | exact rF2 | exact rF2.mono (fun _ h => h) h.1.size (Nat.le_refl _))⟩, G⟩)) rfl rfl rfl rfl ?_
  rintro _ w8 - - ⟨a5, c6, rfl, -⟩
  refine V.grun T_ok 1 rfl (V.sel_none rfl) ?_
  refine V.gtoStr (fun w' h => F_b.gr h.1) Try.underlying22 Try.underlying5 Try.underlying9 rfl rfl rfl rfl rfl ?_
  refine V.gcall (fun w' h => (p_text (s := (V.S b)) (by obtain ⟨_, _, he, F0⟩ := (V.Hist.here (h.get (i := 3) rfl)); cases he; exact F0.sl) (fun k hk => by have := Fr.size h.1; have := hk.2; omega) (by first | omega | (simp only [List.length_take, List.length_drop, List.length_append, List.length_cons, List.length_nil, List.length_replicate, List.length_set, V.length_data, V.S_size]; omega)) (by first | omega | decide | (simp only [V.S_size, List.length_cons, List.length_nil]; omega))).mono (by rintro v w'' ⟨ra3, rc3, rfl, rF3, G⟩; exact ⟨⟨ra3, rc3, rfl, (by first | exact rF3.mono (V.In.mono_l h.1.size) | exact rF3 | exact rF3.mono (fun _ h => h) h.1.size (Nat.le_refl _))⟩, G⟩)) rfl rfl rfl rfl ?_
  rintro _ w12 - - ⟨a9, c10, rfl, -⟩
  refine V.gnil ?_
  rintro w13 G14 hH15
  have z16 := V.Fr.size G14
  try replace Fk := Fk.gr G14
  try replace FJ := FJ.gr G14
  try replace F_b := F_b.gr G14
  replace HG := HG.grow G14
  clear G14
  have F3 : V.Row V.Cod.byte 5 w13 V.None' w.heap.size w13.heap.size a1 c2 (([]) ++ numB (3 : Int).toNat) := by
    obtain ⟨_, _, he, F0⟩ := (V.Hist.here (V.Hist.old (V.Hist.old (hH15 1))))
    cases he
    exact F0
  have F7 : V.Row V.Cod.byte 5 w13 V.None' w.heap.size w13.heap.size a5 c6 ((([]) ++ numB (3 : Int).toNat) ++ numB n.toNat) := by
    obtain ⟨_, _, he, F0⟩ := (V.Hist.here (V.Hist.old (hH15 3)))
    cases he
    exact F0
  have F11 : V.Row V.Cod.byte 5 w13 V.None' w.heap.size w13.heap.size a9 c10 (((([]) ++ numB (3 : Int).toNat) ++ numB n.toNat) ++ textB (V.S b).data.toList) := by
    obtain ⟨_, _, he, F0⟩ := (V.Hist.here (hH15 6))
    cases he
    exact F0
  clear hH15
  refine V.call (does_spec FJ F11.sl (fun k hk => by have := hk.2; omega) (by first | assumption | omega) (by first | omega | (simp only [List.length_take, List.length_drop, List.length_append, List.length_cons, List.length_nil, List.length_replicate, List.length_set, V.length_data, V.S_size]; omega)) (by (try dsimp only [V.In]); first | assumption | omega | grind)) rfl rfl rfl ?_
  rintro _ w18 ⟨rfl, F17, G19⟩
  have z20 := V.FrE.size G19
  first | replace Fk := Fk.mvE G19 (by (try dsimp only [V.In]); first | omega | grind) | clear Fk | skip
  first | replace FJ := FJ.mvE G19 (by intro j h hd; (try dsimp only [V.In] at h hd ⊢); first | omega | grind) | clear FJ | skip
  first | replace F_b := F_b.mvE G19 (by intro j h hd; (try dsimp only [V.In] at h hd ⊢); first | omega | grind) | clear F_b | skip
  first | replace F3 := F3.mvE G19 (by intro j h hd; (try dsimp only [V.In] at h hd ⊢); first | omega | grind) | clear F3 | skip
  first | replace F7 := F7.mvE G19 (by intro j h hd; (try dsimp only [V.In] at h hd ⊢); first | omega | grind) | clear F7 | skip
  first | replace F11 := F11.mvE G19 (by intro j h hd; (try dsimp only [V.In] at h hd ⊢); first | omega | grind) | clear F11 | skip
  replace HG := HG.stepE G19 (by intro i h; (try dsimp only [V.In] at h ⊢); first | omega | grind)
  clear G19
  refine V.run T_ok 1 rfl ?_
  refine V.nil ?_
  refine V.tN ?_
  refine V.ret ?_
  rw [show rebJ jv dv n b = doesJ jv dv (numB (3 : Int).toNat ++ numB n.toNat ++ textB (V.S b).data.toList) by unfold rebJ; rw [if_neg (by grind)]; rfl, show rebD dv n b = doesD dv (numB (3 : Int).toNat ++ numB n.toNat ++ textB (V.S b).data.toList) by unfold rebD; rw [if_neg (by grind)]; rfl, show rebE jv dv n b = doesE jv dv (numB (3 : Int).toNat ++ numB n.toNat ++ textB (V.S b).data.toList) by unfold rebE; rw [if_neg (by grind)]; rfl]
  have FJ9 := F17.mono (X := (fun i => EJ i ∨ V.In w.heap.size w18.heap.size i)) (by intro i h; ((try dsimp only [V.In] at h ⊢); first | omega | grind)) (by intro i h; ((try dsimp only [V.In] at h ⊢); first | omega | grind))
  refine V.done rfl ?_
  exact ⟨(by first | rfl | simp only [List.length_set]), FJ9, HG⟩

set_option maxHeartbeats 900000 in
set_option maxRecDepth 10000 in
theorem jset_nil {w : World}  {n1 : Int} {n2 : Int} {n3 : Int}  :
    Meets Try.prog 25 [.pointer none, .agg #[.int .i64 n1, .int .i64 n2, .int .i64 n3]] w fun r w' => r = .int .i64 1 ∧ Gr w w' := by
 have HG := V.Fr.refl [] w
 refine V.enter (n := 51) Try.func25 rfl rfl (by decide) rfl ?_
 refine V.seq ?_
 refine V.region ?_
 refine V.box rfl rfl rfl rfl ?_
 rintro k1 w3 s5 s6 G4 Fk2
 have z7 := V.Fr.size G4
 replace HG := HG.grow G4
 clear G4
 try simp only [V.cellsL, V.spliceL] at Fk2
 refine V.run T_ok 1 rfl ?_
 refine V.nil ?_
 refine V.tN ?_
 refine V.seq ?_
 refine V.seq ?_
 refine V.region ?_
 refine V.run T_ok 2 rfl ?_
 refine V.nil ?_
 refine V.tN ?_
 refine V.condY rfl rfl ?_
 refine V.seq ?_
 refine V.region ?_
 refine V.run T_ok 1 rfl ?_
 refine V.nil ?_
 refine V.tN ?_
 refine V.ret ?_
 refine V.tR ?_
 refine V.done rfl ?_
 exact ⟨(by first | rfl | simp only [List.length_set]), HG⟩

set_option maxHeartbeats 900000 in
set_option maxRecDepth 10000 in
theorem jset_spec {w : World} {k kd : Nat} {EJ : Nat → Prop} {jv : JV} {dv : DiskV} (FJ : Jst w k kd EJ jv dv) {n1 : Int} {n2 : Int} {n3 : Int}  :
    Meets Try.prog 25 [.pointer (some ⟨k, 0, none⟩), .agg #[.int .i64 n1, .int .i64 n2, .int .i64 n3]] w fun r w' => r = .int .i64 (setE n1 n2 n3) ∧ Jst w' k kd (fun i => EJ i ∨ V.In w.heap.size w'.heap.size i) (setJ jv n1 n2 n3) (setD dv n1 n2 n3) ∧ V.FrE EJ w w' := by
 obtain ⟨E, D, FX, FD, ⟨hED, hEkd⟩, hEJ, hDJ, hKJ⟩ := FJ.ex
 have hJl := FJ.lt
 have hkdl := FD.klt
 have hnd := FD.nk
 obtain ⟨hs0, hs1, hs2, hs3⟩ := FD.small
 have FX0 := FX
 obtain ⟨SS, BB, aL, cL, aD, cD, ⟨⟨hkS, hkB⟩, hSB⟩, hEE, Fk, FL, Fd⟩ := FX.ex
 have hlt := FX.lt
 have hok := FX.ok
 obtain ⟨hb0, hb1, hll, hdl, hel⟩ := hok
 have hkl := Fk.lt
 have hEk : E k := hEE k (.inl rfl)
 have hSE : ∀ i, SS i → E i := fun i h => hEE i (.inr (.inl h))
 have hBE : ∀ i, BB i → E i := fun i h => hEE i (.inr (.inr h))
 have hSl : ∀ i, SS i → i < w.heap.size := fun i h => hlt i (hSE i h)
 have hBl : ∀ i, BB i → i < w.heap.size := fun i h => hlt i (hBE i h)
 have hl63 := FL.slB.len63
 have hkk : kd ≠ k := fun h => hEkd (h ▸ hEk)
 have hkJ : EJ k := hEJ k hEk
 have hDl := FD.lt
 have HG := V.FrE.refl EJ w
 refine V.enter (n := 51) Try.func25 rfl rfl (by decide) rfl ?_
 refine V.seq ?_
 refine V.region ?_
 refine V.box rfl rfl rfl rfl ?_
 rintro k1 w3 s5 s6 G4 Fk2
 have z7 := V.Fr.size G4
 try replace Fk := Fk.gr G4
 try replace FX := FX.gr G4
 try replace FD := FD.gr G4
 try replace FL := FL.gr G4
 try replace Fd := Fd.gr G4
 replace HG := HG.grow G4
 clear G4
 try simp only [V.cellsL, V.spliceL] at Fk2
 refine V.run T_ok 1 rfl ?_
 refine V.nil ?_
 refine V.tN ?_
 refine V.seq ?_
 refine V.seq ?_
 refine V.region ?_
 refine V.run T_ok 2 rfl ?_
 refine V.nil ?_
 refine V.tN ?_
 refine V.condN rfl rfl ?_
 refine V.skip ?_
 refine V.tN ?_
 refine V.seq ?_
 refine V.seq ?_
 refine V.region ?_
 refine V.run T_ok 1 rfl ?_
 refine V.loadO T_ok Fk2 rfl rfl rfl rfl rfl ?_
 refine V.run T_ok 1 rfl ?_
 refine V.loadO T_ok Fk2 rfl rfl rfl rfl rfl ?_
 refine V.run T_ok 1 rfl ?_
 refine V.loadO T_ok Fk2 rfl rfl rfl rfl rfl ?_
 refine V.mkSlice T_ok zero3 rfl rfl sz3 rfl rfl rfl rfl rfl rfl ?_
 rintro k8 w11 s13 s14 G12 Fk9
 have z15 := V.Fr.size G12
 try replace Fk := Fk.gr G12
 try replace FX := FX.gr G12
 try replace FD := FD.gr G12
 try replace FL := FL.gr G12
 try replace Fd := Fd.gr G12
 try replace Fk2 := Fk2.gr G12
 replace HG := HG.grow G12
 clear G12
 have F10 := V.rowOfI (q := .i64) (xs := ([n1, n2, n3] : List Int)) Fk9 rfl rfl
 clear Fk9
 refine V.run T_ok 1 rfl ?_
 refine V.run T_ok 1 rfl ?_
 refine V.nil ?_
 refine V.tN ?_
 refine V.block ?_
 refine V.loopR 4 ?_
 refine V.rnd ?_
 refine V.seq ?_
 refine V.region ?_
 refine V.run T_ok 1 rfl ?_
 refine V.nil ?_
 refine V.tN ?_
 refine V.seq ?_
 refine V.condY rfl rfl ?_
 refine V.skip ?_
 refine V.tN ?_
 refine V.seq ?_
 refine V.block ?_
 refine V.seq ?_
 refine V.region ?_
 refine V.elem T_ok F10.sl rfl rfl sz3 rfl rfl rfl rfl (by first | omega | (simp only [List.length_take, List.length_drop, List.length_append, List.length_cons, List.length_nil, List.length_replicate, List.length_set, V.length_data, V.S_size]; omega)) (by first | omega | (simp only [List.length_take, List.length_drop, List.length_append, List.length_cons, List.length_nil, List.length_replicate, List.length_set, V.length_data, V.S_size]; omega)) ?_
 rintro b16 o17 cs18 hx19 hb20 hR23 hA21
 obtain ⟨x22, hx22⟩ : ∃ z', ([n1, n2, n3] : List Int)[(0 : Int).toNat] = z' := ⟨_, rfl⟩
 rw [hx22] at hR23
 obtain rfl := hR23
 try simp only [Int.toNat_natCast] at hx22 hx19
 refine V.loadA T_ok (o0 := o17) (off := 0) hA21 rfl rfl rfl rfl rfl ?_
 refine V.run T_ok 1 rfl ?_
 refine V.nil ?_
 refine V.tN ?_
 refine V.seq ?_
 replace hx22 : n1 = x22 := hx22
 subst hx22
 refine V.region ?_
 refine V.run T_ok 3 rfl ?_
 refine V.orG T_ok 2 2 25 rfl rfl rfl rfl rfl rfl rfl rfl ?_
 refine V.nil ?_
 refine V.tN ?_
 refine V.condT rfl (fun h6_0 => ?_) (fun h6_0 => ?_)
 ·
  try replace h6_0 := V.dec h6_0
  try simp only [V.mk0, V.mk1, V.mk2, V.mk3] at h6_0
  refine V.seq ?_
  refine V.region ?_
  refine V.run T_ok 1 rfl ?_
  refine V.nil ?_
  refine V.tN ?_
  refine V.ret ?_
  refine V.bR ?_
  refine V.tR ?_
  refine V.tR ?_
  refine V.bR ?_
  refine V.tR ?_
  rw [show setJ jv n1 n2 n3 = jv by unfold setJ; rw [if_pos (by grind)], show setD dv n1 n2 n3 = dv by unfold setD; rw [if_pos (by grind)], show setE n1 n2 n3 = 71 by unfold setE; rw [if_pos (by grind)]]
  have FJ9 := Jst.mk2 (EJ := (fun i => EJ i ∨ V.In w.heap.size w11.heap.size i)) FX FD ⟨by intro i h; ((try dsimp only [V.In] at h ⊢); first | omega | grind), by (try dsimp only [V.In]); first | omega | grind⟩ (by intro i h; ((try dsimp only [V.In] at h ⊢); first | omega | grind)) (by intro i h; ((try dsimp only [V.In] at h ⊢); first | omega | grind)) (.inl hKJ) (by intro i h; ((try dsimp only [V.In] at h ⊢); first | omega | grind))
  refine V.done rfl ?_
  exact ⟨(by first | rfl | simp only [List.length_set]), FJ9, HG⟩
 ·
  try replace h6_0 := V.dec h6_0
  try simp only [V.mk0, V.mk1, V.mk2, V.mk3] at h6_0
  refine V.skip ?_
  refine V.bN ?_
  refine V.tN ?_
  refine V.region ?_
  refine V.addN rfl rfl rfl rfl rfl (by first | omega | (simp only [List.length_take, List.length_drop, List.length_append, List.length_cons, List.length_nil, List.length_replicate, List.length_set, V.length_data, V.S_size]; omega)) (by first | omega | (simp only [List.length_take, List.length_drop, List.length_append, List.length_cons, List.length_nil, List.length_replicate, List.length_set, V.length_data, V.S_size]; omega)) ?_
  refine V.run T_ok 1 rfl ?_
  refine V.nil ?_
  refine V.tN ?_
  refine V.rnd ?_
  refine V.seq ?_
  refine V.region ?_
  refine V.run T_ok 1 rfl ?_
  refine V.nil ?_
  refine V.tN ?_
  refine V.seq ?_
  refine V.condY rfl rfl ?_
  refine V.skip ?_
  refine V.tN ?_
  refine V.seq ?_
  refine V.block ?_
  refine V.seq ?_
  refine V.region ?_
  refine V.elem T_ok F10.sl rfl rfl sz3 rfl rfl rfl rfl (by first | omega | (simp only [List.length_take, List.length_drop, List.length_append, List.length_cons, List.length_nil, List.length_replicate, List.length_set, V.length_data, V.S_size]; omega)) (by first | omega | (simp only [List.length_take, List.length_drop, List.length_append, List.length_cons, List.length_nil, List.length_replicate, List.length_set, V.length_data, V.S_size]; omega)) ?_
  rintro b24 o25 cs26 hx27 hb28 hR31 hA29
  obtain ⟨x30, hx30⟩ : ∃ z', ([n1, n2, n3] : List Int)[(0 + 1 : Int).toNat] = z' := ⟨_, rfl⟩
  rw [hx30] at hR31
  obtain rfl := hR31
  try simp only [Int.toNat_natCast] at hx30 hx27
  refine V.loadA T_ok (o0 := o25) (off := 0) hA29 rfl rfl rfl rfl rfl ?_
  refine V.run T_ok 1 rfl ?_
  refine V.nil ?_
  refine V.tN ?_
  refine V.seq ?_
  replace hx30 : n2 = x30 := hx30
  subst hx30
  refine V.region ?_
  refine V.run T_ok 3 rfl ?_
  refine V.orG T_ok 2 2 25 rfl rfl rfl rfl rfl rfl rfl rfl ?_
  refine V.nil ?_
  refine V.tN ?_
  refine V.condT rfl (fun h6_1 => ?_) (fun h6_1 => ?_)
  ·
   try replace h6_1 := V.dec h6_1
   try simp only [V.mk0, V.mk1, V.mk2, V.mk3] at h6_1
   refine V.seq ?_
   refine V.region ?_
   refine V.run T_ok 1 rfl ?_
   refine V.nil ?_
   refine V.tN ?_
   refine V.ret ?_
   refine V.bR ?_
   refine V.tR ?_
   refine V.tR ?_
   refine V.bR ?_
   refine V.tR ?_
   rw [show setJ jv n1 n2 n3 = jv by unfold setJ; rw [if_pos (by grind)], show setD dv n1 n2 n3 = dv by unfold setD; rw [if_pos (by grind)], show setE n1 n2 n3 = 71 by unfold setE; rw [if_pos (by grind)]]
   have FJ9 := Jst.mk2 (EJ := (fun i => EJ i ∨ V.In w.heap.size w11.heap.size i)) FX FD ⟨by intro i h; ((try dsimp only [V.In] at h ⊢); first | omega | grind), by (try dsimp only [V.In]); first | omega | grind⟩ (by intro i h; ((try dsimp only [V.In] at h ⊢); first | omega | grind)) (by intro i h; ((try dsimp only [V.In] at h ⊢); first | omega | grind)) (.inl hKJ) (by intro i h; ((try dsimp only [V.In] at h ⊢); first | omega | grind))
   refine V.done rfl ?_
   exact ⟨(by first | rfl | simp only [List.length_set]), FJ9, HG⟩
  ·
   try replace h6_1 := V.dec h6_1
   try simp only [V.mk0, V.mk1, V.mk2, V.mk3] at h6_1
   refine V.skip ?_
   refine V.bN ?_
   refine V.tN ?_
   refine V.region ?_
   refine V.addN rfl rfl rfl rfl rfl (by first | omega | (simp only [List.length_take, List.length_drop, List.length_append, List.length_cons, List.length_nil, List.length_replicate, List.length_set, V.length_data, V.S_size]; omega)) (by first | omega | (simp only [List.length_take, List.length_drop, List.length_append, List.length_cons, List.length_nil, List.length_replicate, List.length_set, V.length_data, V.S_size]; omega)) ?_
   refine V.run T_ok 1 rfl ?_
   refine V.nil ?_
   refine V.tN ?_
   refine V.rnd ?_
   refine V.seq ?_
   refine V.region ?_
   refine V.run T_ok 1 rfl ?_
   refine V.nil ?_
   refine V.tN ?_
   refine V.seq ?_
   refine V.condY rfl rfl ?_
   refine V.skip ?_
   refine V.tN ?_
   refine V.seq ?_
   refine V.block ?_
   refine V.seq ?_
   refine V.region ?_
   refine V.elem T_ok F10.sl rfl rfl sz3 rfl rfl rfl rfl (by first | omega | (simp only [List.length_take, List.length_drop, List.length_append, List.length_cons, List.length_nil, List.length_replicate, List.length_set, V.length_data, V.S_size]; omega)) (by first | omega | (simp only [List.length_take, List.length_drop, List.length_append, List.length_cons, List.length_nil, List.length_replicate, List.length_set, V.length_data, V.S_size]; omega)) ?_
   rintro b32 o33 cs34 hx35 hb36 hR39 hA37
   obtain ⟨x38, hx38⟩ : ∃ z', ([n1, n2, n3] : List Int)[((0 + 1) + 1 : Int).toNat] = z' := ⟨_, rfl⟩
   rw [hx38] at hR39
   obtain rfl := hR39
   try simp only [Int.toNat_natCast] at hx38 hx35
   refine V.loadA T_ok (o0 := o33) (off := 0) hA37 rfl rfl rfl rfl rfl ?_
   refine V.run T_ok 1 rfl ?_
   refine V.nil ?_
   refine V.tN ?_
   refine V.seq ?_
   replace hx38 : n3 = x38 := hx38
   subst hx38
   refine V.region ?_
   refine V.run T_ok 3 rfl ?_
   refine V.orG T_ok 2 2 25 rfl rfl rfl rfl rfl rfl rfl rfl ?_
   refine V.nil ?_
   refine V.tN ?_
   refine V.condT rfl (fun h6_2 => ?_) (fun h6_2 => ?_)
   ·
    try replace h6_2 := V.dec h6_2
    try simp only [V.mk0, V.mk1, V.mk2, V.mk3] at h6_2
    refine V.seq ?_
    refine V.region ?_
    refine V.run T_ok 1 rfl ?_
    refine V.nil ?_
    refine V.tN ?_
    refine V.ret ?_
    refine V.bR ?_
    refine V.tR ?_
    refine V.tR ?_
    refine V.bR ?_
    refine V.tR ?_
    rw [show setJ jv n1 n2 n3 = jv by unfold setJ; rw [if_pos (by grind)], show setD dv n1 n2 n3 = dv by unfold setD; rw [if_pos (by grind)], show setE n1 n2 n3 = 71 by unfold setE; rw [if_pos (by grind)]]
    have FJ9 := Jst.mk2 (EJ := (fun i => EJ i ∨ V.In w.heap.size w11.heap.size i)) FX FD ⟨by intro i h; ((try dsimp only [V.In] at h ⊢); first | omega | grind), by (try dsimp only [V.In]); first | omega | grind⟩ (by intro i h; ((try dsimp only [V.In] at h ⊢); first | omega | grind)) (by intro i h; ((try dsimp only [V.In] at h ⊢); first | omega | grind)) (.inl hKJ) (by intro i h; ((try dsimp only [V.In] at h ⊢); first | omega | grind))
    refine V.done rfl ?_
    exact ⟨(by first | rfl | simp only [List.length_set]), FJ9, HG⟩
   ·
    try replace h6_2 := V.dec h6_2
    try simp only [V.mk0, V.mk1, V.mk2, V.mk3] at h6_2
    refine V.skip ?_
    refine V.bN ?_
    refine V.tN ?_
    refine V.region ?_
    refine V.addN rfl rfl rfl rfl rfl (by first | omega | (simp only [List.length_take, List.length_drop, List.length_append, List.length_cons, List.length_nil, List.length_replicate, List.length_set, V.length_data, V.S_size]; omega)) (by first | omega | (simp only [List.length_take, List.length_drop, List.length_append, List.length_cons, List.length_nil, List.length_replicate, List.length_set, V.length_data, V.S_size]; omega)) ?_
    refine V.run T_ok 1 rfl ?_
    refine V.nil ?_
    refine V.tN ?_
    refine V.rnd ?_
    refine V.seq ?_
    refine V.region ?_
    refine V.run T_ok 1 rfl ?_
    refine V.nil ?_
    refine V.tN ?_
    refine V.seq ?_
    refine V.condN rfl rfl ?_
    refine V.exit ?_
    refine V.tX ?_
    refine V.tX ?_
    refine V.bE ?_
    refine V.tN ?_
    refine V.seq ?_
    have hn3l := nums3_len (t := n1) (v := n2) (b := n3) (by omega) (by omega) (by omega)
    have hf0 := frmB_0 hn3l.1 (by omega)
    have hfl := frmB_len (nums3 n1 n2 n3)
    unfold nums3 at hn3l hf0 hfl
    refine V.region ?_
    refine V.loadO T_ok Fk2 rfl rfl rfl rfl rfl ?_
    refine V.call (numbers_spec (n1 := n1) (n2 := n2) (n3 := n3) (by omega) (by omega) (by omega)) rfl rfl rfl ?_
    rintro _ w43 ⟨a40, c41, rfl, F42, G44⟩
    have z45 := V.Fr.size G44
    try replace Fk := Fk.gr G44
    try replace FX := FX.gr G44
    try replace FD := FD.gr G44
    try replace FL := FL.gr G44
    try replace Fd := Fd.gr G44
    try replace Fk2 := Fk2.gr G44
    try replace F10 := F10.gr G44
    replace HG := HG.grow G44
    clear G44
    refine V.call (frame_spec F42.sl (fun k hk => by have := hk.2; omega)) rfl rfl rfl ?_
    rintro _ w49 ⟨a46, c47, rfl, F48, G50⟩
    have z51 := V.Fr.size G50
    try replace Fk := Fk.gr G50
    try replace FX := FX.gr G50
    try replace FD := FD.gr G50
    try replace FL := FL.gr G50
    try replace Fd := Fd.gr G50
    try replace Fk2 := Fk2.gr G50
    try replace F10 := F10.gr G50
    try replace F42 := F42.gr G50
    replace HG := HG.grow G50
    clear G50
    refine V.run T_ok 5 rfl ?_
    refine V.nil ?_
    refine V.tN ?_
    refine V.seq ?_
    refine V.seq ?_
    refine V.region ?_
    refine V.run T_ok 3 rfl ?_
    refine V.split (j := 2) (t := 38) rfl rfl (fun g10_2 => ?_) (fun g10_2 => ?_)
    ·
     try replace g10_2 := V.dec g10_2
     try simp only [V.mk0, V.mk1, V.mk2, V.mk3] at g10_2
     refine V.run T_ok 8 rfl ?_
     refine V.nil ?_
     refine V.tN ?_
     refine V.condY rfl rfl ?_
     refine V.seq ?_
     refine V.region ?_
     refine V.run T_ok 1 rfl ?_
     refine V.nil ?_
     refine V.tN ?_
     refine V.ret ?_
     refine V.tR ?_
     refine V.done rfl ?_
     exfalso; first | omega | (unfold eSet at *; split at * <;> omega)
    ·
     try replace g10_2 := V.dec g10_2
     try simp only [V.mk0, V.mk1, V.mk2, V.mk3] at g10_2
     refine V.run T_ok 3 rfl ?_
     refine V.yes rfl rfl rfl ?_
     refine V.loadO T_ok Fk rfl rfl rfl rfl rfl ?_
     refine V.run T_ok 1 rfl ?_
     refine V.yes rfl rfl rfl ?_
     refine V.call (dk_set FD F48.sl (by first | omega | (simp only [List.length_take, List.length_drop, List.length_append, List.length_cons, List.length_nil, List.length_replicate, List.length_set, V.length_data, V.S_size]; omega))) rfl rfl rfl ?_
     rintro _ w53 ⟨rfl, F52, G54⟩
     have z55 := V.Fr.size G54
     try replace Fk := Fk.ma G54
     first | replace FX := FX.mv1 G54 (by (try dsimp only [V.In]); first | omega | grind) | clear FX | skip
     first | replace FD := FD.mv1 G54 (by (try dsimp only [V.In]); first | omega | grind) | clear FD | skip
     first | replace FL := FL.mv1 G54 (by (try dsimp only [V.In]); first | omega | grind) | clear FL | skip
     first | replace Fd := Fd.mv1 G54 (by (try dsimp only [V.In]); first | omega | grind) | clear Fd | skip
     try replace Fk2 := Fk2.ma G54
     try replace F10 := F10.ma G54
     try replace F42 := F42.ma G54
     try replace F48 := F48.ma G54
     replace HG := HG.n1 G54
     clear G54
     refine V.run T_ok 2 rfl ?_
     refine V.nil ?_
     refine V.tN ?_
     refine V.condT rfl (fun h10 => ?_) (fun h10 => ?_)
     ·
      try replace h10 := V.dec h10
      try simp only [V.mk0, V.mk1, V.mk2, V.mk3] at h10
      refine V.seq ?_
      refine V.region ?_
      refine V.run T_ok 1 rfl ?_
      refine V.nil ?_
      refine V.tN ?_
      refine V.ret ?_
      refine V.tR ?_
      refine V.done rfl ?_
      exfalso; first | omega | (unfold eSet at *; split at * <;> omega)
     ·
      try replace h10 := V.dec h10
      try simp only [V.mk0, V.mk1, V.mk2, V.mk3] at h10
      refine V.skip ?_
      refine V.tN ?_
      refine V.seq ?_
      refine V.region ?_
      refine V.run T_ok 1 rfl ?_
      refine V.loadO T_ok Fk2 rfl rfl rfl rfl rfl ?_
      refine V.run T_ok 2 rfl ?_
      refine V.storeO Fk rfl rfl rfl rfl sz47 rfl rfl rfl rfl ?_
      rintro w56 G57 z59 Fs58
      clear Fk
      have z60 := V.Fr.size G57
      first | replace FX := FX.mv1 G57 (by (try dsimp only [V.In]); first | omega | grind) | clear FX | skip
      first | replace FL := FL.mv1 G57 (by (try dsimp only [V.In]); first | omega | grind) | clear FL | skip
      first | replace Fd := Fd.mv1 G57 (by (try dsimp only [V.In]); first | omega | grind) | clear Fd | skip
      try replace Fk2 := Fk2.ma G57
      try replace F10 := F10.ma G57
      try replace F42 := F42.ma G57
      try replace F48 := F48.ma G57
      first | replace F52 := F52.mv1 G57 (by (try dsimp only [V.In]); first | omega | grind) | clear F52 | skip
      replace HG := HG.n1 G57
      clear G57
      have Fk := Fs58; clear Fs58
      simp only [V.spliceL, V.cellsL] at Fk
      refine V.nil ?_
      refine V.tN ?_
      refine V.seq ?_
      refine V.region ?_
      refine V.run T_ok 1 rfl ?_
      refine V.nil ?_
      refine V.tN ?_
      refine V.ret ?_
      have hd9 : dSet dv (frmB (numB n1.toNat ++ numB n2.toNat ++ numB n3.toNat)).1 = { dv with nc := (frmB (numB n1.toNat ++ numB n2.toNat ++ numB n3.toNat)).1 } := by unfold dSet; rw [if_neg (by omega)]
      rw [hd9] at F52
      rw [show setJ jv n1 n2 n3 = { jv with t := n1, v := n2, b := n3 } by unfold setJ; rw [if_neg (by grind)], show setD dv n1 n2 n3 = { dv with nc := (frmB (numB n1.toNat ++ numB n2.toNat ++ numB n3.toNat)).1 } by unfold setD; rw [if_neg (by grind)]; rfl, show setE n1 n2 n3 = 0 by unfold setE; rw [if_neg (by grind)]]
      have FX9 := Jn.mk2 (E := E) (j := ⟨jv.base, jv.data, jv.l, n1, n2, n3⟩) Fk FL Fd ⟨hb0, hb1, hll, hdl, hel⟩ (by intro i h; first | exact h.elim | ((try dsimp only [V.In] at h ⊢); first | omega | grind)) ⟨⟨by (try dsimp only [V.In]); first | omega | grind, by (try dsimp only [V.In]); first | omega | grind⟩, by intro i h; first | exact h.elim | ((try dsimp only [V.In] at h ⊢); first | omega | grind)⟩ (by intro i h; first | exact h.elim | ((try dsimp only [V.In] at h ⊢); first | omega | grind))
      have FJ9 := Jst.mk2 (EJ := (fun i => EJ i ∨ V.In w.heap.size w56.heap.size i)) FX9 F52 ⟨by intro i h; ((try dsimp only [V.In] at h ⊢); first | omega | grind), by (try dsimp only [V.In]); first | omega | grind⟩ (by intro i h; ((try dsimp only [V.In] at h ⊢); first | omega | grind)) (by intro i h; ((try dsimp only [V.In] at h ⊢); first | omega | grind)) (.inl hKJ) (by intro i h; ((try dsimp only [V.In] at h ⊢); first | omega | grind))
      refine V.done rfl ?_
      exact ⟨(by first | rfl | simp only [List.length_set]), FJ9, HG⟩

set_option maxHeartbeats 900000 in
set_option maxRecDepth 10000 in
theorem jsync_nil {w : World}    :
    Meets Try.prog 28 [.pointer none] w fun r w' => r = .int .i64 1 ∧ Gr w w' := by
 have HG := V.Fr.refl [] w
 refine V.enter (n := 10) Try.func28 rfl rfl (by decide) rfl ?_
 refine V.seq ?_
 refine V.region ?_
 refine V.run T_ok 1 rfl ?_
 refine V.nil ?_
 refine V.tN ?_
 refine V.seq ?_
 refine V.seq ?_
 refine V.region ?_
 refine V.run T_ok 2 rfl ?_
 refine V.nil ?_
 refine V.tN ?_
 refine V.condY rfl rfl ?_
 refine V.seq ?_
 refine V.region ?_
 refine V.run T_ok 1 rfl ?_
 refine V.nil ?_
 refine V.tN ?_
 refine V.ret ?_
 refine V.tR ?_
 refine V.done rfl ?_
 exact ⟨(by first | rfl | simp only [List.length_set]), HG⟩

set_option maxHeartbeats 900000 in
set_option maxRecDepth 10000 in
theorem jsync_spec {w : World} {k kd : Nat} {EJ : Nat → Prop} {jv : JV} {dv : DiskV} (FJ : Jst w k kd EJ jv dv)   :
    Meets Try.prog 28 [.pointer (some ⟨k, 0, none⟩)] w fun r w' => r = .int .i64 0 ∧ Jst w' k kd (fun i => EJ i ∨ V.In w.heap.size w'.heap.size i) (jv) (dSync dv) ∧ V.FrE EJ w w' := by
 obtain ⟨E, D, FX, FD, ⟨hED, hEkd⟩, hEJ, hDJ, hKJ⟩ := FJ.ex
 have hJl := FJ.lt
 have hkdl := FD.klt
 have hnd := FD.nk
 obtain ⟨hs0, hs1, hs2, hs3⟩ := FD.small
 have FX0 := FX
 obtain ⟨SS, BB, aL, cL, aD, cD, ⟨⟨hkS, hkB⟩, hSB⟩, hEE, Fk, FL, Fd⟩ := FX.ex
 have hlt := FX.lt
 have hok := FX.ok
 obtain ⟨hb0, hb1, hll, hdl, hel⟩ := hok
 have hkl := Fk.lt
 have hEk : E k := hEE k (.inl rfl)
 have hSE : ∀ i, SS i → E i := fun i h => hEE i (.inr (.inl h))
 have hBE : ∀ i, BB i → E i := fun i h => hEE i (.inr (.inr h))
 have hSl : ∀ i, SS i → i < w.heap.size := fun i h => hlt i (hSE i h)
 have hBl : ∀ i, BB i → i < w.heap.size := fun i h => hlt i (hBE i h)
 have hl63 := FL.slB.len63
 have hkk : kd ≠ k := fun h => hEkd (h ▸ hEk)
 have hkJ : EJ k := hEJ k hEk
 have hDl := FD.lt
 have HG := V.FrE.refl EJ w
 refine V.enter (n := 10) Try.func28 rfl rfl (by decide) rfl ?_
 refine V.seq ?_
 refine V.region ?_
 refine V.run T_ok 1 rfl ?_
 refine V.nil ?_
 refine V.tN ?_
 refine V.seq ?_
 refine V.seq ?_
 refine V.region ?_
 refine V.run T_ok 2 rfl ?_
 refine V.nil ?_
 refine V.tN ?_
 refine V.condN rfl rfl ?_
 refine V.skip ?_
 refine V.tN ?_
 refine V.seq ?_
 refine V.region ?_
 refine V.run T_ok 3 rfl ?_
 refine V.loadO T_ok Fk rfl rfl rfl rfl rfl ?_
 refine V.call (dk_sync FD) rfl rfl rfl ?_
 rintro _ w2 ⟨rfl, F1, G3⟩
 have z4 := V.Fr.size G3
 try replace Fk := Fk.ma G3
 first | replace FX := FX.mv1 G3 (by (try dsimp only [V.In]); first | omega | grind) | clear FX | skip
 first | replace FD := FD.mv1 G3 (by (try dsimp only [V.In]); first | omega | grind) | clear FD | skip
 replace HG := HG.n1 G3
 clear G3
 refine V.run T_ok 1 rfl ?_
 refine V.nil ?_
 refine V.tN ?_
 refine V.ret ?_
 have FJ9 := Jst.mk2 (EJ := (fun i => EJ i ∨ V.In w.heap.size w2.heap.size i)) FX F1 ⟨by intro i h; ((try dsimp only [V.In] at h ⊢); first | omega | grind), by (try dsimp only [V.In]); first | omega | grind⟩ (by intro i h; ((try dsimp only [V.In] at h ⊢); first | omega | grind)) (by intro i h; ((try dsimp only [V.In] at h ⊢); first | omega | grind)) (.inl hKJ) (by intro i h; ((try dsimp only [V.In] at h ⊢); first | omega | grind))
 refine V.done rfl ?_
 exact ⟨(by first | rfl | simp only [List.length_set]), FJ9, HG⟩

end Go.Proofs.Ytnbijpijbhkcpaa
