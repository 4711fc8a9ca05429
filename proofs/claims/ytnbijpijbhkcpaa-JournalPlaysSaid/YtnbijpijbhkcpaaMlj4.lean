/- Proved here: walks: what functions of this seat's program return and what they leave of memory, each as a contract. Conditions: stated at each theorem. -/
import Derived.Test.YtnbijpijbhkcpaaMlj3
namespace Go.Proofs.Ytnbijpijbhkcpaa
set_option linter.unusedVariables false
set_option linter.unusedSimpArgs false
open Go
open V (Bytes Meets Env Sl Own Gr Fr Cells S)
theorem dLeft_le (d : DiskV) (keep : Int) (torn : Bool) {N : Nat} (h1 : d.sf.length ≤ N) (h2 : d.nf.length ≤ N) : (dLeft d keep torn).length ≤ N := by
  have hc := (comm_le d.sf d.nf).2
  unfold dLeft
  dsimp only
  split
  · exact h1
  · split
    · exact h2
    · split
      · simp only [List.length_set, List.length_take]; omega
      · simp only [List.length_take]; omega
/-- what is asked of a disk between the acts: its cells are some numbers', its files are not long -/
structure Pd (d : DiskV) (N : Nat) : Prop where
  nc : ∃ z, hardV d.nc = some z
  sc : ∃ z, hardV d.sc = some z
  nf : d.nf.length ≤ N
  sf : d.sf.length ≤ N
theorem Pd.mono {d : DiskV} {N M : Nat} (h : Pd d N) (hm : N ≤ M) : Pd d M := ⟨h.nc, h.sc, Nat.le_trans h.nf hm, Nat.le_trans h.sf hm⟩
theorem Pd.new : Pd ⟨[], [], [], []⟩ 0 := ⟨⟨_, hardV_nil rfl⟩, ⟨_, hardV_nil rfl⟩, Nat.le_refl _, Nat.le_refl _⟩
theorem Pd.append {d : DiskV} {N : Nat} {b : List UInt8} (h : Pd d N) (hb : b.length ≤ 300) : Pd (dAppend d b) (N + 300) := by
  have h1 := h.nf
  have h2 := h.sf
  unfold dAppend
  split
  · exact h.mono (Nat.le_add_right _ _)
  · exact ⟨h.nc, h.sc, by dsimp only; rw [List.length_append]; omega, by dsimp only; omega⟩
theorem Pd.does {d : DiskV} {N : Nat} {x : List UInt8} (h : Pd d N) (hb : x.length ≤ 290) : Pd (doesD d x) (N + 300) := by
  unfold doesD
  split
  · exact h.append (by have := frmB_len x; omega)
  · exact h.mono (Nat.le_add_right _ _)
theorem Pd.app {d : DiskV} {N : Nat} {b : List UInt8} (h : Pd d N) (hb : b.length ≤ 200) : Pd (appD d b) (N + 300) := by
  have := chA_len (b := b) (by omega)
  unfold appD; rw [if_neg (by omega)]; exact h.does (by omega)
theorem Pd.cut {d : DiskV} {N : Nat} {j : JV} (n : Int) (h : Pd d N) (hj : j.l.length ≤ 1000000) : Pd (cutD j d n) (N + 300) := by
  unfold cutD
  split
  · exact h.mono (Nat.le_add_right _ _)
  · rename_i hn; unfold cutBad at hn
    have := chC_len (n := n - j.base) (by omega)
    exact h.does (by omega)
theorem Pd.reb {d : DiskV} {N : Nat} (n : Int) {b : List UInt8} (h : Pd d N) (hb : b.length ≤ 200) : Pd (rebD d n b) (N + 300) := by
  unfold rebD
  split
  · exact h.mono (Nat.le_add_right _ _)
  · rename_i hn
    have := chR_len hn
    exact h.does (by omega)
theorem Pd.set {d : DiskV} {N : Nat} (t v b : Int) (h : Pd d N) : Pd (setD d t v b) N := by
  unfold setD
  split
  · exact h
  · rename_i hb; exact ⟨⟨_, (hard_nums hb).1⟩, h.sc, h.nf, h.sf⟩
theorem Pd.sync {d : DiskV} {N : Nat} (h : Pd d N) : Pd (dSync d) N := ⟨h.nc, h.nc, h.nf, h.nf⟩
theorem Pd.crash {d : DiskV} {N : Nat} (keep : Int) (torn cell : Bool) (h : Pd d N) : Pd (dCrash d keep torn cell) N := by
  have hl := dLeft_le d keep torn h.sf h.nf
  refine ⟨?_, ?_, hl, hl⟩ <;> (cases cell; exact h.sc; exact h.nc)
theorem Pd.open {d : DiskV} {N : Nat} (nn : Nat) (h : Pd d N) : Pd (openD d nn) N := by
  unfold openD
  split
  · have h1 := h.nf
    have e : (dCut d (nn : Int)).nf.length ≤ N ∧ (dCut d (nn : Int)).nc = d.nc := by
      unfold dCut; split
      · exact ⟨h1, rfl⟩
      · exact ⟨by dsimp only; rw [List.length_take]; omega, rfl⟩
    exact ⟨by show ∃ z, hardV (dCut d (nn : Int)).nc = some z; rw [e.2]; exact h.nc, by show ∃ z, hardV (dCut d (nn : Int)).nc = some z; rw [e.2]; exact h.nc, e.1, e.1⟩
  · exact h
theorem act_len {j : JV} {d : DiskV} : (∀ x, (doesJ j d x).l.length ≤ j.l.length + 1) ∧ (∀ b, (appJ j d b).l.length ≤ j.l.length + 1) ∧ (∀ n, (cutJ j d n).l.length ≤ j.l.length + 1) ∧ (∀ n b, (rebJ j d n b).l.length ≤ j.l.length + 1) ∧ (∀ t v b, (setJ j t v b).l.length ≤ j.l.length + 1) := by
  have h : ∀ x, (doesJ j d x).l.length ≤ j.l.length + 1 := fun x => by
    unfold doesJ
    split
    · cases ht : takeV j x with
      | none => exact Nat.le_succ _
      | some j' => exact takeV_grow ht
    · exact Nat.le_succ _
  refine ⟨h, fun b => ?_, fun n => ?_, fun n b => ?_, fun t v b => ?_⟩
  · unfold appJ; split
    · exact Nat.le_succ _
    · exact h _
  · unfold cutJ; split
    · exact Nat.le_succ _
    · exact h _
  · unfold rebJ; split
    · exact Nat.le_succ _
    · exact h _
  · unfold setJ; split <;> exact Nat.le_succ _
theorem RJst.turn {w w' : World} {k km : Nat} {D D' : Nat → Prop} {j : JV} {d d' : DiskV} (h : RJst w k km D j d) (f : Fr [km] w w') (hd : RDk w' km D' d') (h1 : ∀ i, D i → D' i) (h2 : ¬ D' k) : RJst w' k km D' j d' :=
  let ⟨a, c, ad, cd, h3, h4, h5⟩ := h.ex
  have hm : ∀ i, D i → i ≠ km := fun i hi e => h.dk.nk (e ▸ hi)
  ⟨h.ok, ⟨h2, h.nk.2⟩, hd, a, c, ad, cd, h3.mv1 f (fun e => h.nk.2 e.symm), (h4.mv1 f (fun hD => hm _ hD rfl)).mono h1, (h5.mv1 f (fun hD => hm _ hD rfl)).mono h1⟩


theorem rj_sync {w : World} {k km : Nat} {D : Nat → Prop} {jv : JV} {dv : DiskV} (FJ : RJst w k km D jv dv)   :
    Meets Try.prog 27 [.pointer (some ⟨km, 0, none⟩)] w fun r w' => r = .tuple #[] ∧ RJst w' k km (fun i => D i ∨ V.In w.heap.size w'.heap.size i) jv (dSync dv) ∧ Fr [km] w w' := by
  exact (rsync_spec FJ.dk.ds).mono (by rintro _ w2 ⟨rfl, h, g⟩; exact ⟨rfl, FJ.turn g (RDk.of h FJ.dk g.size) (fun i hi => .inl hi) (by have := FJ.klt; rintro (h2 | h2); exact FJ.nk.1 h2; have := h2.1; omega), g⟩)

theorem rj_append {w : World} {k km : Nat} {D : Nat → Prop} {jv : JV} {dv : DiskV} (FJ : RJst w k km D jv dv) {D_b : Nat → Prop} {c_b : Nat} {a_b : Option Addr} {b : List UInt8} (F_b : Sl V.Cod.byte w D_b a_b c_b b) (hb : b.length ≤ 140737488355328) :
    Meets Try.prog 13 [.pointer (some ⟨km, 0, none⟩), .slice a_b b.length c_b] w fun r w' => r = .int .i64 (eAppend dv b) ∧ RDk w' km (fun i => D i ∨ V.In w.heap.size w'.heap.size i) (dAppend dv b) ∧ Fr [km] w w' := by
  exact (rappend_spec FJ.dk.ds F_b hb).mono (by rintro _ w2 ⟨rfl, h, g⟩; exact ⟨rfl, RDk.of h FJ.dk g.size, g⟩)

theorem rj_crash {w : World} {k km : Nat} {D : Nat → Prop} {jv : JV} {dv : DiskV} (FJ : RJst w k km D jv dv) {keep : Int} {torn : Bool} {cell : Bool}  :
    Meets Try.prog 30 [.pointer (some ⟨km, 0, none⟩), .int .i64 keep, .bool torn, .bool cell] w fun r w' => ∃ (rk1 : Nat), r = .pointer (some ⟨rk1, 0, none⟩) ∧ (w.heap.size ≤ rk1 ∧ rk1 < w'.heap.size) ∧ RDk w' rk1 (fun i => (D i ∨ V.In w.heap.size w'.heap.size i) ∧ i ≠ rk1) (dCrash dv keep torn cell) ∧ Gr w w' := by
  exact (rcrash_spec FJ.dk.ds).mono (by rintro _ w2 ⟨k2, rfl, ⟨h1, h2⟩, h3, g⟩; exact ⟨k2, rfl, ⟨h1, h2⟩, RDk.new h3 (fun i hi hl => ⟨hi.1.imp id (fun h => ⟨h, hl⟩), hi.2⟩) (fun h => h.2 rfl) (fun i hi => hi.1.elim (fun h => Nat.lt_of_lt_of_le (FJ.lt i h) g.size) (fun h => h.2)), g⟩)

set_option maxHeartbeats 900000 in
set_option maxRecDepth 10000 in
theorem journalPlays_walk {w : World}  {D_xs : Nat → Prop} {c_xs : Nat} {a_xs : Option Addr} {xs : List (Int × Int × Int × List UInt8 × Bool × Bool)} (F_xs : Sl (V.Cod.pair (V.Cod.int .i64) (V.Cod.pair (V.Cod.int .i64) (V.Cod.pair (V.Cod.int .i64) (V.Cod.pair V.Cod.byte.sl (V.Cod.pair V.Cod.bool V.Cod.bool))))) w D_xs a_xs c_xs xs) (hD_xs : ∀ k, D_xs k → k < w.heap.size)  :
    Meets Try.prog 4 [.slice a_xs xs.length c_xs] w fun r w' => r = .bool true ∧ Gr w w' := by
 have hsy0 := Sy.new
 have hho : hardV [] = some (0, 0, 0) := hardV_nil rfl
 have HG := V.Fr.refl [] w
 refine V.enter (n := 198) Try.func4 rfl rfl (by decide) rfl ?_
 refine V.seq ?_
 refine V.region ?_
 refine V.run T_ok 1 rfl ?_
 refine V.nil ?_
 refine V.tN ?_
 refine V.seq ?_
 refine V.region ?_
 refine V.call (dk_new) rfl rfl rfl ?_
 rintro _ w4 ⟨k1, rfl, ⟨h2l, h2u⟩, F3, G5⟩
 have z6 := V.Fr.size G5
 try replace F_xs := F_xs.gr G5
 replace HG := HG.grow G5
 clear G5
 refine V.run T_ok 1 rfl ?_
 refine V.nil ?_
 refine V.tN ?_
 refine V.seq ?_
 refine V.region ?_
 refine V.mkStruct T_ok zero30 rfl rfl rfl rfl rfl ?_
 refine V.box rfl rfl rfl rfl ?_
 rintro k7 w9 s11 s12 G10 Fk8
 have z13 := V.Fr.size G10
 try replace F_xs := F_xs.gr G10
 try replace F3 := F3.gr G10
 replace HG := HG.grow G10
 clear G10
 try simp only [V.cellsL, V.spliceL] at Fk8
 refine V.run T_ok 1 rfl ?_
 refine V.nil ?_
 refine V.tN ?_
 refine V.seq ?_
 have FM0 := RDk.new (RDsk.nil (D := fun i => w9.heap.size ≤ i) Fk8 (by have := Cells.lt Fk8; omega) (fun i h => h)) (D := V.None') (fun i h h2 => by omega) (fun h => h) (fun i h => h.elim)
 clear Fk8
 refine V.region ?_
 refine V.run T_ok 1 rfl ?_
 refine V.call (open_some F3 hho hsy0.opn (Nat.zero_le _)) rfl rfl rfl ?_
 rintro _ w17 ⟨k14, rfl, ⟨h15l, h15u⟩, F16, G18⟩
 have z19 := V.Fr.size G18
 try replace F_xs := F_xs.mb G18 hD_xs
 first | replace F3 := F3.mv1 G18 (by (try dsimp only [V.In]); first | omega | grind) | clear F3 | skip
 first | replace FM0 := FM0.mv1 G18 (by (try dsimp only [V.In]); first | omega | grind) | clear FM0 | skip
 replace HG := HG.n1 G18
 clear G18
 refine V.run T_ok 5 rfl ?_
 refine V.nil ?_
 refine V.tN ?_
 refine V.seq ?_
 refine V.region ?_
 refine V.run T_ok 1 rfl ?_
 refine V.call (ropen_some FM0 hho hsy0.opn (Nat.zero_le _)) rfl rfl rfl ?_
 rintro _ w23 ⟨k20, rfl, ⟨h21l, h21u⟩, F22, G24⟩
 have z25 := V.Fr.size G24
 try replace F_xs := F_xs.mb G24 hD_xs
 first | replace FM0 := FM0.mv1 G24 (by (try dsimp only [V.In]); first | omega | grind) | clear FM0 | skip
 first | replace F16 := F16.mv1 G24 (by (try dsimp only [V.In]); first | omega | grind) | clear F16 | skip
 replace HG := HG.n1 G24
 clear G24
 refine V.run T_ok 5 rfl ?_
 refine V.nil ?_
 refine V.tN ?_
 refine V.seq ?_
 refine V.seq ?_
 refine V.region ?_
 refine V.run T_ok 10 rfl ?_
 refine V.nil ?_
 refine V.tN ?_
 refine V.condN rfl rfl ?_
 refine V.skip ?_
 refine V.tN ?_
 refine V.seq ?_
 refine V.seq ?_
 refine V.region ?_
 refine V.run T_ok 1 rfl ?_
 refine V.nil ?_
 refine V.tN ?_
 refine V.block ?_
 have hl63 := F_xs.len63
 refine V.loopM (fun m e v27 => Fr [] w v27 ∧ w23.heap.size ≤ v27.heap.size ∧ Sl (V.Cod.pair (V.Cod.int .i64) (V.Cod.pair (V.Cod.int .i64) (V.Cod.pair (V.Cod.int .i64) (V.Cod.pair V.Cod.byte.sl (V.Cod.pair V.Cod.bool V.Cod.bool))))) v27 D_xs a_xs c_xs xs ∧ ∃ (i : Nat) (jv : JV) (dv : DiskV) (kj kd kr km : Nat) (E1 D1 : Nat → Prop) , m = xs.length - i ∧ i ≤ xs.length ∧ i ≤ 60 ∧ Pd dv (300 * i) ∧ jv.l.length ≤ 40 * i ∧ (∀ x, E1 x → w.heap.size ≤ x) ∧ (∀ x, D1 x → w.heap.size ≤ x) ∧ (w.heap.size ≤ kr ∧ w.heap.size ≤ km) ∧ (∀ x, E1 x → ¬ ((x = kr ∨ x = km) ∨ D1 x)) ∧ Jst v27 kj kd E1 jv dv ∧ RJst v27 kr km D1 jv dv ∧ e 0 = .slice a_xs xs.length c_xs ∧ e 3 = .pointer (some ⟨kd, 0, none⟩) ∧ e 4 = .pointer (some ⟨km, 0, none⟩) ∧ e 5 = .pointer (some ⟨kj, 0, none⟩) ∧ e 7 = .pointer (some ⟨kr, 0, none⟩) ∧ e 9 = .int .i64 (i : Int)) ?_ ?_
 ·
  exact ⟨_, HG, (by omega), F_xs, (0), ((⟨0, [], [], 0, 0, 0⟩ : JV)), ((openD (⟨[], [], [], []⟩) ([] : List UInt8).length)), (k14), (k1), (k20), (k7), ((fun i => ((fun i => V.In w.heap.size w4.heap.size i ∧ i ≠ k1) i ∨ i = k1) ∨ V.In w9.heap.size w17.heap.size i)), ((fun i => (V.None' i ∨ V.In w17.heap.size w23.heap.size i) ∧ i ≠ k20)), rfl, (Nat.zero_le _), (Nat.zero_le _), ((Pd.new.open _)), (Nat.zero_le _), ((by intro i h; (try dsimp only [V.In] at h ⊢); first | omega | grind)), ((by intro i h; (try dsimp only [V.In] at h ⊢); first | omega | grind)), (⟨by omega, by omega⟩), ((by intro i h hd; (try dsimp only [V.In] at h hd ⊢); first | omega | grind)), F16, F22, rfl, rfl, rfl, rfl, rfl, rfl⟩
 try clear F16
 try clear F22
 clear HG F_xs
 rintro _ e v27 ⟨HG, z28, F_xs, i, jv, dv, kj, kd, kr, km, E1, D1, rfl, hi, hi60, hpd, hjl, hE1, hD1, hk1, hED1, FJ1, FR1, he0_0, he0_3, he0_4, he0_5, he0_7, he0_9⟩
 have hEl1 := FJ1.lt
 have hDl1 := FR1.lt
 have hkrl1 := FR1.klt
 have hkml1 := FR1.dk.klt
 have hkd1 := hE1 _ FJ1.ek.2
 have hkdl1 := hEl1 _ FJ1.ek.2
 have hkx1 := hED1 _ FJ1.ek.2
 refine V.knownC (t := 0) he0_0 ?_
 refine V.knownC (t := 3) he0_3 ?_
 refine V.knownC (t := 4) he0_4 ?_
 refine V.knownC (t := 5) he0_5 ?_
 refine V.knownC (t := 7) he0_7 ?_
 refine V.knownC (t := 9) he0_9 ?_
 refine V.seq ?_
 refine V.seq ?_
 refine V.region ?_
 refine V.run T_ok 5 rfl ?_
 refine V.andG T_ok 2 4 40 rfl rfl rfl rfl rfl rfl rfl rfl ?_
 refine V.nil ?_
 refine V.tN ?_
 refine V.condT rfl (fun h8 => ?_) (fun h8 => ?_)
 ·
  try replace h8 := V.dec h8
  try simp only [V.mk0, V.mk1, V.mk2, V.mk3] at h8
  refine V.skip ?_
  refine V.tN ?_
  refine V.seq ?_
  refine V.block ?_
  refine V.seq ?_
  refine V.region ?_
  refine V.run T_ok 2 rfl ?_
  refine V.elem T_ok F_xs rfl rfl sz42 rfl rfl rfl rfl (by first | omega | (simp only [List.length_take, List.length_drop, List.length_append, List.length_cons, List.length_nil, List.length_replicate, List.length_set, V.length_data, V.S_size]; omega)) (by first | omega | (simp only [List.length_take, List.length_drop, List.length_append, List.length_cons, List.length_nil, List.length_replicate, List.length_set, V.length_data, V.S_size]; omega)) ?_
  rintro b29 o30 cs31 hx32 hb33 hR39 hA34
  obtain ⟨x35, hx35⟩ : ∃ z', xs[((i : Int)).toNat] = z' := ⟨_, rfl⟩
  rw [hx35] at hR39
  obtain ⟨_, _, rfl, rfl, ⟨_, _, rfl, rfl, ⟨_, _, rfl, rfl, ⟨_, _, rfl, ⟨a36, c37, rfl, F38⟩, ⟨_, _, rfl, rfl, rfl⟩⟩⟩⟩⟩ := hR39
  try simp only [Int.toNat_natCast] at hx35 hx32
  refine V.loadA T_ok (o0 := o30) (off := 0) hA34 rfl rfl rfl rfl rfl ?_
  refine V.alloc zero42 rfl rfl rfl ?_
  rintro k40 w42 s44 s45 G43 Fk41
  have z46 := V.Fr.size G43
  try replace F_xs := F_xs.gr G43
  try replace FJ1 := FJ1.gr G43
  try replace FR1 := FR1.gr G43
  try replace F38 := F38.gr G43
  replace HG := HG.grow G43
  clear G43
  try simp only [V.cellsL, V.spliceL] at Fk41
  refine V.storeO Fk41 rfl rfl rfl rfl sz42 rfl rfl rfl rfl ?_
  rintro w47 G48 z50 Fs49
  clear Fk41
  have z51 := V.Fr.size G48
  try replace F_xs := F_xs.mb G48 hD_xs
  first | replace FJ1 := FJ1.mv1 G48 (by (try dsimp only [V.In]); first | omega | grind) | clear FJ1 | skip
  first | replace FR1 := FR1.mv1 G48 (by (try dsimp only [V.In]); first | omega | grind) | clear FR1 | skip
  try replace F38 := F38.mb G48 hD_xs
  replace HG := HG.n1 G48
  clear G48
  have Fk41 := Fs49; clear Fs49
  simp only [V.spliceL, V.cellsL] at Fk41
  refine V.nil ?_
  refine V.tN ?_
  refine V.seq ?_
  refine V.seq ?_
  refine V.region ?_
  refine V.run T_ok 1 rfl ?_
  refine V.loadO T_ok Fk41 rfl rfl rfl rfl rfl ?_
  refine V.run T_ok 2 rfl ?_
  refine V.nil ?_
  refine V.tN ?_
  refine V.condT rfl (fun h11 => ?_) (fun h11 => ?_)
  ·
   try replace h11 := V.dec h11
   try simp only [V.mk0, V.mk1, V.mk2, V.mk3] at h11
   refine V.exit ?_
   refine V.tX ?_
   refine V.bE ?_
   refine V.tN ?_
   refine V.region ?_
   refine V.run T_ok 1 rfl ?_
   refine V.addN rfl rfl rfl rfl rfl (by first | omega | (simp only [List.length_take, List.length_drop, List.length_append, List.length_cons, List.length_nil, List.length_replicate, List.length_set, V.length_data, V.S_size]; omega)) (by first | omega | (simp only [List.length_take, List.length_drop, List.length_append, List.length_cons, List.length_nil, List.length_replicate, List.length_set, V.length_data, V.S_size]; omega)) ?_
   refine V.run T_ok 1 rfl ?_
   refine V.nil ?_
   refine V.tN ?_
   exact ⟨_, (by omega), HG, (by omega), F_xs, (i + 1), (jv), (dv), (kj), (kd), (kr), (km), (E1), (D1), rfl, (by omega), (by omega), ((hpd.mono (by omega))), (by omega), (hE1), (hD1), (hk1), (hED1), FJ1, FR1, rfl, rfl, rfl, rfl, rfl, rfl⟩
  ·
   try replace h11 := V.dec h11
   try simp only [V.mk0, V.mk1, V.mk2, V.mk3] at h11
   refine V.skip ?_
   refine V.tN ?_
   refine V.seq ?_
   refine V.region ?_
   refine V.run T_ok 1 rfl ?_
   refine V.nil ?_
   refine V.tN ?_
   refine V.seqJ (fun e v53 => Fr [] w v53 ∧ w47.heap.size ≤ v53.heap.size ∧ Sl (V.Cod.pair (V.Cod.int .i64) (V.Cod.pair (V.Cod.int .i64) (V.Cod.pair (V.Cod.int .i64) (V.Cod.pair V.Cod.byte.sl (V.Cod.pair V.Cod.bool V.Cod.bool))))) v53 D_xs a_xs c_xs xs ∧ Sl V.Cod.byte v53 D_xs a36 c37 x35.2.2.2.1 ∧ Cells v53 k40 [.int .i64 x35.1, .int .i64 x35.2.1, .int .i64 x35.2.2.1, .slice a36 x35.2.2.2.1.length c37, .bool x35.2.2.2.2.1, .bool x35.2.2.2.2.2] 42 ∧ ∃ (jv2 : JV) (dv2 : DiskV) (kj2 kd2 kr2 km2 : Nat) (E2 D2 : Nat → Prop), Pd dv2 (300 * i + 300) ∧ jv2.l.length ≤ 40 * i + 40 ∧ (∀ x, E2 x → w.heap.size ≤ x) ∧ (∀ x, D2 x → w.heap.size ≤ x) ∧ (w.heap.size ≤ kr2 ∧ w.heap.size ≤ km2) ∧ (∀ x, E2 x → ¬ ((x = kr2 ∨ x = km2) ∨ D2 x)) ∧ Jst v53 kj2 kd2 E2 jv2 dv2 ∧ RJst v53 kr2 km2 D2 jv2 dv2 ∧ e 0 = .slice a_xs xs.length c_xs ∧ e 3 = .pointer (some ⟨kd2, 0, none⟩) ∧ e 4 = .pointer (some ⟨km2, 0, none⟩) ∧ e 5 = .pointer (some ⟨kj2, 0, none⟩) ∧ e 7 = .pointer (some ⟨kr2, 0, none⟩) ∧ e 9 = .int .i64 (i : Int) ∧ e 11 = .bool true ∧ True) ?_ ?_
   ·
    refine V.seq ?_
    refine V.region ?_
    refine V.run T_ok 1 rfl ?_
    refine V.loadO T_ok Fk41 rfl rfl rfl rfl rfl ?_
    refine V.nil ?_
    refine V.tN ?_
    refine V.block ?_
    refine V.seq ?_
    refine V.region ?_
    refine V.run T_ok 2 rfl ?_
    refine V.nil ?_
    refine V.tN ?_
    refine V.condT rfl (fun h14 => ?_) (fun h14 => ?_)
    ·
     try replace h14 := V.dec h14
     try simp only [V.mk0, V.mk1, V.mk2, V.mk3] at h14
     refine V.drawMT 8 (fun w_ => V.FrE (fun i => E1 i ∨ (i = kr ∨ i = km)) w47 w_) (fun i => Nat.beq i 3 || Nat.beq i 7) (fun _ g_ => V.FrE.ofGr g_) mixed (by kernel_rfl) (by kernel_rfl) ?_
     refine V.mrun T_ok 2 rfl rfl ?_
     refine V.mloadO T_ok (fun w' g_ => V.Cells.mvE Fk41 g_ (by (try dsimp only [V.In]); first | omega | grind)) rfl rfl rfl rfl rfl rfl ?_
     refine V.mcall (R := fun w1_ v_ w2_ => v_ = .int .i64 (appE jv dv x35.2.2.2.1) ∧ Jst w2_ kj kd (fun i => E1 i ∨ V.In w1_.heap.size w2_.heap.size i) (appJ jv dv x35.2.2.2.1) (appD dv x35.2.2.2.1) ∧ V.FrE E1 w1_ w2_) rfl (fun w1_ g_ h_ => jappend_spec (FJ1.gr h_) (F38.gr h_) (fun j hj => by have := hD_xs j hj; have := V.Fr.size h_; omega) (by omega)) (by rintro wa va wb ca _ ⟨_, _, G_⟩; exact (ca.trans G_).mono (fun i h _ => h.elim id .inl)) rfl rfl rfl ?_
     rintro _ _ _ _ _ ⟨rfl, -, -⟩
     refine V.mrun T_ok 2 rfl rfl ?_
     refine V.mloadO T_ok (fun w' g_ => V.Cells.mvE Fk41 g_ (by (try dsimp only [V.In]); first | omega | grind)) rfl rfl rfl rfl rfl rfl ?_
     refine V.mcall (R := fun w1_ v_ w2_ => v_ = .int .i64 (appE jv dv x35.2.2.2.1) ∧ RJst w2_ kr km (fun i => D1 i ∨ V.In w1_.heap.size w2_.heap.size i) (appJ jv dv x35.2.2.2.1) (appD dv x35.2.2.2.1) ∧ V.FrE (fun i => i = kr ∨ i = km) w1_ w2_) rfl (fun w2_ g_ h_ => by obtain ⟨w1_, _, g0_, _, _, G_⟩ := h_; exact rapp_spec ((FR1.gr g0_).mvE G_ hED1) ((F38.gr g0_).mvE G_ (by intro j h hd; have := hE1 j h; have := hD_xs j hd; omega)) (fun j hj => by have := hD_xs j hj; have := V.Fr.size g0_; have := V.FrE.size G_; omega) (by omega)) (by rintro wa va wb ca _ ⟨_, _, G_⟩; exact (ca.trans G_).mono (fun i h _ => h.elim id .inr)) rfl rfl rfl ?_
     rintro _ _ _ _ _ ⟨rfl, -, -⟩
     refine V.mnil ?_
     rintro w56 - ⟨w55, -, ⟨w54, -, g0_, -, FJ_, G1_⟩, -, FR_, G2_⟩
     have z57 := V.Fr.size g0_
     try replace F_xs := F_xs.gr g0_
     try replace FJ1 := FJ1.gr g0_
     try replace FR1 := FR1.gr g0_
     try replace F38 := F38.gr g0_
     try replace Fk41 := Fk41.gr g0_
     replace HG := HG.grow g0_
     clear g0_
     clear FJ1
     have z58 := V.FrE.size G1_
     first | replace F_xs := F_xs.mvE G1_ (by intro j h hd; (try dsimp only [V.In] at h hd ⊢); first | omega | grind) | clear F_xs | skip
     first | replace FR1 := FR1.mvE G1_ (by intro j h hd; (try dsimp only [V.In] at h hd ⊢); first | omega | grind) | clear FR1 | skip
     first | replace F38 := F38.mvE G1_ (by intro j h hd; (try dsimp only [V.In] at h hd ⊢); first | omega | grind) | clear F38 | skip
     first | replace Fk41 := Fk41.mvE G1_ (by (try dsimp only [V.In]); first | omega | grind) | clear Fk41 | skip
     replace HG := HG.stepE G1_ (by intro i h; (try dsimp only [V.In] at h ⊢); first | omega | grind)
     clear G1_
     clear FR1
     have z59 := V.FrE.size G2_
     first | replace F_xs := F_xs.mvE G2_ (by intro j h hd; (try dsimp only [V.In] at h hd ⊢); first | omega | grind) | clear F_xs | skip
     first | replace F38 := F38.mvE G2_ (by intro j h hd; (try dsimp only [V.In] at h hd ⊢); first | omega | grind) | clear F38 | skip
     first | replace Fk41 := Fk41.mvE G2_ (by (try dsimp only [V.In]); first | omega | grind) | clear Fk41 | skip
     first | replace FJ_ := FJ_.mvE G2_ (by intro j h hd; (try dsimp only [V.In] at h hd ⊢); first | omega | grind) | clear FJ_ | skip
     replace HG := HG.stepE G2_ (by intro i h; (try dsimp only [V.In] at h ⊢); first | omega | grind)
     clear G2_
     refine V.run T_ok 2 rfl ?_
     refine V.nil ?_
     refine V.bN ?_
     refine V.tN ?_
     exact ⟨HG, (by omega), F_xs, F38, Fk41, (appJ jv dv x35.2.2.2.1), (appD dv x35.2.2.2.1), (kj), (kd), (kr), (km), ((fun i => E1 i ∨ V.In w54.heap.size w55.heap.size i)), ((fun i => D1 i ∨ V.In w55.heap.size w56.heap.size i)), ((hpd.app (by omega))), ((by have := (act_len (j := jv) (d := dv)).2.1 x35.2.2.2.1; omega)), ((by intro i h; (try dsimp only [V.In] at h ⊢); first | omega | grind)), ((by intro i h; (try dsimp only [V.In] at h ⊢); first | omega | grind)), (⟨by omega, by omega⟩), ((by intro i h hd; (try dsimp only [V.In] at h hd ⊢); first | omega | grind)), FJ_, FR_, rfl, rfl, rfl, rfl, rfl, rfl, (congrArg Value.bool (by first | rfl | simp)), trivial⟩
    ·
     try replace h14 := V.dec h14
     try simp only [V.mk0, V.mk1, V.mk2, V.mk3] at h14
     refine V.seq ?_
     refine V.region ?_
     refine V.run T_ok 2 rfl ?_
     refine V.nil ?_
     refine V.tN ?_
     refine V.condT rfl (fun h16 => ?_) (fun h16 => ?_)
     ·
      try replace h16 := V.dec h16
      try simp only [V.mk0, V.mk1, V.mk2, V.mk3] at h16
      refine V.drawMT 8 (fun w_ => V.FrE (fun i => E1 i ∨ (i = kr ∨ i = km)) w47 w_) (fun i => Nat.beq i 3 || Nat.beq i 7) (fun _ g_ => V.FrE.ofGr g_) mixed (by kernel_rfl) (by kernel_rfl) ?_
      refine V.mrun T_ok 2 rfl rfl ?_
      refine V.mloadO T_ok (fun w' g_ => V.Cells.mvE Fk41 g_ (by (try dsimp only [V.In]); first | omega | grind)) rfl rfl rfl rfl rfl rfl ?_
      refine V.mcall (R := fun w1_ v_ w2_ => v_ = .int .i64 (cutE jv dv x35.2.1) ∧ Jst w2_ kj kd (fun i => E1 i ∨ V.In w1_.heap.size w2_.heap.size i) (cutJ jv dv x35.2.1) (cutD jv dv x35.2.1) ∧ V.FrE E1 w1_ w2_) rfl (fun w1_ g_ h_ => jcut_spec (FJ1.gr h_) (by omega)) (by rintro wa va wb ca _ ⟨_, _, G_⟩; exact (ca.trans G_).mono (fun i h _ => h.elim id .inl)) rfl rfl rfl ?_
      rintro _ _ _ _ _ ⟨rfl, -, -⟩
      refine V.mrun T_ok 2 rfl rfl ?_
      refine V.mloadO T_ok (fun w' g_ => V.Cells.mvE Fk41 g_ (by (try dsimp only [V.In]); first | omega | grind)) rfl rfl rfl rfl rfl rfl ?_
      refine V.mcall (R := fun w1_ v_ w2_ => v_ = .int .i64 (cutE jv dv x35.2.1) ∧ RJst w2_ kr km (fun i => D1 i ∨ V.In w1_.heap.size w2_.heap.size i) (cutJ jv dv x35.2.1) (cutD jv dv x35.2.1) ∧ V.FrE (fun i => i = kr ∨ i = km) w1_ w2_) rfl (fun w2_ g_ h_ => by obtain ⟨w1_, _, g0_, _, _, G_⟩ := h_; exact rcutj_spec ((FR1.gr g0_).mvE G_ hED1) (by omega)) (by rintro wa va wb ca _ ⟨_, _, G_⟩; exact (ca.trans G_).mono (fun i h _ => h.elim id .inr)) rfl rfl rfl ?_
      rintro _ _ _ _ _ ⟨rfl, -, -⟩
      refine V.mnil ?_
      rintro w62 - ⟨w61, -, ⟨w60, -, g0_, -, FJ_, G1_⟩, -, FR_, G2_⟩
      have z63 := V.Fr.size g0_
      try replace F_xs := F_xs.gr g0_
      try replace FJ1 := FJ1.gr g0_
      try replace FR1 := FR1.gr g0_
      try replace F38 := F38.gr g0_
      try replace Fk41 := Fk41.gr g0_
      replace HG := HG.grow g0_
      clear g0_
      clear FJ1
      have z64 := V.FrE.size G1_
      first | replace F_xs := F_xs.mvE G1_ (by intro j h hd; (try dsimp only [V.In] at h hd ⊢); first | omega | grind) | clear F_xs | skip
      first | replace FR1 := FR1.mvE G1_ (by intro j h hd; (try dsimp only [V.In] at h hd ⊢); first | omega | grind) | clear FR1 | skip
      first | replace F38 := F38.mvE G1_ (by intro j h hd; (try dsimp only [V.In] at h hd ⊢); first | omega | grind) | clear F38 | skip
      first | replace Fk41 := Fk41.mvE G1_ (by (try dsimp only [V.In]); first | omega | grind) | clear Fk41 | skip
      replace HG := HG.stepE G1_ (by intro i h; (try dsimp only [V.In] at h ⊢); first | omega | grind)
      clear G1_
      clear FR1
      have z65 := V.FrE.size G2_
      first | replace F_xs := F_xs.mvE G2_ (by intro j h hd; (try dsimp only [V.In] at h hd ⊢); first | omega | grind) | clear F_xs | skip
      first | replace F38 := F38.mvE G2_ (by intro j h hd; (try dsimp only [V.In] at h hd ⊢); first | omega | grind) | clear F38 | skip
      first | replace Fk41 := Fk41.mvE G2_ (by (try dsimp only [V.In]); first | omega | grind) | clear Fk41 | skip
      first | replace FJ_ := FJ_.mvE G2_ (by intro j h hd; (try dsimp only [V.In] at h hd ⊢); first | omega | grind) | clear FJ_ | skip
      replace HG := HG.stepE G2_ (by intro i h; (try dsimp only [V.In] at h ⊢); first | omega | grind)
      clear G2_
      refine V.run T_ok 2 rfl ?_
      refine V.nil ?_
      refine V.bN ?_
      refine V.tN ?_
      exact ⟨HG, (by omega), F_xs, F38, Fk41, (cutJ jv dv x35.2.1), (cutD jv dv x35.2.1), (kj), (kd), (kr), (km), ((fun i => E1 i ∨ V.In w60.heap.size w61.heap.size i)), ((fun i => D1 i ∨ V.In w61.heap.size w62.heap.size i)), ((hpd.cut x35.2.1 (by omega))), ((by have := (act_len (j := jv) (d := dv)).2.2.1 x35.2.1; omega)), ((by intro i h; (try dsimp only [V.In] at h ⊢); first | omega | grind)), ((by intro i h; (try dsimp only [V.In] at h ⊢); first | omega | grind)), (⟨by omega, by omega⟩), ((by intro i h hd; (try dsimp only [V.In] at h hd ⊢); first | omega | grind)), FJ_, FR_, rfl, rfl, rfl, rfl, rfl, rfl, (congrArg Value.bool (by first | rfl | simp)), trivial⟩
     ·
      try replace h16 := V.dec h16
      try simp only [V.mk0, V.mk1, V.mk2, V.mk3] at h16
      refine V.seq ?_
      refine V.region ?_
      refine V.run T_ok 2 rfl ?_
      refine V.nil ?_
      refine V.tN ?_
      refine V.condT rfl (fun h18 => ?_) (fun h18 => ?_)
      ·
       try replace h18 := V.dec h18
       try simp only [V.mk0, V.mk1, V.mk2, V.mk3] at h18
       refine V.drawMT 12 (fun w_ => V.FrE (fun i => E1 i ∨ (i = kr ∨ i = km)) w47 w_) (fun i => Nat.beq i 5 || Nat.beq i 11) (fun _ g_ => V.FrE.ofGr g_) mixed (by kernel_rfl) (by kernel_rfl) ?_
       refine V.mrun T_ok 2 rfl rfl ?_
       refine V.mloadO T_ok (fun w' g_ => V.Cells.mvE Fk41 g_ (by (try dsimp only [V.In]); first | omega | grind)) rfl rfl rfl rfl rfl rfl ?_
       refine V.mrun T_ok 1 rfl rfl ?_
       refine V.mloadO T_ok (fun w' g_ => V.Cells.mvE Fk41 g_ (by (try dsimp only [V.In]); first | omega | grind)) rfl rfl rfl rfl rfl rfl ?_
       refine V.mcall (R := fun w1_ v_ w2_ => v_ = .int .i64 (rebE jv dv x35.2.1 x35.2.2.2.1) ∧ Jst w2_ kj kd (fun i => E1 i ∨ V.In w1_.heap.size w2_.heap.size i) (rebJ jv dv x35.2.1 x35.2.2.2.1) (rebD dv x35.2.1 x35.2.2.2.1) ∧ V.FrE E1 w1_ w2_) rfl (fun w1_ g_ h_ => jreb_spec (FJ1.gr h_) (F38.gr h_) (fun j hj => by have := hD_xs j hj; have := V.Fr.size h_; omega) (by omega)) (by rintro wa va wb ca _ ⟨_, _, G_⟩; exact (ca.trans G_).mono (fun i h _ => h.elim id .inl)) rfl rfl rfl ?_
       rintro _ _ _ _ _ ⟨rfl, -, -⟩
       refine V.mrun T_ok 2 rfl rfl ?_
       refine V.mloadO T_ok (fun w' g_ => V.Cells.mvE Fk41 g_ (by (try dsimp only [V.In]); first | omega | grind)) rfl rfl rfl rfl rfl rfl ?_
       refine V.mrun T_ok 1 rfl rfl ?_
       refine V.mloadO T_ok (fun w' g_ => V.Cells.mvE Fk41 g_ (by (try dsimp only [V.In]); first | omega | grind)) rfl rfl rfl rfl rfl rfl ?_
       refine V.mcall (R := fun w1_ v_ w2_ => v_ = .int .i64 (rebE jv dv x35.2.1 x35.2.2.2.1) ∧ RJst w2_ kr km (fun i => D1 i ∨ V.In w1_.heap.size w2_.heap.size i) (rebJ jv dv x35.2.1 x35.2.2.2.1) (rebD dv x35.2.1 x35.2.2.2.1) ∧ V.FrE (fun i => i = kr ∨ i = km) w1_ w2_) rfl (fun w2_ g_ h_ => by obtain ⟨w1_, _, g0_, _, _, G_⟩ := h_; exact rreb_spec ((FR1.gr g0_).mvE G_ hED1) ((F38.gr g0_).mvE G_ (by intro j h hd; have := hE1 j h; have := hD_xs j hd; omega)) (fun j hj => by have := hD_xs j hj; have := V.Fr.size g0_; have := V.FrE.size G_; omega) (by omega)) (by rintro wa va wb ca _ ⟨_, _, G_⟩; exact (ca.trans G_).mono (fun i h _ => h.elim id .inr)) rfl rfl rfl ?_
       rintro _ _ _ _ _ ⟨rfl, -, -⟩
       refine V.mnil ?_
       rintro w68 - ⟨w67, -, ⟨w66, -, g0_, -, FJ_, G1_⟩, -, FR_, G2_⟩
       have z69 := V.Fr.size g0_
       try replace F_xs := F_xs.gr g0_
       try replace FJ1 := FJ1.gr g0_
       try replace FR1 := FR1.gr g0_
       try replace F38 := F38.gr g0_
       try replace Fk41 := Fk41.gr g0_
       replace HG := HG.grow g0_
       clear g0_
       clear FJ1
       have z70 := V.FrE.size G1_
       first | replace F_xs := F_xs.mvE G1_ (by intro j h hd; (try dsimp only [V.In] at h hd ⊢); first | omega | grind) | clear F_xs | skip
       first | replace FR1 := FR1.mvE G1_ (by intro j h hd; (try dsimp only [V.In] at h hd ⊢); first | omega | grind) | clear FR1 | skip
       first | replace F38 := F38.mvE G1_ (by intro j h hd; (try dsimp only [V.In] at h hd ⊢); first | omega | grind) | clear F38 | skip
       first | replace Fk41 := Fk41.mvE G1_ (by (try dsimp only [V.In]); first | omega | grind) | clear Fk41 | skip
       replace HG := HG.stepE G1_ (by intro i h; (try dsimp only [V.In] at h ⊢); first | omega | grind)
       clear G1_
       clear FR1
       have z71 := V.FrE.size G2_
       first | replace F_xs := F_xs.mvE G2_ (by intro j h hd; (try dsimp only [V.In] at h hd ⊢); first | omega | grind) | clear F_xs | skip
       first | replace F38 := F38.mvE G2_ (by intro j h hd; (try dsimp only [V.In] at h hd ⊢); first | omega | grind) | clear F38 | skip
       first | replace Fk41 := Fk41.mvE G2_ (by (try dsimp only [V.In]); first | omega | grind) | clear Fk41 | skip
       first | replace FJ_ := FJ_.mvE G2_ (by intro j h hd; (try dsimp only [V.In] at h hd ⊢); first | omega | grind) | clear FJ_ | skip
       replace HG := HG.stepE G2_ (by intro i h; (try dsimp only [V.In] at h ⊢); first | omega | grind)
       clear G2_
       refine V.run T_ok 2 rfl ?_
       refine V.nil ?_
       refine V.bN ?_
       refine V.tN ?_
       exact ⟨HG, (by omega), F_xs, F38, Fk41, (rebJ jv dv x35.2.1 x35.2.2.2.1), (rebD dv x35.2.1 x35.2.2.2.1), (kj), (kd), (kr), (km), ((fun i => E1 i ∨ V.In w66.heap.size w67.heap.size i)), ((fun i => D1 i ∨ V.In w67.heap.size w68.heap.size i)), ((hpd.reb x35.2.1 (by omega))), ((by have := (act_len (j := jv) (d := dv)).2.2.2.1 x35.2.1 x35.2.2.2.1; omega)), ((by intro i h; (try dsimp only [V.In] at h ⊢); first | omega | grind)), ((by intro i h; (try dsimp only [V.In] at h ⊢); first | omega | grind)), (⟨by omega, by omega⟩), ((by intro i h hd; (try dsimp only [V.In] at h hd ⊢); first | omega | grind)), FJ_, FR_, rfl, rfl, rfl, rfl, rfl, rfl, (congrArg Value.bool (by first | rfl | simp)), trivial⟩
      ·
       try replace h18 := V.dec h18
       try simp only [V.mk0, V.mk1, V.mk2, V.mk3] at h18
       refine V.seq ?_
       refine V.region ?_
       refine V.run T_ok 2 rfl ?_
       refine V.nil ?_
       refine V.tN ?_
       refine V.condT rfl (fun h20 => ?_) (fun h20 => ?_)
       ·
        try replace h20 := V.dec h20
        try simp only [V.mk0, V.mk1, V.mk2, V.mk3] at h20
        refine V.drawMT 13 (fun w_ => V.FrE (fun i => E1 i ∨ (i = kr ∨ i = km)) w47 w_) (fun i => Nat.beq i 6 || Nat.beq i 12) (fun _ g_ => V.FrE.ofGr g_) mixed (by kernel_rfl) (by kernel_rfl) ?_
        refine V.mrun T_ok 2 rfl rfl ?_
        refine V.mloadO T_ok (fun w' g_ => V.Cells.mvE Fk41 g_ (by (try dsimp only [V.In]); first | omega | grind)) rfl rfl rfl rfl rfl rfl ?_
        refine V.mrun T_ok 1 rfl rfl ?_
        refine V.mloadO T_ok (fun w' g_ => V.Cells.mvE Fk41 g_ (by (try dsimp only [V.In]); first | omega | grind)) rfl rfl rfl rfl rfl rfl ?_
        refine V.mmkStruct T_ok zero47 rfl rfl rfl rfl rfl rfl ?_
        refine V.mcall (R := fun w1_ v_ w2_ => v_ = .int .i64 (setE x35.2.1 x35.2.2.1 1) ∧ Jst w2_ kj kd (fun i => E1 i ∨ V.In w1_.heap.size w2_.heap.size i) (setJ jv x35.2.1 x35.2.2.1 1) (setD dv x35.2.1 x35.2.2.1 1) ∧ V.FrE E1 w1_ w2_) rfl (fun w1_ g_ h_ => jset_spec (FJ1.gr h_)) (by rintro wa va wb ca _ ⟨_, _, G_⟩; exact (ca.trans G_).mono (fun i h _ => h.elim id .inl)) rfl rfl rfl ?_
        rintro _ _ _ _ _ ⟨rfl, -, -⟩
        refine V.mrun T_ok 2 rfl rfl ?_
        refine V.mloadO T_ok (fun w' g_ => V.Cells.mvE Fk41 g_ (by (try dsimp only [V.In]); first | omega | grind)) rfl rfl rfl rfl rfl rfl ?_
        refine V.mrun T_ok 1 rfl rfl ?_
        refine V.mloadO T_ok (fun w' g_ => V.Cells.mvE Fk41 g_ (by (try dsimp only [V.In]); first | omega | grind)) rfl rfl rfl rfl rfl rfl ?_
        refine V.mcall (R := fun w1_ v_ w2_ => v_ = .int .i64 (setE x35.2.1 x35.2.2.1 1) ∧ RJst w2_ kr km (fun i => D1 i ∨ V.In w1_.heap.size w2_.heap.size i) (setJ jv x35.2.1 x35.2.2.1 1) (setD dv x35.2.1 x35.2.2.1 1) ∧ V.FrE (fun i => i = kr ∨ i = km) w1_ w2_) rfl (fun w2_ g_ h_ => by obtain ⟨w1_, _, g0_, _, _, G_⟩ := h_; exact rsetj_spec ((FR1.gr g0_).mvE G_ hED1)) (by rintro wa va wb ca _ ⟨_, _, G_⟩; exact (ca.trans G_).mono (fun i h _ => h.elim id .inr)) rfl rfl rfl ?_
        rintro _ _ _ _ _ ⟨rfl, -, -⟩
        refine V.mnil ?_
        rintro w74 - ⟨w73, -, ⟨w72, -, g0_, -, FJ_, G1_⟩, -, FR_, G2_⟩
        have z75 := V.Fr.size g0_
        try replace F_xs := F_xs.gr g0_
        try replace FJ1 := FJ1.gr g0_
        try replace FR1 := FR1.gr g0_
        try replace F38 := F38.gr g0_
        try replace Fk41 := Fk41.gr g0_
        replace HG := HG.grow g0_
        clear g0_
        clear FJ1
        have z76 := V.FrE.size G1_
        first | replace F_xs := F_xs.mvE G1_ (by intro j h hd; (try dsimp only [V.In] at h hd ⊢); first | omega | grind) | clear F_xs | skip
        first | replace FR1 := FR1.mvE G1_ (by intro j h hd; (try dsimp only [V.In] at h hd ⊢); first | omega | grind) | clear FR1 | skip
        first | replace F38 := F38.mvE G1_ (by intro j h hd; (try dsimp only [V.In] at h hd ⊢); first | omega | grind) | clear F38 | skip
        first | replace Fk41 := Fk41.mvE G1_ (by (try dsimp only [V.In]); first | omega | grind) | clear Fk41 | skip
        replace HG := HG.stepE G1_ (by intro i h; (try dsimp only [V.In] at h ⊢); first | omega | grind)
        clear G1_
        clear FR1
        have z77 := V.FrE.size G2_
        first | replace F_xs := F_xs.mvE G2_ (by intro j h hd; (try dsimp only [V.In] at h hd ⊢); first | omega | grind) | clear F_xs | skip
        first | replace F38 := F38.mvE G2_ (by intro j h hd; (try dsimp only [V.In] at h hd ⊢); first | omega | grind) | clear F38 | skip
        first | replace Fk41 := Fk41.mvE G2_ (by (try dsimp only [V.In]); first | omega | grind) | clear Fk41 | skip
        first | replace FJ_ := FJ_.mvE G2_ (by intro j h hd; (try dsimp only [V.In] at h hd ⊢); first | omega | grind) | clear FJ_ | skip
        replace HG := HG.stepE G2_ (by intro i h; (try dsimp only [V.In] at h ⊢); first | omega | grind)
        clear G2_
        refine V.run T_ok 2 rfl ?_
        refine V.nil ?_
        refine V.bN ?_
        refine V.tN ?_
        exact ⟨HG, (by omega), F_xs, F38, Fk41, (setJ jv x35.2.1 x35.2.2.1 1), (setD dv x35.2.1 x35.2.2.1 1), (kj), (kd), (kr), (km), ((fun i => E1 i ∨ V.In w72.heap.size w73.heap.size i)), ((fun i => D1 i ∨ V.In w73.heap.size w74.heap.size i)), (((hpd.set x35.2.1 x35.2.2.1 1).mono (by omega))), ((by have := (act_len (j := jv) (d := dv)).2.2.2.2 x35.2.1 x35.2.2.1 1; omega)), ((by intro i h; (try dsimp only [V.In] at h ⊢); first | omega | grind)), ((by intro i h; (try dsimp only [V.In] at h ⊢); first | omega | grind)), (⟨by omega, by omega⟩), ((by intro i h hd; (try dsimp only [V.In] at h hd ⊢); first | omega | grind)), FJ_, FR_, rfl, rfl, rfl, rfl, rfl, rfl, (congrArg Value.bool (by first | rfl | simp)), trivial⟩
       ·
        try replace h20 := V.dec h20
        try simp only [V.mk0, V.mk1, V.mk2, V.mk3] at h20
        refine V.seq ?_
        refine V.region ?_
        refine V.run T_ok 2 rfl ?_
        refine V.nil ?_
        refine V.tN ?_
        refine V.condT rfl (fun h22 => ?_) (fun h22 => ?_)
        ·
         try replace h22 := V.dec h22
         try simp only [V.mk0, V.mk1, V.mk2, V.mk3] at h22
         refine V.seq ?_
         refine V.region ?_
         refine V.run T_ok 1 rfl ?_
         refine V.call (rj_sync FR1) rfl rfl rfl ?_
         rintro _ w79 ⟨rfl, F78, G80⟩
         have z81 := V.Fr.size G80
         try replace F_xs := F_xs.mb G80 hD_xs
         first | replace FJ1 := FJ1.mv1 G80 (by (try dsimp only [V.In]); first | omega | grind) | clear FJ1 | skip
         first | replace FR1 := FR1.mv1 G80 (by (try dsimp only [V.In]); first | omega | grind) | clear FR1 | skip
         try replace F38 := F38.mb G80 hD_xs
         try replace Fk41 := Fk41.ma G80
         replace HG := HG.n1 G80
         clear G80
         refine V.nil ?_
         refine V.tN ?_
         refine V.region ?_
         refine V.run T_ok 1 rfl ?_
         refine V.call (jsync_spec FJ1) rfl rfl rfl ?_
         rintro _ w83 ⟨rfl, F82, G84⟩
         have z85 := V.FrE.size G84
         first | replace F_xs := F_xs.mvE G84 (by intro j h hd; (try dsimp only [V.In] at h hd ⊢); first | omega | grind) | clear F_xs | skip
         first | replace FJ1 := FJ1.mvE G84 (by intro j h hd; (try dsimp only [V.In] at h hd ⊢); first | omega | grind) | clear FJ1 | skip
         first | replace F38 := F38.mvE G84 (by intro j h hd; (try dsimp only [V.In] at h hd ⊢); first | omega | grind) | clear F38 | skip
         first | replace Fk41 := Fk41.mvE G84 (by (try dsimp only [V.In]); first | omega | grind) | clear Fk41 | skip
         first | replace F78 := F78.mvE G84 (by intro j h hd; (try dsimp only [V.In] at h hd ⊢); first | omega | grind) | clear F78 | skip
         replace HG := HG.stepE G84 (by intro i h; (try dsimp only [V.In] at h ⊢); first | omega | grind)
         clear G84
         refine V.run T_ok 2 rfl ?_
         refine V.nil ?_
         refine V.bN ?_
         refine V.tN ?_
         exact ⟨HG, (by omega), F_xs, F38, Fk41, (jv), (dSync dv), (kj), (kd), (kr), (km), ((fun i => E1 i ∨ V.In w79.heap.size w83.heap.size i)), ((fun i => D1 i ∨ V.In w47.heap.size w79.heap.size i)), ((hpd.sync.mono (by omega))), ((by omega)), ((by intro i h; (try dsimp only [V.In] at h ⊢); first | omega | grind)), ((by intro i h; (try dsimp only [V.In] at h ⊢); first | omega | grind)), (⟨by omega, by omega⟩), ((by intro i h hd; (try dsimp only [V.In] at h hd ⊢); first | omega | grind)), F82, F78, rfl, rfl, rfl, rfl, rfl, rfl, (congrArg Value.bool (by first | rfl | simp)), trivial⟩
        ·
         try replace h22 := V.dec h22
         try simp only [V.mk0, V.mk1, V.mk2, V.mk3] at h22
         refine V.seq ?_
         refine V.seq ?_
         refine V.region ?_
         refine V.run T_ok 2 rfl ?_
         refine V.nil ?_
         refine V.tN ?_
         refine V.condT rfl (fun h25 => ?_) (fun h25 => ?_)
         ·
          try replace h25 := V.dec h25
          try simp only [V.mk0, V.mk1, V.mk2, V.mk3] at h25
          refine V.skip ?_
          refine V.tN ?_
          refine V.condT rfl (fun h25 => ?_) (fun h25 => ?_)
          ·
           try replace h25 := V.dec h25
           try simp only [V.mk0, V.mk1, V.mk2, V.mk3] at h25
           refine V.seq ?_
           refine V.seq ?_
           refine V.region ?_
           refine V.run T_ok 1 rfl ?_
           refine V.loadO T_ok Fk41 rfl rfl rfl rfl rfl ?_
           refine V.run T_ok 1 rfl ?_
           refine V.nil ?_
           refine V.tN ?_
           refine V.condT rfl (fun h27 => ?_) (fun h27 => ?_)
           ·
            try replace h27 := V.dec h27
            try simp only [V.mk0, V.mk1, V.mk2, V.mk3] at h27
            refine V.seq ?_
            refine V.region ?_
            refine V.run T_ok 2 rfl ?_
            refine V.loadO T_ok Fk41 rfl rfl rfl rfl rfl ?_
            refine V.run T_ok 1 rfl ?_
            refine V.loadO T_ok Fk41 rfl rfl rfl rfl rfl ?_
            refine V.run T_ok 1 rfl ?_
            refine V.loadO T_ok Fk41 rfl rfl rfl rfl rfl ?_
            refine V.call (jd_crash (keep := x35.2.2.1) (torn := x35.2.2.2.2.1) (cell := x35.2.2.2.2.2) FJ1) rfl rfl rfl ?_
            rintro _ w89 ⟨k86, rfl, ⟨h87l, h87u⟩, F88, G90⟩
            have z91 := V.Fr.size G90
            try replace F_xs := F_xs.gr G90
            try replace FJ1 := FJ1.gr G90
            try replace FR1 := FR1.gr G90
            try replace F38 := F38.gr G90
            try replace Fk41 := Fk41.gr G90
            replace HG := HG.grow G90
            clear G90
            refine V.run T_ok 1 rfl ?_
            refine V.nil ?_
            refine V.tN ?_
            refine V.region ?_
            refine V.run T_ok 2 rfl ?_
            refine V.loadO T_ok Fk41 rfl rfl rfl rfl rfl ?_
            refine V.run T_ok 1 rfl ?_
            refine V.loadO T_ok Fk41 rfl rfl rfl rfl rfl ?_
            refine V.run T_ok 1 rfl ?_
            refine V.loadO T_ok Fk41 rfl rfl rfl rfl rfl ?_
            refine V.call (rj_crash (keep := x35.2.2.1) (torn := x35.2.2.2.2.1) (cell := x35.2.2.2.2.2) FR1) rfl rfl rfl ?_
            rintro _ w95 ⟨k92, rfl, ⟨h93l, h93u⟩, F94, G96⟩
            have z97 := V.Fr.size G96
            try replace F_xs := F_xs.gr G96
            try replace FJ1 := FJ1.gr G96
            try replace FR1 := FR1.gr G96
            try replace F38 := F38.gr G96
            try replace Fk41 := Fk41.gr G96
            try replace F88 := F88.gr G96
            replace HG := HG.grow G96
            clear G96
            refine V.run T_ok 1 rfl ?_
            refine V.nil ?_
            refine V.tN ?_
            refine V.seq ?_
            have hpd9 : Pd (dCrash dv x35.2.2.1 x35.2.2.2.2.1 x35.2.2.2.2.2) (300 * i + 300) := (hpd.crash _ _ _).mono (by omega)
            obtain ⟨⟨t1, t2, t3⟩, hh9⟩ := hpd9.nc
            rcases hr9 : runV ⟨0, [], [], t1, t2, t3⟩ (scanB (dCrash dv x35.2.2.1 x35.2.2.2.2.1 x35.2.2.2.2.2).nf).1 with ⟨j2, nn⟩
            refine V.region ?_
            refine V.run T_ok 1 rfl ?_
            refine V.call (open_some F88 hh9 hr9 (by have := hpd9.nf; omega)) rfl rfl rfl ?_
            rintro _ w101 ⟨k98, rfl, ⟨h99l, h99u⟩, F100, G102⟩
            have z103 := V.Fr.size G102
            try replace F_xs := F_xs.mb G102 hD_xs
            first | replace FJ1 := FJ1.mv1 G102 (by (try dsimp only [V.In]); first | omega | grind) | clear FJ1 | skip
            first | replace FR1 := FR1.mv1 G102 (by (try dsimp only [V.In]); first | omega | grind) | clear FR1 | skip
            try replace F38 := F38.mb G102 hD_xs
            try replace Fk41 := Fk41.ma G102
            first | replace F88 := F88.mv1 G102 (by (try dsimp only [V.In]); first | omega | grind) | clear F88 | skip
            first | replace F94 := F94.mv1 G102 (by (try dsimp only [V.In]); first | omega | grind) | clear F94 | skip
            replace HG := HG.n1 G102
            clear G102
            refine V.run T_ok 5 rfl ?_
            refine V.nil ?_
            refine V.tN ?_
            refine V.seq ?_
            refine V.region ?_
            refine V.run T_ok 1 rfl ?_
            refine V.call (ropen_some F94 hh9 hr9 (by have := hpd9.nf; omega)) rfl rfl rfl ?_
            rintro _ w107 ⟨k104, rfl, ⟨h105l, h105u⟩, F106, G108⟩
            have z109 := V.Fr.size G108
            try replace F_xs := F_xs.mb G108 hD_xs
            first | replace FJ1 := FJ1.mv1 G108 (by (try dsimp only [V.In]); first | omega | grind) | clear FJ1 | skip
            first | replace FR1 := FR1.mv1 G108 (by (try dsimp only [V.In]); first | omega | grind) | clear FR1 | skip
            try replace F38 := F38.mb G108 hD_xs
            try replace Fk41 := Fk41.ma G108
            first | replace F94 := F94.mv1 G108 (by (try dsimp only [V.In]); first | omega | grind) | clear F94 | skip
            first | replace F100 := F100.mv1 G108 (by (try dsimp only [V.In]); first | omega | grind) | clear F100 | skip
            replace HG := HG.n1 G108
            clear G108
            refine V.run T_ok 5 rfl ?_
            refine V.nil ?_
            refine V.tN ?_
            refine V.seq ?_
            refine V.region ?_
            refine V.run T_ok 10 rfl ?_
            refine V.nil ?_
            refine V.tN ?_
            refine V.condN rfl rfl ?_
            refine V.skip ?_
            refine V.bN ?_
            refine V.tN ?_
            exact ⟨HG, (by omega), F_xs, F38, Fk41, (j2), ((openD (dCrash dv x35.2.2.1 x35.2.2.2.2.1 x35.2.2.2.2.2) nn)), (k98), (k86), (k104), (k92), ((fun i => ((fun i => V.In w47.heap.size w89.heap.size i ∧ i ≠ k86) i ∨ i = k86) ∨ V.In w95.heap.size w101.heap.size i)), ((fun i => ((fun i => (D1 i ∨ V.In w89.heap.size w95.heap.size i) ∧ i ≠ k92) i ∨ V.In w101.heap.size w107.heap.size i) ∧ i ≠ k104)), ((hpd9.open nn)), ((by have := run_len hr9; have := hpd9.nf; omega)), ((by intro i h; (try dsimp only [V.In] at h ⊢); first | omega | grind)), ((by intro i h; (try dsimp only [V.In] at h ⊢); first | omega | grind)), (⟨by omega, by omega⟩), ((by intro i h hd; (try dsimp only [V.In] at h hd ⊢); first | omega | grind)), F100, F106, rfl, rfl, rfl, rfl, rfl, rfl, (congrArg Value.bool (by first | rfl | simp)), trivial⟩
           ·
            try replace h27 := V.dec h27
            try simp only [V.mk0, V.mk1, V.mk2, V.mk3] at h27
            refine V.seq ?_
            refine V.region ?_
            refine V.run T_ok 2 rfl ?_
            refine V.loadO T_ok Fk41 rfl rfl rfl rfl rfl ?_
            refine V.call (jd_append FJ1 F38 (by first | omega | (simp only [List.length_take, List.length_drop, List.length_append, List.length_cons, List.length_nil, List.length_replicate, List.length_set, V.length_data, V.S_size]; omega))) rfl rfl rfl ?_
            rintro _ w111 ⟨rfl, F110, G112⟩
            have z113 := V.Fr.size G112
            try replace F_xs := F_xs.mb G112 hD_xs
            first | replace FJ1 := FJ1.mv1 G112 (by (try dsimp only [V.In]); first | omega | grind) | clear FJ1 | skip
            first | replace FR1 := FR1.mv1 G112 (by (try dsimp only [V.In]); first | omega | grind) | clear FR1 | skip
            try replace F38 := F38.mb G112 hD_xs
            try replace Fk41 := Fk41.ma G112
            replace HG := HG.n1 G112
            clear G112
            refine V.nil ?_
            refine V.tN ?_
            refine V.region ?_
            refine V.run T_ok 2 rfl ?_
            refine V.loadO T_ok Fk41 rfl rfl rfl rfl rfl ?_
            refine V.call (rj_append FR1 F38 (by first | omega | (simp only [List.length_take, List.length_drop, List.length_append, List.length_cons, List.length_nil, List.length_replicate, List.length_set, V.length_data, V.S_size]; omega))) rfl rfl rfl ?_
            rintro _ w115 ⟨rfl, F114, G116⟩
            have z117 := V.Fr.size G116
            try replace F_xs := F_xs.mb G116 hD_xs
            first | replace FR1 := FR1.mv1 G116 (by (try dsimp only [V.In]); first | omega | grind) | clear FR1 | skip
            try replace F38 := F38.mb G116 hD_xs
            try replace Fk41 := Fk41.ma G116
            first | replace F110 := F110.mv1 G116 (by (try dsimp only [V.In]); first | omega | grind) | clear F110 | skip
            replace HG := HG.n1 G116
            clear G116
            refine V.nil ?_
            refine V.tN ?_
            refine V.seq ?_
            have hpd9 : Pd (dAppend dv x35.2.2.2.1) (300 * i + 300) := hpd.append (by omega)
            obtain ⟨⟨t1, t2, t3⟩, hh9⟩ := hpd9.nc
            rcases hr9 : runV ⟨0, [], [], t1, t2, t3⟩ (scanB (dAppend dv x35.2.2.2.1).nf).1 with ⟨j2, nn⟩
            refine V.region ?_
            refine V.run T_ok 1 rfl ?_
            refine V.call (open_some F110 hh9 hr9 (by have := hpd9.nf; omega)) rfl rfl rfl ?_
            rintro _ w121 ⟨k118, rfl, ⟨h119l, h119u⟩, F120, G122⟩
            have z123 := V.Fr.size G122
            try replace F_xs := F_xs.mb G122 hD_xs
            try replace F38 := F38.mb G122 hD_xs
            try replace Fk41 := Fk41.ma G122
            first | replace F110 := F110.mv1 G122 (by (try dsimp only [V.In]); first | omega | grind) | clear F110 | skip
            first | replace F114 := F114.mv1 G122 (by (try dsimp only [V.In]); first | omega | grind) | clear F114 | skip
            replace HG := HG.n1 G122
            clear G122
            refine V.run T_ok 5 rfl ?_
            refine V.nil ?_
            refine V.tN ?_
            refine V.seq ?_
            refine V.region ?_
            refine V.run T_ok 1 rfl ?_
            refine V.call (ropen_some F114 hh9 hr9 (by have := hpd9.nf; omega)) rfl rfl rfl ?_
            rintro _ w127 ⟨k124, rfl, ⟨h125l, h125u⟩, F126, G128⟩
            have z129 := V.Fr.size G128
            try replace F_xs := F_xs.mb G128 hD_xs
            try replace F38 := F38.mb G128 hD_xs
            try replace Fk41 := Fk41.ma G128
            first | replace F114 := F114.mv1 G128 (by (try dsimp only [V.In]); first | omega | grind) | clear F114 | skip
            first | replace F120 := F120.mv1 G128 (by (try dsimp only [V.In]); first | omega | grind) | clear F120 | skip
            replace HG := HG.n1 G128
            clear G128
            refine V.run T_ok 5 rfl ?_
            refine V.nil ?_
            refine V.tN ?_
            refine V.seq ?_
            refine V.region ?_
            refine V.run T_ok 10 rfl ?_
            refine V.nil ?_
            refine V.tN ?_
            refine V.condN rfl rfl ?_
            refine V.skip ?_
            refine V.bN ?_
            refine V.tN ?_
            exact ⟨HG, (by omega), F_xs, F38, Fk41, (j2), ((openD (dAppend dv x35.2.2.2.1) nn)), (k118), (kd), (k124), (km), ((fun i => ((fun i => (E1 i ∧ i ≠ kd) ∨ V.In w47.heap.size w111.heap.size i) i ∨ i = kd) ∨ V.In w115.heap.size w121.heap.size i)), ((fun i => ((fun i => D1 i ∨ V.In w111.heap.size w115.heap.size i) i ∨ V.In w121.heap.size w127.heap.size i) ∧ i ≠ k124)), ((hpd9.open nn)), ((by have := run_len hr9; have := hpd9.nf; omega)), ((by intro i h; (try dsimp only [V.In] at h ⊢); first | omega | grind)), ((by intro i h; (try dsimp only [V.In] at h ⊢); first | omega | grind)), (⟨by omega, by omega⟩), ((by intro i h hd; (try dsimp only [V.In] at h hd ⊢); first | omega | grind)), F120, F126, rfl, rfl, rfl, rfl, rfl, rfl, (congrArg Value.bool (by first | rfl | simp)), trivial⟩
          ·
           try replace h25 := V.dec h25
           try simp only [V.mk0, V.mk1, V.mk2, V.mk3] at h25
           refine V.skip ?_
           refine V.bN ?_
           refine V.tN ?_
           exact ⟨HG, (by omega), F_xs, F38, Fk41, (jv), (dv), (kj), (kd), (kr), (km), (E1), (D1), ((hpd.mono (by omega))), ((by omega)), ((by intro i h; (try dsimp only [V.In] at h ⊢); first | omega | grind)), ((by intro i h; (try dsimp only [V.In] at h ⊢); first | omega | grind)), (⟨by omega, by omega⟩), ((by intro i h hd; (try dsimp only [V.In] at h hd ⊢); first | omega | grind)), FJ1, FR1, rfl, rfl, rfl, rfl, rfl, rfl, (congrArg Value.bool (by first | rfl | simp)), trivial⟩
         ·
          try replace h25 := V.dec h25
          try simp only [V.mk0, V.mk1, V.mk2, V.mk3] at h25
          refine V.region ?_
          refine V.run T_ok 2 rfl ?_
          refine V.nil ?_
          refine V.tN ?_
          refine V.condT rfl (fun h26 => ?_) (fun h26 => ?_)
          ·
           try replace h26 := V.dec h26
           try simp only [V.mk0, V.mk1, V.mk2, V.mk3] at h26
           refine V.seq ?_
           refine V.seq ?_
           refine V.region ?_
           refine V.run T_ok 1 rfl ?_
           refine V.loadO T_ok Fk41 rfl rfl rfl rfl rfl ?_
           refine V.run T_ok 1 rfl ?_
           refine V.nil ?_
           refine V.tN ?_
           refine V.condT rfl (fun h27 => ?_) (fun h27 => ?_)
           ·
            try replace h27 := V.dec h27
            try simp only [V.mk0, V.mk1, V.mk2, V.mk3] at h27
            refine V.seq ?_
            refine V.region ?_
            refine V.run T_ok 2 rfl ?_
            refine V.loadO T_ok Fk41 rfl rfl rfl rfl rfl ?_
            refine V.run T_ok 1 rfl ?_
            refine V.loadO T_ok Fk41 rfl rfl rfl rfl rfl ?_
            refine V.run T_ok 1 rfl ?_
            refine V.loadO T_ok Fk41 rfl rfl rfl rfl rfl ?_
            refine V.call (jd_crash (keep := x35.2.2.1) (torn := x35.2.2.2.2.1) (cell := x35.2.2.2.2.2) FJ1) rfl rfl rfl ?_
            rintro _ w133 ⟨k130, rfl, ⟨h131l, h131u⟩, F132, G134⟩
            have z135 := V.Fr.size G134
            try replace F_xs := F_xs.gr G134
            try replace FJ1 := FJ1.gr G134
            try replace FR1 := FR1.gr G134
            try replace F38 := F38.gr G134
            try replace Fk41 := Fk41.gr G134
            replace HG := HG.grow G134
            clear G134
            refine V.run T_ok 1 rfl ?_
            refine V.nil ?_
            refine V.tN ?_
            refine V.region ?_
            refine V.run T_ok 2 rfl ?_
            refine V.loadO T_ok Fk41 rfl rfl rfl rfl rfl ?_
            refine V.run T_ok 1 rfl ?_
            refine V.loadO T_ok Fk41 rfl rfl rfl rfl rfl ?_
            refine V.run T_ok 1 rfl ?_
            refine V.loadO T_ok Fk41 rfl rfl rfl rfl rfl ?_
            refine V.call (rj_crash (keep := x35.2.2.1) (torn := x35.2.2.2.2.1) (cell := x35.2.2.2.2.2) FR1) rfl rfl rfl ?_
            rintro _ w139 ⟨k136, rfl, ⟨h137l, h137u⟩, F138, G140⟩
            have z141 := V.Fr.size G140
            try replace F_xs := F_xs.gr G140
            try replace FJ1 := FJ1.gr G140
            try replace FR1 := FR1.gr G140
            try replace F38 := F38.gr G140
            try replace Fk41 := Fk41.gr G140
            try replace F132 := F132.gr G140
            replace HG := HG.grow G140
            clear G140
            refine V.run T_ok 1 rfl ?_
            refine V.nil ?_
            refine V.tN ?_
            refine V.seq ?_
            have hpd9 : Pd (dCrash dv x35.2.2.1 x35.2.2.2.2.1 x35.2.2.2.2.2) (300 * i + 300) := (hpd.crash _ _ _).mono (by omega)
            obtain ⟨⟨t1, t2, t3⟩, hh9⟩ := hpd9.nc
            rcases hr9 : runV ⟨0, [], [], t1, t2, t3⟩ (scanB (dCrash dv x35.2.2.1 x35.2.2.2.2.1 x35.2.2.2.2.2).nf).1 with ⟨j2, nn⟩
            refine V.region ?_
            refine V.run T_ok 1 rfl ?_
            refine V.call (open_some F132 hh9 hr9 (by have := hpd9.nf; omega)) rfl rfl rfl ?_
            rintro _ w145 ⟨k142, rfl, ⟨h143l, h143u⟩, F144, G146⟩
            have z147 := V.Fr.size G146
            try replace F_xs := F_xs.mb G146 hD_xs
            first | replace FJ1 := FJ1.mv1 G146 (by (try dsimp only [V.In]); first | omega | grind) | clear FJ1 | skip
            first | replace FR1 := FR1.mv1 G146 (by (try dsimp only [V.In]); first | omega | grind) | clear FR1 | skip
            try replace F38 := F38.mb G146 hD_xs
            try replace Fk41 := Fk41.ma G146
            first | replace F132 := F132.mv1 G146 (by (try dsimp only [V.In]); first | omega | grind) | clear F132 | skip
            first | replace F138 := F138.mv1 G146 (by (try dsimp only [V.In]); first | omega | grind) | clear F138 | skip
            replace HG := HG.n1 G146
            clear G146
            refine V.run T_ok 5 rfl ?_
            refine V.nil ?_
            refine V.tN ?_
            refine V.seq ?_
            refine V.region ?_
            refine V.run T_ok 1 rfl ?_
            refine V.call (ropen_some F138 hh9 hr9 (by have := hpd9.nf; omega)) rfl rfl rfl ?_
            rintro _ w151 ⟨k148, rfl, ⟨h149l, h149u⟩, F150, G152⟩
            have z153 := V.Fr.size G152
            try replace F_xs := F_xs.mb G152 hD_xs
            first | replace FJ1 := FJ1.mv1 G152 (by (try dsimp only [V.In]); first | omega | grind) | clear FJ1 | skip
            first | replace FR1 := FR1.mv1 G152 (by (try dsimp only [V.In]); first | omega | grind) | clear FR1 | skip
            try replace F38 := F38.mb G152 hD_xs
            try replace Fk41 := Fk41.ma G152
            first | replace F138 := F138.mv1 G152 (by (try dsimp only [V.In]); first | omega | grind) | clear F138 | skip
            first | replace F144 := F144.mv1 G152 (by (try dsimp only [V.In]); first | omega | grind) | clear F144 | skip
            replace HG := HG.n1 G152
            clear G152
            refine V.run T_ok 5 rfl ?_
            refine V.nil ?_
            refine V.tN ?_
            refine V.seq ?_
            refine V.region ?_
            refine V.run T_ok 10 rfl ?_
            refine V.nil ?_
            refine V.tN ?_
            refine V.condN rfl rfl ?_
            refine V.skip ?_
            refine V.bN ?_
            refine V.tN ?_
            exact ⟨HG, (by omega), F_xs, F38, Fk41, (j2), ((openD (dCrash dv x35.2.2.1 x35.2.2.2.2.1 x35.2.2.2.2.2) nn)), (k142), (k130), (k148), (k136), ((fun i => ((fun i => V.In w47.heap.size w133.heap.size i ∧ i ≠ k130) i ∨ i = k130) ∨ V.In w139.heap.size w145.heap.size i)), ((fun i => ((fun i => (D1 i ∨ V.In w133.heap.size w139.heap.size i) ∧ i ≠ k136) i ∨ V.In w145.heap.size w151.heap.size i) ∧ i ≠ k148)), ((hpd9.open nn)), ((by have := run_len hr9; have := hpd9.nf; omega)), ((by intro i h; (try dsimp only [V.In] at h ⊢); first | omega | grind)), ((by intro i h; (try dsimp only [V.In] at h ⊢); first | omega | grind)), (⟨by omega, by omega⟩), ((by intro i h hd; (try dsimp only [V.In] at h hd ⊢); first | omega | grind)), F144, F150, rfl, rfl, rfl, rfl, rfl, rfl, (congrArg Value.bool (by first | rfl | simp)), trivial⟩
           ·
            try replace h27 := V.dec h27
            try simp only [V.mk0, V.mk1, V.mk2, V.mk3] at h27
            refine V.seq ?_
            refine V.region ?_
            refine V.run T_ok 2 rfl ?_
            refine V.loadO T_ok Fk41 rfl rfl rfl rfl rfl ?_
            refine V.call (jd_append FJ1 F38 (by first | omega | (simp only [List.length_take, List.length_drop, List.length_append, List.length_cons, List.length_nil, List.length_replicate, List.length_set, V.length_data, V.S_size]; omega))) rfl rfl rfl ?_
            rintro _ w155 ⟨rfl, F154, G156⟩
            have z157 := V.Fr.size G156
            try replace F_xs := F_xs.mb G156 hD_xs
            first | replace FJ1 := FJ1.mv1 G156 (by (try dsimp only [V.In]); first | omega | grind) | clear FJ1 | skip
            first | replace FR1 := FR1.mv1 G156 (by (try dsimp only [V.In]); first | omega | grind) | clear FR1 | skip
            try replace F38 := F38.mb G156 hD_xs
            try replace Fk41 := Fk41.ma G156
            replace HG := HG.n1 G156
            clear G156
            refine V.nil ?_
            refine V.tN ?_
            refine V.region ?_
            refine V.run T_ok 2 rfl ?_
            refine V.loadO T_ok Fk41 rfl rfl rfl rfl rfl ?_
            refine V.call (rj_append FR1 F38 (by first | omega | (simp only [List.length_take, List.length_drop, List.length_append, List.length_cons, List.length_nil, List.length_replicate, List.length_set, V.length_data, V.S_size]; omega))) rfl rfl rfl ?_
            rintro _ w159 ⟨rfl, F158, G160⟩
            have z161 := V.Fr.size G160
            try replace F_xs := F_xs.mb G160 hD_xs
            first | replace FR1 := FR1.mv1 G160 (by (try dsimp only [V.In]); first | omega | grind) | clear FR1 | skip
            try replace F38 := F38.mb G160 hD_xs
            try replace Fk41 := Fk41.ma G160
            first | replace F154 := F154.mv1 G160 (by (try dsimp only [V.In]); first | omega | grind) | clear F154 | skip
            replace HG := HG.n1 G160
            clear G160
            refine V.nil ?_
            refine V.tN ?_
            refine V.seq ?_
            have hpd9 : Pd (dAppend dv x35.2.2.2.1) (300 * i + 300) := hpd.append (by omega)
            obtain ⟨⟨t1, t2, t3⟩, hh9⟩ := hpd9.nc
            rcases hr9 : runV ⟨0, [], [], t1, t2, t3⟩ (scanB (dAppend dv x35.2.2.2.1).nf).1 with ⟨j2, nn⟩
            refine V.region ?_
            refine V.run T_ok 1 rfl ?_
            refine V.call (open_some F154 hh9 hr9 (by have := hpd9.nf; omega)) rfl rfl rfl ?_
            rintro _ w165 ⟨k162, rfl, ⟨h163l, h163u⟩, F164, G166⟩
            have z167 := V.Fr.size G166
            try replace F_xs := F_xs.mb G166 hD_xs
            try replace F38 := F38.mb G166 hD_xs
            try replace Fk41 := Fk41.ma G166
            first | replace F154 := F154.mv1 G166 (by (try dsimp only [V.In]); first | omega | grind) | clear F154 | skip
            first | replace F158 := F158.mv1 G166 (by (try dsimp only [V.In]); first | omega | grind) | clear F158 | skip
            replace HG := HG.n1 G166
            clear G166
            refine V.run T_ok 5 rfl ?_
            refine V.nil ?_
            refine V.tN ?_
            refine V.seq ?_
            refine V.region ?_
            refine V.run T_ok 1 rfl ?_
            refine V.call (ropen_some F158 hh9 hr9 (by have := hpd9.nf; omega)) rfl rfl rfl ?_
            rintro _ w171 ⟨k168, rfl, ⟨h169l, h169u⟩, F170, G172⟩
            have z173 := V.Fr.size G172
            try replace F_xs := F_xs.mb G172 hD_xs
            try replace F38 := F38.mb G172 hD_xs
            try replace Fk41 := Fk41.ma G172
            first | replace F158 := F158.mv1 G172 (by (try dsimp only [V.In]); first | omega | grind) | clear F158 | skip
            first | replace F164 := F164.mv1 G172 (by (try dsimp only [V.In]); first | omega | grind) | clear F164 | skip
            replace HG := HG.n1 G172
            clear G172
            refine V.run T_ok 5 rfl ?_
            refine V.nil ?_
            refine V.tN ?_
            refine V.seq ?_
            refine V.region ?_
            refine V.run T_ok 10 rfl ?_
            refine V.nil ?_
            refine V.tN ?_
            refine V.condN rfl rfl ?_
            refine V.skip ?_
            refine V.bN ?_
            refine V.tN ?_
            exact ⟨HG, (by omega), F_xs, F38, Fk41, (j2), ((openD (dAppend dv x35.2.2.2.1) nn)), (k162), (kd), (k168), (km), ((fun i => ((fun i => (E1 i ∧ i ≠ kd) ∨ V.In w47.heap.size w155.heap.size i) i ∨ i = kd) ∨ V.In w159.heap.size w165.heap.size i)), ((fun i => ((fun i => D1 i ∨ V.In w155.heap.size w159.heap.size i) i ∨ V.In w165.heap.size w171.heap.size i) ∧ i ≠ k168)), ((hpd9.open nn)), ((by have := run_len hr9; have := hpd9.nf; omega)), ((by intro i h; (try dsimp only [V.In] at h ⊢); first | omega | grind)), ((by intro i h; (try dsimp only [V.In] at h ⊢); first | omega | grind)), (⟨by omega, by omega⟩), ((by intro i h hd; (try dsimp only [V.In] at h hd ⊢); first | omega | grind)), F164, F170, rfl, rfl, rfl, rfl, rfl, rfl, (congrArg Value.bool (by first | rfl | simp)), trivial⟩
          ·
           try replace h26 := V.dec h26
           try simp only [V.mk0, V.mk1, V.mk2, V.mk3] at h26
           refine V.skip ?_
           refine V.bN ?_
           refine V.tN ?_
           exact ⟨HG, (by omega), F_xs, F38, Fk41, (jv), (dv), (kj), (kd), (kr), (km), (E1), (D1), ((hpd.mono (by omega))), ((by omega)), ((by intro i h; (try dsimp only [V.In] at h ⊢); first | omega | grind)), ((by intro i h; (try dsimp only [V.In] at h ⊢); first | omega | grind)), (⟨by omega, by omega⟩), ((by intro i h hd; (try dsimp only [V.In] at h hd ⊢); first | omega | grind)), FJ1, FR1, rfl, rfl, rfl, rfl, rfl, rfl, (congrArg Value.bool (by first | rfl | simp)), trivial⟩
   clear HG F_xs F38 Fk41 FJ1 FR1
   rintro e v53 ⟨HG, z174, F_xs, F38, Fk41, jv2, dv2, kj2, kd2, kr2, km2, E2, D2, hpd2, hjl2, hE2, hD2, hk2, hED2, FJ1, FR1, hjn52_0, hjn52_3, hjn52_4, hjn52_5, hjn52_7, hjn52_9, hjn52_11, -⟩
   refine V.knownC (t := 0) hjn52_0 ?_
   refine V.knownC (t := 3) hjn52_3 ?_
   refine V.knownC (t := 4) hjn52_4 ?_
   refine V.knownC (t := 5) hjn52_5 ?_
   refine V.knownC (t := 7) hjn52_7 ?_
   refine V.knownC (t := 9) hjn52_9 ?_
   refine V.knownC (t := 11) hjn52_11 ?_
   have hEl2 := FJ1.lt
   have hDl2 := FR1.lt
   have hkrl2 := FR1.klt
   have hkml2 := FR1.dk.klt
   have hkd2 := hE2 _ FJ1.ek.2
   have hkdl2 := hEl2 _ FJ1.ek.2
   have hkx2 := hED2 _ FJ1.ek.2
   refine V.seq ?_
   refine V.region ?_
   refine V.run T_ok 2 rfl ?_
   refine V.call (alike7_j FJ1 FR1) rfl rfl rfl ?_
   rintro _ w175 ⟨rfl, G176⟩
   have z177 := V.Fr.size G176
   try replace F_xs := F_xs.gr G176
   try replace FJ1 := FJ1.gr G176
   try replace FR1 := FR1.gr G176
   try replace F38 := F38.gr G176
   try replace Fk41 := Fk41.gr G176
   replace HG := HG.grow G176
   clear G176
   refine V.run T_ok 1 rfl ?_
   refine V.nil ?_
   refine V.tN ?_
   refine V.seq ?_
   obtain ⟨aq1780, cq1780, aq1781, cq1781, aq1782, cq1782, aq1783, cq1783, Fm179, Fq1780, Fq1781, Fq1782, Fq1783⟩ := FR1.dk.open
   refine V.drawGT 26 (V.sel [(8, (fun v wz => ∃ (ra54 : Option Addr) (rc54 : Nat), v = .slice ra54 dv2.nf.length rc54 ∧ V.Row V.Cod.byte 5 wz V.None' w175.heap.size wz.heap.size ra54 rc54 dv2.nf)), (19, (fun v wz => ∃ (ra55 : Option Addr) (rc55 : Nat), v = .slice ra55 dv2.nc.length rc55 ∧ V.Row V.Cod.byte 5 wz V.None' w175.heap.size wz.heap.size ra55 rc55 dv2.nc))]) mixed (by kernel_rfl) (V.mono_cons (by rintro v wz wz' g ⟨ra54, rc54, rfl, rF54⟩; exact ⟨ra54, rc54, rfl, (by first | exact (rF54.gr g).mono (V.In.sub (Nat.le_refl _) g.size) | exact rF54.gr g | exact (rF54.gr g).mono (fun _ h => h) (Nat.le_refl _) g.size | exact (rF54.gr g).mono (fun k h => ⟨h.1, Nat.lt_of_lt_of_le h.2 g.size⟩))⟩) (V.mono_cons (by rintro v wz wz' g ⟨ra55, rc55, rfl, rF55⟩; exact ⟨ra55, rc55, rfl, (by first | exact (rF55.gr g).mono (V.In.sub (Nat.le_refl _) g.size) | exact rF55.gr g | exact (rF55.gr g).mono (fun _ h => h) (Nat.le_refl _) g.size | exact (rF55.gr g).mono (fun k h => ⟨h.1, Nat.lt_of_lt_of_le h.2 g.size⟩))⟩) V.mono_nil)) ?_
   refine V.grun T_ok 8 rfl (V.sel_none rfl) ?_
   refine V.gyes rfl rfl rfl ?_
   refine V.gcall (fun w' h => (jd_file (FJ1.gr h.1)).mono (by rintro v w'' ⟨ra54, rc54, rfl, rF54, G⟩; exact ⟨⟨ra54, rc54, rfl, (by first | exact rF54.mono (V.In.mono_l h.1.size) | exact rF54 | exact rF54.mono (fun _ h => h) h.1.size (Nat.le_refl _))⟩, G⟩)) rfl rfl rfl rfl ?_
   rintro _ w183 - - ⟨a180, c181, rfl, -⟩
   refine V.gyes rfl rfl rfl ?_
   refine V.gtoStr (fun w' h => by obtain ⟨_, _, he, F0⟩ := (V.Hist.here (h.get (i := 8) rfl)); cases he; exact F0.sl.mono (fun _ _ => trivial)) Try.underlying22 Try.underlying5 Try.underlying9 rfl rfl rfl rfl rfl ?_
   refine V.grun T_ok 3 rfl (V.sel_none rfl) ?_
   refine V.gyes rfl rfl rfl ?_
   refine V.gloadO T_ok (fun w' h => Fm179.gr h.1) rfl rfl rfl rfl rfl rfl ?_
   refine V.gyes rfl rfl rfl ?_
   refine V.gtoStr (fun w' h => Fq1781.gr h.1) Try.underlying22 Try.underlying5 Try.underlying9 rfl rfl rfl rfl rfl ?_
   refine V.grun T_ok 3 rfl (V.sel_none rfl) ?_
   refine V.gsplitF (j := 17) (t := 186) rfl rfl (by simp) ?_
   refine V.grun T_ok 1 rfl (V.sel_none rfl) ?_
   refine V.gyes rfl rfl rfl ?_
   refine V.gcall (fun w' h => (jd_cell (FJ1.gr h.1)).mono (by rintro v w'' ⟨ra55, rc55, rfl, rF55, G⟩; exact ⟨⟨ra55, rc55, rfl, (by first | exact rF55.mono (V.In.mono_l h.1.size) | exact rF55 | exact rF55.mono (fun _ h => h) h.1.size (Nat.le_refl _))⟩, G⟩)) rfl rfl rfl rfl ?_
   rintro _ w187 - - ⟨a184, c185, rfl, -⟩
   refine V.gyes rfl rfl rfl ?_
   refine V.gtoStr (fun w' h => by obtain ⟨_, _, he, F0⟩ := (V.Hist.here (h.get (i := 19) rfl)); cases he; exact F0.sl.mono (fun _ _ => trivial)) Try.underlying22 Try.underlying5 Try.underlying9 rfl rfl rfl rfl rfl ?_
   refine V.grun T_ok 3 rfl (V.sel_none rfl) ?_
   refine V.gyes rfl rfl rfl ?_
   refine V.gloadO T_ok (fun w' h => Fm179.gr h.1) rfl rfl rfl rfl rfl rfl ?_
   refine V.gyes rfl rfl rfl ?_
   refine V.gtoStr (fun w' h => Fq1783.gr h.1) Try.underlying22 Try.underlying5 Try.underlying9 rfl rfl rfl rfl rfl ?_
   refine V.gnil ?_
   rintro w188 G189 hH190
   have z191 := V.Fr.size G189
   try replace F_xs := F_xs.gr G189
   try replace FJ1 := FJ1.gr G189
   try replace FR1 := FR1.gr G189
   try replace F38 := F38.gr G189
   try replace Fk41 := Fk41.gr G189
   try replace Fq1780 := Fq1780.gr G189
   try replace Fq1781 := Fq1781.gr G189
   try replace Fq1782 := Fq1782.gr G189
   try replace Fq1783 := Fq1783.gr G189
   try replace Fm179 := Fm179.gr G189
   replace HG := HG.grow G189
   clear G189
   have F182 : V.Row V.Cod.byte 5 w188 V.None' w175.heap.size w188.heap.size a180 c181 dv2.nf := by
     obtain ⟨_, _, he, F0⟩ := (V.Hist.here (V.Hist.old (hH190 8)))
     cases he
     exact F0
   have F186 : V.Row V.Cod.byte 5 w188 V.None' w175.heap.size w188.heap.size a184 c185 dv2.nc := by
     obtain ⟨_, _, he, F0⟩ := (V.Hist.here (hH190 19))
     cases he
     exact F0
   clear hH190
   refine V.run T_ok 2 rfl ?_
   refine V.nil ?_
   refine V.tN ?_
   refine V.condN rfl (by simp) ?_
   refine V.skip ?_
   refine V.bN ?_
   refine V.tN ?_
   refine V.region ?_
   refine V.run T_ok 1 rfl ?_
   refine V.addN rfl rfl rfl rfl rfl (by first | omega | (simp only [List.length_take, List.length_drop, List.length_append, List.length_cons, List.length_nil, List.length_replicate, List.length_set, V.length_data, V.S_size]; omega)) (by first | omega | (simp only [List.length_take, List.length_drop, List.length_append, List.length_cons, List.length_nil, List.length_replicate, List.length_set, V.length_data, V.S_size]; omega)) ?_
   refine V.run T_ok 1 rfl ?_
   refine V.nil ?_
   refine V.tN ?_
   exact ⟨_, (by omega), HG, (by omega), F_xs, (i + 1), (jv2), (dv2), (kj2), (kd2), (kr2), (km2), (E2), (D2), rfl, (by omega), (by omega), ((hpd2.mono (by omega))), (by omega), (hE2), (hD2), (hk2), (hED2), FJ1, FR1, rfl, rfl, rfl, rfl, rfl, rfl⟩
 ·
  try replace h8 := V.dec h8
  try simp only [V.mk0, V.mk1, V.mk2, V.mk3] at h8
  refine V.exit ?_
  refine V.tX ?_
  refine V.tX ?_
  refine V.bE ?_
  refine V.tN ?_
  refine V.seq ?_
  refine V.region ?_
  refine V.call (alive_spec) rfl rfl rfl ?_
  rintro _ w192 ⟨rfl, G193⟩
  have z194 := V.Fr.size G193
  try replace F_xs := F_xs.gr G193
  try replace FJ1 := FJ1.gr G193
  try replace FR1 := FR1.gr G193
  replace HG := HG.grow G193
  clear G193
  refine V.run T_ok 1 rfl ?_
  refine V.nil ?_
  refine V.tN ?_
  refine V.ret ?_
  refine V.done rfl ?_
  exact ⟨(by first | rfl | simp only [List.length_set]), HG⟩

end Go.Proofs.Ytnbijpijbhkcpaa
