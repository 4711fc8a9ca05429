/- Proved here: walks: what functions of this seat's program return and what they leave of memory, each as a contract. Conditions: stated at each theorem. -/
import Derived.Test.YtnbijpijbhkcpaaMjth
namespace Go.Proofs.Ytnbijpijbhkcpaa
set_option linter.unusedVariables false
set_option linter.unusedSimpArgs false
open Go
open V (Bytes Meets Env Sl Own Gr Fr Cells S)
theorem open_sy {w : World} {kd : Nat} {D : Nat → Prop} {dv : DiskV} (FD : Dk w kd D dv)  {j2 : JV} {lf : List (List UInt8)} (hy : Sy j2 dv lf) (hnf : dv.nf.length ≤ 4000000) :
    Meets Try.prog 15 [.pointer (some ⟨kd, 0, none⟩)] w fun r w' => ∃ (rk1 : Nat), r = .tuple #[.pointer (some ⟨rk1, 0, none⟩), .int .i64 0] ∧ (w.heap.size ≤ rk1 ∧ rk1 < w'.heap.size) ∧ Jst w' rk1 kd (fun i => (D i ∨ i = kd) ∨ V.In w.heap.size w'.heap.size i) j2 dv ∧ Fr [kd] w w' := by
  exact (open_some FD hy.hc hy.opn hnf).mono (by rintro _ w2 ⟨k2, rfl, h1, h2, g⟩; rw [openD_same] at h2; exact ⟨k2, rfl, h1, h2, g⟩)

theorem open_again {w : World} {k kd : Nat} {EJ : Nat → Prop} {jv : JV} {dv : DiskV} (FJ : Jst w k kd EJ jv dv)  {lf : List (List UInt8)} (hy : Sy jv dv lf) (hnf : dv.nf.length ≤ 4000000) :
    Meets Try.prog 15 [.pointer (some ⟨kd, 0, none⟩)] w fun r w' => ∃ (rk1 : Nat), r = .tuple #[.pointer (some ⟨rk1, 0, none⟩), .int .i64 0] ∧ (w.heap.size ≤ rk1 ∧ rk1 < w'.heap.size) ∧ Jn w' rk1 kd (V.In w.heap.size w'.heap.size) jv ∧ Gr w w' := by
  exact open_keep FJ.dk hy.hc hy.opn hnf rfl

theorem eqG47 : Try.prog.eqGuardType Try.prog.depth 47 = false := by kernel_rfl
theorem eqD47 (d : Nat) (w : World) {x0 y0 : Int} {x1 y1 : Int} {x2 y2 : Int} : (Op.equalIn (d + 2) 47 (.agg #[.int .i64 x0, .int .i64 x1, .int .i64 x2]) (.agg #[.int .i64 y0, .int .i64 y1, .int .i64 y2])).run Try.prog w = .ok ((decide (x0 = y0)) && ((decide (x1 = y1)) && ((decide (x2 = y2)) && (true)))) w :=
  V.eqIn_struct _ Try.underlying47 (by kernel_rfl) (V.eqF_cons (agg := false) (by decide) sz3 (by kernel_rfl) (by kernel_rfl) rfl rfl (V.eqIn_int _ Try.underlying3) (V.eqF_cons (agg := false) (by decide) sz3 (by kernel_rfl) (by kernel_rfl) rfl rfl (V.eqIn_int _ Try.underlying3) (V.eqF_cons (agg := false) (by decide) sz3 (by kernel_rfl) (by kernel_rfl) rfl rfl (V.eqIn_int _ Try.underlying3) V.eqF_nil)))
theorem eqS47 (w : World) {x0 y0 : Int} {x1 y1 : Int} {x2 y2 : Int} : (Op.equalIn 10000 47 (.agg #[.int .i64 x0, .int .i64 x1, .int .i64 x2]) (.agg #[.int .i64 y0, .int .i64 y1, .int .i64 y2])).run Try.prog w = .ok ((decide (x0 = y0)) && ((decide (x1 = y1)) && ((decide (x2 = y2)) && (true)))) w := eqD47 9998 w


structure AliveS (d1 d2 d3 d4 : DiskV) : Prop where
  a1 : appJ ⟨0, [], [], 0, 0, 0⟩ ⟨[], [], [], []⟩ ([111, 110, 101] : List UInt8) = ⟨0, [], [([111, 110, 101] : List UInt8)], 0, 0, 0⟩ ∧ appD ⟨[], [], [], []⟩ ([111, 110, 101] : List UInt8) = d1 ∧ appE ⟨0, [], [], 0, 0, 0⟩ ⟨[], [], [], []⟩ ([111, 110, 101] : List UInt8) = 0
  a2 : appJ ⟨0, [], [([111, 110, 101] : List UInt8)], 0, 0, 0⟩ d1 ([116, 119, 111] : List UInt8) = ⟨0, [], [([111, 110, 101] : List UInt8), ([116, 119, 111] : List UInt8)], 0, 0, 0⟩ ∧ appD d1 ([116, 119, 111] : List UInt8) = d2 ∧ appE ⟨0, [], [([111, 110, 101] : List UInt8)], 0, 0, 0⟩ d1 ([116, 119, 111] : List UInt8) = 0
  a3 : rebJ ⟨0, [], [([111, 110, 101] : List UInt8), ([116, 119, 111] : List UInt8)], 0, 0, 0⟩ d2 1 ([98, 97, 115, 101] : List UInt8) = ⟨1, ([98, 97, 115, 101] : List UInt8), [([116, 119, 111] : List UInt8)], 0, 0, 0⟩ ∧ rebD d2 1 ([98, 97, 115, 101] : List UInt8) = d3 ∧ rebE ⟨0, [], [([111, 110, 101] : List UInt8), ([116, 119, 111] : List UInt8)], 0, 0, 0⟩ d2 1 ([98, 97, 115, 101] : List UInt8) = 0
  a4 : setJ ⟨1, ([98, 97, 115, 101] : List UInt8), [([116, 119, 111] : List UInt8)], 0, 0, 0⟩ 3 2 1 = ⟨1, ([98, 97, 115, 101] : List UInt8), [([116, 119, 111] : List UInt8)], 3, 2, 1⟩ ∧ setD d3 3 2 1 = d4 ∧ setE 3 2 1 = 0
  sy : ∃ l, Sy ⟨1, ([98, 97, 115, 101] : List UInt8), [([116, 119, 111] : List UInt8)], 3, 2, 1⟩ (dCrash (dSync d4) 0 false false) l
  nf : (dCrash (dSync d4) 0 false false).nf.length ≤ 4000000
theorem aliveS : ∃ d1 d2 d3 d4, AliveS d1 d2 d3 d4 := by
  have h0 := Sy.new
  obtain ⟨⟨a1, a2, a3⟩, h1⟩ := h0.app (b := ([111, 110, 101] : List UInt8)) (by decide) (by decide)
  have n1 : ([] ++ frm (chA ([111, 110, 101] : List UInt8)) : List UInt8).length ≤ 100 := by have := chA_len (b := ([111, 110, 101] : List UInt8)) (by decide); rw [List.nil_append, frm_len]; simp only [List.length_cons, List.length_nil] at this; omega
  generalize ([] ++ frm (chA ([111, 110, 101] : List UInt8)) : List UInt8) = f1 at *
  obtain ⟨⟨b1, b2, b3⟩, h2⟩ := h1.app (b := ([116, 119, 111] : List UInt8)) (by decide) (by dsimp only; simp only [List.length_cons, List.length_nil]; omega)
  have n2 : (f1 ++ frm (chA ([116, 119, 111] : List UInt8)) : List UInt8).length ≤ 200 := by have := chA_len (b := ([116, 119, 111] : List UInt8)) (by decide); rw [List.length_append, frm_len]; simp only [List.length_cons, List.length_nil] at this; omega
  dsimp only at *
  generalize (f1 ++ frm (chA ([116, 119, 111] : List UInt8)) : List UInt8) = f2 at *
  obtain ⟨⟨c1, c2, c3⟩, h3⟩ := h2.rebY (n := 1) (b := ([98, 97, 115, 101] : List UInt8)) (by decide) (by dsimp only; simp only [List.length_cons, List.length_nil]; omega)
  have n3 : (f2 ++ frm (chR 1 ([98, 97, 115, 101] : List UInt8)) : List UInt8).length ≤ 300 := by have := chR_len (n := 1) (b := ([98, 97, 115, 101] : List UInt8)) (by decide); rw [List.length_append, frm_len]; simp only [List.length_cons, List.length_nil] at this; omega
  dsimp only at *
  generalize (f2 ++ frm (chR 1 ([98, 97, 115, 101] : List UInt8)) : List UInt8) = f3 at *
  have hb : ¬ setBad 3 2 1 := by decide
  have h4 := h3.set 3 2 1
  have e4 : setD { sf := [], sc := [], nf := f3, nc := [] } 3 2 1 = { sf := [], sc := [], nf := f3, nc := (frmB (nums3 3 2 1)).1 } := by unfold setD; rw [if_neg hb]
  have e5 : setE 3 2 1 = 0 := by unfold setE; rw [if_neg hb]
  rw [e4] at h4
  have h5 := h4.crash0
  have hl : (dCrash (dSync { sf := [], sc := [], nf := f3, nc := (frmB (nums3 3 2 1)).1 }) 0 false false).nf = f3 := dLeft_sf (d := dSync { sf := [], sc := [], nf := f3, nc := (frmB (nums3 3 2 1)).1 }) (keep := 0) (torn := false) ⟨by decide, .inl (comm_self _).symm⟩
  exact ⟨_, _, _, _, ⟨⟨a1, a3, a2⟩, ⟨b1, b3, b2⟩, ⟨c1, c3, c2⟩, ⟨rfl, e4, e5⟩, ⟨_, h5⟩, by rw [hl]; omega⟩⟩

set_option maxHeartbeats 900000 in
set_option maxRecDepth 10000 in
theorem alive_spec {w : World}    :
    Meets Try.prog 9 [] w fun r w' => r = .bool true ∧ Gr w w' := by
 obtain ⟨d1, d2, d3, d4, HA⟩ := aliveS
 obtain ⟨l5, hsy5⟩ := HA.sy
 have hn5 := HA.nf
 have hsy0 := Sy.new
 have HG := V.Fr.refl [] w
 refine V.enter (n := 92) Try.func9 rfl rfl (by decide) rfl ?_
 refine V.seq ?_
 refine V.region ?_
 refine V.run T_ok 1 rfl ?_
 refine V.nil ?_
 refine V.tN ?_
 refine V.seq ?_
 refine V.region ?_
 refine V.call (dk_new) rfl rfl rfl ?_
 rintro _ w4 ⟨k1, rfl, ⟨h2l, h2u⟩, F3, G5⟩
 have z6 := V.Fr.size G5
 replace HG := HG.grow G5
 clear G5
 refine V.run T_ok 1 rfl ?_
 refine V.nil ?_
 refine V.tN ?_
 refine V.seq ?_
 refine V.region ?_
 refine V.run T_ok 1 rfl ?_
 refine V.call (open_sy F3 hsy0 (Nat.zero_le _)) rfl rfl rfl ?_
 rintro _ w10 ⟨k7, rfl, ⟨h8l, h8u⟩, F9, G11⟩
 have z12 := V.Fr.size G11
 first | replace F3 := F3.mv1 G11 (by (try dsimp only [V.In]); first | omega | grind) | clear F3 | skip
 replace HG := HG.n1 G11
 clear G11
 refine V.run T_ok 5 rfl ?_
 refine V.nil ?_
 refine V.tN ?_
 refine V.seq ?_
 refine V.seq ?_
 refine V.region ?_
 refine V.run T_ok 6 rfl ?_
 refine V.nil ?_
 refine V.tN ?_
 refine V.condN rfl rfl ?_
 refine V.skip ?_
 refine V.tN ?_
 refine V.seq ?_
 refine V.region ?_
 refine V.run T_ok 1 rfl ?_
 refine V.mkMark (xs := ([111, 110, 101] : List UInt8)) T_ok zero5 rfl rfl sz5 rfl rfl rfl rfl rfl rfl Try.underlying5 rfl rfl rfl rfl rfl rfl ?_
 rintro k13 w16 s18 s19 G17 F15
 have z20 := V.Fr.size G17
 try replace F9 := F9.gr G17
 replace HG := HG.grow G17
 clear G17
 refine V.call (jappend_spec F9 F15 (fun k hk => by have := hk.2; omega) (by first | assumption | omega | decide)) rfl rfl rfl ?_
 rintro _ w22 ⟨rfl, F21, G23⟩
 have z24 := V.FrE.size G23
 first | replace F9 := F9.mvE G23 (by intro j h hd; (try dsimp only [V.In] at h hd ⊢); first | omega | grind) | clear F9 | skip
 first | replace F15 := F15.mvE G23 (by intro j h hd; (try dsimp only [V.In] at h hd ⊢); first | omega | grind) | clear F15 | skip
 replace HG := HG.stepE G23 (by intro i h; (try dsimp only [V.In] at h ⊢); first | omega | grind)
 clear G23
 refine V.nil ?_
 refine V.tN ?_
 refine V.seq ?_
 rw [HA.a1.1, HA.a1.2.1] at F21
 refine V.region ?_
 refine V.run T_ok 1 rfl ?_
 refine V.mkMark (xs := ([116, 119, 111] : List UInt8)) T_ok zero5 rfl rfl sz5 rfl rfl rfl rfl rfl rfl Try.underlying5 rfl rfl rfl rfl rfl rfl ?_
 rintro k25 w28 s30 s31 G29 F27
 have z32 := V.Fr.size G29
 try replace F15 := F15.gr G29
 try replace F21 := F21.gr G29
 replace HG := HG.grow G29
 clear G29
 refine V.call (jappend_spec F21 F27 (fun k hk => by have := hk.2; omega) (by first | assumption | omega | decide)) rfl rfl rfl ?_
 rintro _ w34 ⟨rfl, F33, G35⟩
 have z36 := V.FrE.size G35
 first | replace F15 := F15.mvE G35 (by intro j h hd; (try dsimp only [V.In] at h hd ⊢); first | omega | grind) | clear F15 | skip
 first | replace F21 := F21.mvE G35 (by intro j h hd; (try dsimp only [V.In] at h hd ⊢); first | omega | grind) | clear F21 | skip
 first | replace F27 := F27.mvE G35 (by intro j h hd; (try dsimp only [V.In] at h hd ⊢); first | omega | grind) | clear F27 | skip
 replace HG := HG.stepE G35 (by intro i h; (try dsimp only [V.In] at h ⊢); first | omega | grind)
 clear G35
 refine V.nil ?_
 refine V.tN ?_
 refine V.seq ?_
 rw [HA.a2.1, HA.a2.2.1] at F33
 refine V.region ?_
 refine V.run T_ok 1 rfl ?_
 refine V.mkMark (xs := ([98, 97, 115, 101] : List UInt8)) T_ok zero5 rfl rfl sz5 rfl rfl rfl rfl rfl rfl Try.underlying5 rfl rfl rfl rfl rfl rfl ?_
 rintro k37 w40 s42 s43 G41 F39
 have z44 := V.Fr.size G41
 try replace F15 := F15.gr G41
 try replace F27 := F27.gr G41
 try replace F33 := F33.gr G41
 replace HG := HG.grow G41
 clear G41
 refine V.call (jreb_spec (n := 1) F33 F39 (fun k hk => by have := hk.2; omega) (by first | assumption | omega | decide)) rfl rfl rfl ?_
 rintro _ w46 ⟨rfl, F45, G47⟩
 have z48 := V.FrE.size G47
 first | replace F15 := F15.mvE G47 (by intro j h hd; (try dsimp only [V.In] at h hd ⊢); first | omega | grind) | clear F15 | skip
 first | replace F27 := F27.mvE G47 (by intro j h hd; (try dsimp only [V.In] at h hd ⊢); first | omega | grind) | clear F27 | skip
 first | replace F33 := F33.mvE G47 (by intro j h hd; (try dsimp only [V.In] at h hd ⊢); first | omega | grind) | clear F33 | skip
 first | replace F39 := F39.mvE G47 (by intro j h hd; (try dsimp only [V.In] at h hd ⊢); first | omega | grind) | clear F39 | skip
 replace HG := HG.stepE G47 (by intro i h; (try dsimp only [V.In] at h ⊢); first | omega | grind)
 clear G47
 refine V.nil ?_
 refine V.tN ?_
 refine V.seq ?_
 rw [HA.a3.1, HA.a3.2.1] at F45
 refine V.region ?_
 refine V.run T_ok 1 rfl ?_
 refine V.mkStruct T_ok zero47 rfl rfl rfl rfl rfl ?_
 refine V.call (jset_spec (n1 := 3) (n2 := 2) (n3 := 1) F45) rfl rfl rfl ?_
 rintro _ w50 ⟨rfl, F49, G51⟩
 have z52 := V.FrE.size G51
 first | replace F15 := F15.mvE G51 (by intro j h hd; (try dsimp only [V.In] at h hd ⊢); first | omega | grind) | clear F15 | skip
 first | replace F27 := F27.mvE G51 (by intro j h hd; (try dsimp only [V.In] at h hd ⊢); first | omega | grind) | clear F27 | skip
 first | replace F39 := F39.mvE G51 (by intro j h hd; (try dsimp only [V.In] at h hd ⊢); first | omega | grind) | clear F39 | skip
 first | replace F45 := F45.mvE G51 (by intro j h hd; (try dsimp only [V.In] at h hd ⊢); first | omega | grind) | clear F45 | skip
 replace HG := HG.stepE G51 (by intro i h; (try dsimp only [V.In] at h ⊢); first | omega | grind)
 clear G51
 refine V.run T_ok 1 rfl ?_
 refine V.nil ?_
 refine V.tN ?_
 refine V.seq ?_
 rw [HA.a4.1, HA.a4.2.1] at F49
 rw [HA.a4.2.2]
 refine V.region ?_
 refine V.run T_ok 1 rfl ?_
 refine V.call (jsync_spec F49) rfl rfl rfl ?_
 rintro _ w54 ⟨rfl, F53, G55⟩
 have z56 := V.FrE.size G55
 first | replace F15 := F15.mvE G55 (by intro j h hd; (try dsimp only [V.In] at h hd ⊢); first | omega | grind) | clear F15 | skip
 first | replace F27 := F27.mvE G55 (by intro j h hd; (try dsimp only [V.In] at h hd ⊢); first | omega | grind) | clear F27 | skip
 first | replace F39 := F39.mvE G55 (by intro j h hd; (try dsimp only [V.In] at h hd ⊢); first | omega | grind) | clear F39 | skip
 first | replace F49 := F49.mvE G55 (by intro j h hd; (try dsimp only [V.In] at h hd ⊢); first | omega | grind) | clear F49 | skip
 replace HG := HG.stepE G55 (by intro i h; (try dsimp only [V.In] at h ⊢); first | omega | grind)
 clear G55
 refine V.nil ?_
 refine V.tN ?_
 refine V.seq ?_
 refine V.region ?_
 refine V.run T_ok 1 rfl ?_
 refine V.call (jd_crash (keep := 0) (torn := false) (cell := false) F53) rfl rfl rfl ?_
 rintro _ w60 ⟨k57, rfl, ⟨h58l, h58u⟩, F59, G61⟩
 have z62 := V.Fr.size G61
 try replace F15 := F15.gr G61
 try replace F27 := F27.gr G61
 try replace F39 := F39.gr G61
 try replace F53 := F53.gr G61
 replace HG := HG.grow G61
 clear G61
 refine V.call (open_sy F59 hsy5 hn5) rfl rfl rfl ?_
 rintro _ w66 ⟨k63, rfl, ⟨h64l, h64u⟩, F65, G67⟩
 have z68 := V.Fr.size G67
 try replace F15 := F15.ma G67
 try replace F27 := F27.ma G67
 try replace F39 := F39.ma G67
 first | replace F53 := F53.mv1 G67 (by (try dsimp only [V.In]); first | omega | grind) | clear F53 | skip
 first | replace F59 := F59.mv1 G67 (by (try dsimp only [V.In]); first | omega | grind) | clear F59 | skip
 replace HG := HG.n1 G67
 clear G67
 refine V.run T_ok 5 rfl ?_
 refine V.nil ?_
 refine V.tN ?_
 refine V.seq ?_
 refine V.seq ?_
 refine V.region ?_
 refine V.run T_ok 10 rfl ?_
 refine V.nil ?_
 refine V.tN ?_
 refine V.condN rfl rfl ?_
 refine V.skip ?_
 refine V.tN ?_
 refine V.seq ?_
 refine V.region ?_
 refine V.run T_ok 1 rfl ?_
 refine V.call (jrec_spec_j F65) rfl rfl rfl ?_
 rintro _ w72 ⟨a69, c70, rfl, F71, G73⟩
 have z74 := V.Fr.size G73
 try replace F15 := F15.gr G73
 try replace F27 := F27.gr G73
 try replace F39 := F39.gr G73
 try replace F53 := F53.gr G73
 try replace F65 := F65.gr G73
 replace HG := HG.grow G73
 clear G73
 refine V.run T_ok 1 rfl ?_
 refine V.nil ?_
 refine V.tN ?_
 refine V.seq ?_
 refine V.region ?_
 refine V.run T_ok 1 rfl ?_
 refine V.call (jbase_spec_j F65) rfl rfl rfl ?_
 rintro _ w78 ⟨a75, c76, rfl, F77, G79⟩
 have z80 := V.Fr.size G79
 try replace F15 := F15.gr G79
 try replace F27 := F27.gr G79
 try replace F39 := F39.gr G79
 try replace F53 := F53.gr G79
 try replace F65 := F65.gr G79
 try replace F71 := F71.gr G79
 replace HG := HG.grow G79
 clear G79
 refine V.run T_ok 5 rfl ?_
 refine V.nil ?_
 refine V.tN ?_
 refine V.seq ?_
 refine V.region ?_
 refine V.run T_ok 4 rfl ?_
 refine V.splitT (j := 3) (t := 65) rfl rfl (by subst_vars; first | rfl | decide) ?_
 refine V.run T_ok 1 rfl ?_
 refine V.yes rfl rfl rfl ?_
 refine V.elem T_ok F71.sl rfl rfl sz22 rfl rfl rfl rfl (by first | omega | (simp only [List.length_take, List.length_drop, List.length_append, List.length_cons, List.length_nil, List.length_replicate, List.length_set, V.length_data, V.S_size]; omega)) (by first | omega | (simp only [List.length_take, List.length_drop, List.length_append, List.length_cons, List.length_nil, List.length_replicate, List.length_set, V.length_data, V.S_size]; omega)) ?_
 rintro b81 o82 cs83 hx84 hb85 hR91 hA86
 obtain ⟨x87, hx87⟩ : ∃ z', ([([116, 119, 111] : List UInt8)])[(0 : Int).toNat] = z' := ⟨_, rfl⟩
 rw [hx87] at hR91
 obtain ⟨a88, c89, rfl, F90⟩ := hR91
 try simp only [Int.toNat_natCast] at hx87 hx84
 refine V.yes rfl rfl rfl ?_
 refine V.loadA T_ok (o0 := o82) (off := 0) hA86 rfl rfl rfl rfl rfl ?_
 refine V.yes rfl rfl rfl ?_
 refine V.toStr F90 Try.underlying22 Try.underlying5 Try.underlying9 rfl rfl rfl rfl ?_
 refine V.run T_ok 3 rfl ?_
 refine V.splitT (j := 10) (t := 72) rfl rfl (by subst_vars; first | rfl | decide) ?_
 refine V.run T_ok 4 rfl ?_
 refine V.splitT (j := 14) (t := 76) rfl rfl (by subst_vars; first | rfl | decide) ?_
 refine V.run T_ok 1 rfl ?_
 refine V.yes rfl rfl rfl ?_
 refine V.toStr F77.sl Try.underlying22 Try.underlying5 Try.underlying9 rfl rfl rfl rfl ?_
 refine V.run T_ok 3 rfl ?_
 refine V.splitT (j := 19) (t := 81) rfl rfl (by subst_vars; first | rfl | decide) ?_
 refine V.run T_ok 1 rfl ?_
 refine V.yes rfl rfl rfl ?_
 refine V.call (jlast_j F65) rfl rfl rfl ?_
 rintro _ w92 ⟨rfl, G93⟩
 have z94 := V.Fr.size G93
 try replace F15 := F15.gr G93
 try replace F27 := F27.gr G93
 try replace F39 := F39.gr G93
 try replace F53 := F53.gr G93
 try replace F65 := F65.gr G93
 try replace F71 := F71.gr G93
 try replace F77 := F77.gr G93
 try replace F90 := F90.gr G93
 replace HG := HG.grow G93
 clear G93
 refine V.run T_ok 3 rfl ?_
 refine V.splitT (j := 24) (t := 86) rfl rfl (by subst_vars; first | rfl | decide) ?_
 refine V.run T_ok 1 rfl ?_
 refine V.yes rfl rfl rfl ?_
 refine V.call (jhard_spec_j F65) rfl rfl rfl ?_
 rintro _ w95 ⟨rfl, G96⟩
 have z97 := V.Fr.size G96
 try replace F15 := F15.gr G96
 try replace F27 := F27.gr G96
 try replace F39 := F39.gr G96
 try replace F53 := F53.gr G96
 try replace F65 := F65.gr G96
 try replace F71 := F71.gr G96
 try replace F77 := F77.gr G96
 try replace F90 := F90.gr G96
 replace HG := HG.grow G96
 clear G96
 refine V.yes rfl rfl rfl ?_
 refine V.mkStruct T_ok zero47 rfl rfl rfl rfl rfl ?_
 refine V.yes rfl rfl rfl ?_
 refine V.step rfl rfl (V.eqA_run rfl rfl rfl eqG47 (eqS47 _)) ?_
 refine V.run T_ok 2 rfl ?_
 refine V.nil ?_
 refine V.tN ?_
 refine V.ret ?_
 refine V.done rfl ?_
 exact ⟨by rfl, HG⟩

set_option maxHeartbeats 900000 in
set_option maxRecDepth 10000 in
theorem journalNil_walk {w : World}  {kind : Int} {n : Int} {m : Int} {D_x : Nat → Prop} {c_x : Nat} {a_x : Option Addr} {x : List UInt8} (F_x : Sl V.Cod.byte w D_x a_x c_x x) (hD_x : ∀ k, D_x k → k < w.heap.size) {torn : Bool} {cell : Bool}  :
    Meets Try.prog 6 [.agg #[.int .i64 kind, .int .i64 n, .int .i64 m, .slice a_x x.length c_x, .bool torn, .bool cell]] w fun r w' => r = .bool true ∧ Gr w w' := by
 have HG := V.Fr.refl [] w
 refine V.enter (n := 91) Try.func6 rfl rfl (by decide) rfl ?_
 refine V.seq ?_
 refine V.region ?_
 refine V.box rfl rfl rfl rfl ?_
 rintro k1 w3 s5 s6 G4 Fk2
 have z7 := V.Fr.size G4
 try replace F_x := F_x.gr G4
 replace HG := HG.grow G4
 clear G4
 try simp only [V.cellsL, V.spliceL] at Fk2
 refine V.run T_ok 1 rfl ?_
 refine V.nil ?_
 refine V.tN ?_
 refine V.seq ?_
 refine V.seq ?_
 refine V.region ?_
 refine V.run T_ok 1 rfl ?_
 refine V.loadO T_ok Fk2 rfl rfl rfl rfl rfl ?_
 refine V.run T_ok 2 rfl ?_
 refine V.nil ?_
 refine V.tN ?_
 refine V.condT rfl (fun h1 => ?_) (fun h1 => ?_)
 ·
  try replace h1 := V.dec h1
  try simp only [V.mk0, V.mk1, V.mk2, V.mk3] at h1
  refine V.seq ?_
  refine V.region ?_
  refine V.call (alive_spec) rfl rfl rfl ?_
  rintro _ w8 ⟨rfl, G9⟩
  have z10 := V.Fr.size G9
  try replace F_x := F_x.gr G9
  try replace Fk2 := Fk2.gr G9
  replace HG := HG.grow G9
  clear G9
  refine V.run T_ok 1 rfl ?_
  refine V.nil ?_
  refine V.tN ?_
  refine V.ret ?_
  refine V.tR ?_
  refine V.done rfl ?_
  exact ⟨by rfl, HG⟩
 ·
  try replace h1 := V.dec h1
  try simp only [V.mk0, V.mk1, V.mk2, V.mk3] at h1
  refine V.skip ?_
  refine V.tN ?_
  refine V.seq ?_
  refine V.region ?_
  refine V.run T_ok 1 rfl ?_
  refine V.nil ?_
  refine V.tN ?_
  refine V.seq ?_
  refine V.region ?_
  refine V.call (open_nil) rfl rfl rfl ?_
  rintro _ w11 ⟨rfl, G12⟩
  have z13 := V.Fr.size G12
  try replace F_x := F_x.gr G12
  try replace Fk2 := Fk2.gr G12
  replace HG := HG.grow G12
  clear G12
  refine V.run T_ok 5 rfl ?_
  refine V.nil ?_
  refine V.tN ?_
  refine V.seq ?_
  refine V.region ?_
  refine V.run T_ok 1 rfl ?_
  refine V.call (jbase_nil) rfl rfl rfl ?_
  rintro _ w14 ⟨rfl, G15⟩
  have z16 := V.Fr.size G15
  try replace F_x := F_x.gr G15
  try replace Fk2 := Fk2.gr G15
  replace HG := HG.grow G15
  clear G15
  refine V.run T_ok 5 rfl ?_
  refine V.nil ?_
  refine V.tN ?_
  refine V.seq ?_
  refine V.region ?_
  refine V.call (alive_spec) rfl rfl rfl ?_
  rintro _ w17 ⟨rfl, G18⟩
  have z19 := V.Fr.size G18
  try replace F_x := F_x.gr G18
  try replace Fk2 := Fk2.gr G18
  replace HG := HG.grow G18
  clear G18
  refine V.run T_ok 11 rfl ?_
  refine V.yes rfl rfl rfl ?_
  refine V.loadO T_ok Fk2 rfl rfl rfl rfl rfl ?_
  refine V.yes rfl rfl rfl ?_
  refine V.call (jappend_nil F_x) rfl rfl rfl ?_
  rintro _ w20 ⟨rfl, G21⟩
  have z22 := V.Fr.size G21
  try replace F_x := F_x.gr G21
  try replace Fk2 := Fk2.gr G21
  replace HG := HG.grow G21
  clear G21
  refine V.run T_ok 5 rfl ?_
  refine V.yes rfl rfl rfl ?_
  refine V.loadO T_ok Fk2 rfl rfl rfl rfl rfl ?_
  refine V.yes rfl rfl rfl ?_
  refine V.call (jcut_nil (n := n)) rfl rfl rfl ?_
  rintro _ w23 ⟨rfl, G24⟩
  have z25 := V.Fr.size G24
  try replace F_x := F_x.gr G24
  try replace Fk2 := Fk2.gr G24
  replace HG := HG.grow G24
  clear G24
  refine V.run T_ok 5 rfl ?_
  refine V.yes rfl rfl rfl ?_
  refine V.loadO T_ok Fk2 rfl rfl rfl rfl rfl ?_
  refine V.run T_ok 1 rfl ?_
  refine V.yes rfl rfl rfl ?_
  refine V.loadO T_ok Fk2 rfl rfl rfl rfl rfl ?_
  refine V.yes rfl rfl rfl ?_
  refine V.call (jreb_nil (n := n) F_x) rfl rfl rfl ?_
  rintro _ w26 ⟨rfl, G27⟩
  have z28 := V.Fr.size G27
  try replace F_x := F_x.gr G27
  try replace Fk2 := Fk2.gr G27
  replace HG := HG.grow G27
  clear G27
  refine V.run T_ok 4 rfl ?_
  refine V.yes rfl rfl rfl ?_
  refine V.mkStruct T_ok zero47 rfl rfl rfl rfl rfl ?_
  refine V.yes rfl rfl rfl ?_
  refine V.call (jset_nil (n1 := 0) (n2 := 0) (n3 := 0)) rfl rfl rfl ?_
  rintro _ w29 ⟨rfl, G30⟩
  have z31 := V.Fr.size G30
  try replace F_x := F_x.gr G30
  try replace Fk2 := Fk2.gr G30
  replace HG := HG.grow G30
  clear G30
  refine V.run T_ok 4 rfl ?_
  refine V.yes rfl rfl rfl ?_
  refine V.call (jsync_nil) rfl rfl rfl ?_
  rintro _ w32 ⟨rfl, G33⟩
  have z34 := V.Fr.size G33
  try replace F_x := F_x.gr G33
  try replace Fk2 := Fk2.gr G33
  replace HG := HG.grow G33
  clear G33
  refine V.run T_ok 4 rfl ?_
  refine V.yes rfl rfl rfl ?_
  refine V.call (jrec_nil) rfl rfl rfl ?_
  rintro _ w35 ⟨rfl, G36⟩
  have z37 := V.Fr.size G36
  try replace F_x := F_x.gr G36
  try replace Fk2 := Fk2.gr G36
  replace HG := HG.grow G36
  clear G36
  refine V.run T_ok 14 rfl ?_
  refine V.yes rfl rfl rfl ?_
  refine V.call (jhard_nil) rfl rfl rfl ?_
  rintro _ w38 ⟨rfl, G39⟩
  have z40 := V.Fr.size G39
  try replace F_x := F_x.gr G39
  try replace Fk2 := Fk2.gr G39
  replace HG := HG.grow G39
  clear G39
  refine V.yes rfl rfl rfl ?_
  refine V.mkStruct T_ok zero47 rfl rfl rfl rfl rfl ?_
  refine V.yes rfl rfl rfl ?_
  refine V.step rfl rfl (V.eqA_run rfl rfl rfl eqG47 (eqS47 _)) ?_
  refine V.run T_ok 2 rfl ?_
  refine V.splitT (j := 64) (t := 86) rfl rfl (by first | rfl | decide) ?_
  refine V.run T_ok 1 rfl ?_
  refine V.yes rfl rfl rfl ?_
  refine V.call (jlast_nil) rfl rfl rfl ?_
  rintro _ w41 ⟨rfl, G42⟩
  have z43 := V.Fr.size G42
  try replace F_x := F_x.gr G42
  try replace Fk2 := Fk2.gr G42
  replace HG := HG.grow G42
  clear G42
  refine V.run T_ok 3 rfl ?_
  refine V.nil ?_
  refine V.tN ?_
  refine V.ret ?_
  refine V.done rfl ?_
  exact ⟨by rfl, HG⟩

end Go.Proofs.Ytnbijpijbhkcpaa
