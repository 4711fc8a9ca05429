/- Proved here: walks: what functions of this seat's program return and what they leave of memory, each as a contract. Conditions: stated at each theorem. -/
import Derived.Test.YtaekbikdeeaphaaMent
namespace Go.Proofs.Ytaekbikdeeaphaa
set_option linter.unusedVariables false
set_option linter.unusedSimpArgs false
open Go
open V (Bytes Meets Env Sl Own Gr Fr Cells S)

theorem al1 : appV ⟨3, 1, []⟩ 2 [120] = ⟨3, 1, [(2, [120])]⟩ := by unfold appV; rw [if_pos (by decide)]; rfl
theorem al2 : splV ⟨3, 1, [(2, [120])]⟩ 3 1 [(2, [120]), (4, [])] = ⟨3, 1, [(2, [120]), (4, [])]⟩ := rfl
theorem al3 : splV ⟨3, 1, [(2, [120]), (4, [])]⟩ 5 3 [] = ⟨3, 1, [(2, [120]), (4, [])]⟩ := rfl
theorem same_no {x y : List (Int × List UInt8)} {i : Nat} {p q : Int × List UInt8} (hi : i < x.length) (hj : i < y.length) (hp : x[i] = p) (hq : y[i] = q) (h : ¬ (p.1 = q.1 ∧ p.2 = q.2)) : decide (x = y) = false := by
  refine decide_eq_false fun e => h ?_
  subst e; rw [hp] at hq; subst hq; exact ⟨rfl, rfl⟩
theorem same_all {x y : List (Int × List UInt8)} (hl : x.length = y.length) (h : ∀ j (h1 : j < x.length) (h2 : j < y.length), x[j] = y[j]) : decide (x = y) = true :=
  decide_eq_true (List.ext_getElem hl h)

set_option maxHeartbeats 300000 in
set_option maxRecDepth 10000 in
theorem alive_spec {w : World}    :
    Meets Try.prog 12 [] w fun r w' => r = .bool true ∧ Gr w w' := by
 have HG := V.Fr.refl [] w
 refine V.enter (n := 83) Try.func12 rfl rfl (by decide) rfl ?_
 refine V.seq ?_
 refine V.region ?_
 refine V.run T_ok 1 rfl ?_
 refine V.nil ?_
 refine V.tN ?_
 refine V.seq ?_
 refine V.region ?_
 refine V.call (new_spec (b := 3) (t := 1) (by decide)) rfl rfl rfl ?_
 rintro _ w8 ⟨k1, g2, B3, rfl, ⟨h4l, h4u⟩, F5, h6, h7, G9⟩
 have z10 := V.Fr.size G9
 replace HG := HG.grow G9
 clear G9
 refine V.run T_ok 5 rfl ?_
 refine V.nil ?_
 refine V.tN ?_
 refine V.seq ?_
 refine V.seq ?_
 refine V.region ?_
 refine V.run T_ok 6 rfl ?_
 refine V.nil ?_
 refine V.tN ?_
 refine V.condN rfl rfl ?_
 refine V.skip ?_
 refine V.tN ?_
 refine V.seq ?_
 refine V.region ?_
 refine V.run T_ok 1 rfl ?_
 refine V.mkMark (xs := ([120] : List UInt8)) T_ok zero5 rfl rfl sz5 rfl rfl rfl rfl rfl rfl Try.underlying5 rfl rfl rfl rfl rfl rfl ?_
 rintro k11 w14 s16 s17 G15 F13
 have z18 := V.Fr.size G15
 try replace F5 := F5.gr G15
 replace HG := HG.grow G15
 clear G15
 refine V.mkStruct T_ok zero29 rfl rfl rfl rfl rfl ?_
 refine V.call (append_spec (t := 2) F5 F13 (fun k hk => by have := hk.2; omega) (by first | omega | simp | decide)) rfl rfl rfl ?_
 rintro _ w24 ⟨g19, B20, rfl, F21, h22, h23, G25⟩
 obtain ⟨w26, G27, G28⟩ := V.Fr.two G25
 clear G25
 have z29 := V.Fr.size G27
 first | replace F5 := F5.mv1 G27 (by (try dsimp only [V.In]); first | omega | grind) | clear F5 | skip
 first | replace F13 := F13.ma G27 | clear F13 | skip
 replace HG := HG.n1 G27
 clear G27
 have z30 := V.Fr.size G28
 first | replace F5 := F5.mv1 G28 (by (try dsimp only [V.In]); first | omega | grind) | clear F5 | skip
 first | replace F13 := F13.ma G28 | clear F13 | skip
 replace HG := HG.n1 G28
 clear G28
 refine V.run T_ok 5 rfl ?_
 refine V.nil ?_
 refine V.tN ?_
 refine V.seq ?_
 have hr31 : appV (⟨3, 1, []⟩) 2 ([120] : List UInt8) = ⟨3, 1, [(2, [120])]⟩ := al1
 rw [hr31] at F21
 clear hr31
 refine V.region ?_
 refine V.run T_ok 1 rfl ?_
 refine V.mkMark (xs := ([120] : List UInt8)) T_ok zero5 rfl rfl sz5 rfl rfl rfl rfl rfl rfl Try.underlying5 rfl rfl rfl rfl rfl rfl ?_
 rintro k32 w35 s37 s38 G36 F34
 have z39 := V.Fr.size G36
 try replace F13 := F13.gr G36
 try replace F21 := F21.gr G36
 replace HG := HG.grow G36
 clear G36
 refine V.mkStruct T_ok zero29 rfl rfl rfl rfl rfl ?_
 refine V.mkStruct T_ok zero29 rfl rfl rfl rfl rfl ?_
 refine V.mkSlice T_ok zero29 rfl rfl sz29 rfl rfl rfl rfl rfl rfl ?_
 rintro k40 w43 s45 s46 G44 Fk41
 have z47 := V.Fr.size G44
 try replace F13 := F13.gr G44
 try replace F21 := F21.gr G44
 try replace F34 := F34.gr G44
 replace HG := HG.grow G44
 clear G44
 have F42 : Sl V.Cod.ent w43 (fun k => k = k40 ∨ (V.In w24.heap.size w35.heap.size) k) (some ⟨k40, 0, none⟩) ([(2, ([120] : List UInt8)), (4, [])] : List (Int × List UInt8)).length ([(2, ([120] : List UInt8)), (4, [])] : List (Int × List UInt8)) := V.Cells.sl Fk41 (V.reps_cons (x := (2, ([120] : List UInt8))) ⟨_, _, rfl, rfl, ⟨_, _, rfl, F34.mono (fun k h => .inr (h))⟩⟩ (V.reps_cons (x := (4, [])) ⟨_, _, rfl, rfl, ⟨_, _, rfl, Sl.nil _ _ _ _ _ (Nat.zero_le _)⟩⟩ rfl rfl) rfl) (.inl rfl) (by simp [maxLen])
 have hDu48 : ∀ k, (fun k => k = k40 ∨ (V.In w24.heap.size w35.heap.size) k) k → k < w43.heap.size := by intro k h; (try dsimp only at h); rcases h with h | h <;> first | omega | (have := h.2; omega) | (have := h.1; omega) | (have := hD k h; omega)
 refine V.call (splice_spec (prev := 3) (t := 1) F21 F42 (fun k hk => by have := hDu48 k hk; omega) (by first | omega | simp | decide) (by first | omega | simp | decide) (by first | assumption | simp)) rfl rfl rfl ?_
 rintro _ w54 ⟨g49, B50, rfl, F51, h52, h53, G55⟩
 have z56 := V.Fr.size G55
 first | replace F13 := F13.ma G55 | clear F13 | skip
 first | replace F21 := F21.mv1 G55 (by (try dsimp only [V.In]); first | omega | grind) | clear F21 | skip
 first | replace F34 := F34.ma G55 | clear F34 | skip
 first | replace Fk41 := Fk41.mv1 G55 (by omega) | clear Fk41 | skip
 first | replace F42 := F42.mb G55 hDu48 | clear F42 | skip
 replace HG := HG.n1 G55
 clear G55
 refine V.run T_ok 5 rfl ?_
 refine V.nil ?_
 refine V.tN ?_
 refine V.seq ?_
 have hr57 : splV (⟨3, 1, [(2, [120])]⟩) 3 1 ([(2, ([120] : List UInt8)), (4, [])] : List (Int × List UInt8)) = ⟨3, 1, [(2, [120]), (4, [])]⟩ := al2
 rw [hr57] at F51
 clear hr57
 refine V.region ?_
 refine V.run T_ok 1 rfl ?_
 refine V.call (splice_spec (prev := 5) (t := 3) F51 (Sl.nil _ _ V.None' _ _ (Nat.zero_le _)) (fun _ h => h.elim) (by first | omega | simp | decide) (by first | omega | simp | decide) (by first | assumption | simp)) rfl rfl rfl ?_
 rintro _ w63 ⟨g58, B59, rfl, F60, h61, h62, G64⟩
 have z65 := V.Fr.size G64
 first | replace F13 := F13.ma G64 | clear F13 | skip
 first | replace F34 := F34.ma G64 | clear F34 | skip
 first | replace Fk41 := Fk41.mv1 G64 (by omega) | clear Fk41 | skip
 first | replace F42 := F42.mb G64 hDu48 | clear F42 | skip
 first | replace F51 := F51.mv1 G64 (by (try dsimp only [V.In]); first | omega | grind) | clear F51 | skip
 replace HG := HG.n1 G64
 clear G64
 refine V.run T_ok 5 rfl ?_
 refine V.nil ?_
 refine V.tN ?_
 refine V.seq ?_
 have hr66 : splV (⟨3, 1, [(2, [120]), (4, [])]⟩) 5 3 ([]) = ⟨3, 1, [(2, [120]), (4, [])]⟩ := al3
 rw [hr66] at F60
 clear hr66
 refine V.region ?_
 refine V.run T_ok 1 rfl ?_
 refine V.call (last_spec F60) rfl rfl rfl ?_
 rintro _ w67 ⟨rfl, G68⟩
 have z69 := V.Fr.size G68
 try replace F13 := F13.gr G68
 try replace F34 := F34.gr G68
 try replace Fk41 := Fk41.gr G68
 try replace F42 := F42.gr G68
 try replace F60 := F60.gr G68
 replace HG := HG.grow G68
 clear G68
 refine V.run T_ok 5 rfl ?_
 refine V.nil ?_
 refine V.tN ?_
 refine V.seq ?_
 refine V.region ?_
 refine V.run T_ok 3 rfl ?_
 refine V.splitT (j := 2) (t := 51) rfl rfl (by (first | rfl | decide)) ?_
 refine V.run T_ok 4 rfl ?_
 refine V.splitT (j := 6) (t := 55) rfl rfl (by (first | rfl | decide)) ?_
 refine V.run T_ok 3 rfl ?_
 refine V.splitT (j := 9) (t := 58) rfl rfl (by (first | rfl | decide)) ?_
 refine V.run T_ok 4 rfl ?_
 refine V.splitT (j := 13) (t := 62) rfl rfl (by (first | rfl | decide)) ?_
 refine V.run T_ok 4 rfl ?_
 refine V.splitT (j := 17) (t := 66) rfl rfl (by (first | rfl | decide)) ?_
 refine V.run T_ok 4 rfl ?_
 refine V.splitT (j := 21) (t := 70) rfl rfl (by (first | rfl | decide)) ?_
 refine V.run T_ok 4 rfl ?_
 refine V.splitT (j := 25) (t := 74) rfl rfl (by (first | rfl | decide)) ?_
 refine V.run T_ok 1 rfl ?_
 refine V.yes rfl rfl rfl ?_
 refine V.call (behind_spec (i := 5) (t := 4) F60) rfl rfl rfl ?_
 rintro _ w70 ⟨rfl, G71⟩
 have z72 := V.Fr.size G71
 try replace F13 := F13.gr G71
 try replace F34 := F34.gr G71
 try replace Fk41 := Fk41.gr G71
 try replace F42 := F42.gr G71
 try replace F60 := F60.gr G71
 replace HG := HG.grow G71
 clear G71
 refine V.run T_ok 2 rfl ?_
 refine V.splitT (j := 29) (t := 78) rfl rfl (by (first | rfl | decide)) ?_
 refine V.run T_ok 1 rfl ?_
 refine V.yes rfl rfl rfl ?_
 refine V.call (behind_spec (i := 4) (t := 4) F60) rfl rfl rfl ?_
 rintro _ w73 ⟨rfl, G74⟩
 have z75 := V.Fr.size G74
 try replace F13 := F13.gr G74
 try replace F34 := F34.gr G74
 try replace Fk41 := Fk41.gr G74
 try replace F42 := F42.gr G74
 try replace F60 := F60.gr G74
 replace HG := HG.grow G74
 clear G74
 refine V.run T_ok 3 rfl ?_
 refine V.nil ?_
 refine V.tN ?_
 refine V.ret ?_
 refine V.done rfl ?_
 exact ⟨congrArg Value.bool (by first | rfl | decide), HG⟩

set_option maxHeartbeats 300000 in
set_option maxRecDepth 10000 in
theorem fits_spec {w : World}  {kind : Int} {i : Int} {t : Int} {D_es : Nat → Prop} {c_es : Nat} {a_es : Option Addr} {es : List (Int × List UInt8)} (F_es : Sl V.Cod.ent w D_es a_es c_es es) (hD_es : ∀ k, D_es k → k < w.heap.size)  :
    Meets Try.prog 21 [.agg #[.int .i64 kind, .int .i64 i, .int .i64 t, .slice a_es es.length c_es]] w fun r w' => ∃ (rb1 : Bool), r = .bool rb1 ∧ Gr w w' := by
 have HG := V.Fr.refl [] w
 refine V.enter (n := 23) Try.func21 rfl rfl (by decide) rfl ?_
 refine V.seq ?_
 refine V.region ?_
 refine V.box rfl rfl rfl rfl ?_
 rintro k1 w3 s5 s6 G4 Fk2
 have z7 := V.Fr.size G4
 try replace F_es := F_es.gr G4
 replace HG := HG.grow G4
 clear G4
 try simp only [V.cellsL, V.spliceL] at Fk2
 refine V.run T_ok 1 rfl ?_
 refine V.nil ?_
 refine V.tN ?_
 refine V.seq ?_
 refine V.seq ?_
 refine V.region ?_
 refine V.run T_ok 1 rfl ?_
 refine V.nil ?_
 refine V.tN ?_
 refine V.block ?_
 have hel := F_es.len63
 refine V.loopM (fun m e v9 => Fr [] w v9 ∧ w3.heap.size ≤ v9.heap.size ∧ Sl V.Cod.ent v9 D_es a_es c_es es ∧ Cells v9 k1 [.int .i64 kind, .int .i64 i, .int .i64 t, .slice a_es es.length c_es] 51 ∧ ∃ (j : Nat) , m = es.length - j ∧ j ≤ es.length ∧ e 1 = .pointer (some ⟨k1, 0, none⟩) ∧ e 3 = .int .i64 (j : Int)) ?_ ?_
 ·
  exact ⟨_, HG, (by omega), F_es, Fk2, (0), rfl, (Nat.zero_le _), rfl, rfl⟩
 clear HG F_es Fk2
 rintro _ e v9 ⟨HG, z10, F_es, Fk2, j, rfl, hj, he0_1, he0_3⟩
 refine V.knownC (t := 1) he0_1 ?_
 refine V.knownC (t := 3) he0_3 ?_
 refine V.seq ?_
 refine V.seq ?_
 refine V.region ?_
 refine V.run T_ok 2 rfl ?_
 refine V.loadO T_ok Fk2 rfl rfl rfl rfl rfl ?_
 refine V.run T_ok 2 rfl ?_
 refine V.nil ?_
 refine V.tN ?_
 refine V.condT rfl (fun h2 => ?_) (fun h2 => ?_)
 ·
  try replace h2 := V.dec h2
  try simp only [V.mk0, V.mk1, V.mk2, V.mk3] at h2
  refine V.skip ?_
  refine V.tN ?_
  refine V.seq ?_
  refine V.block ?_
  refine V.seq ?_
  refine V.region ?_
  refine V.run T_ok 3 rfl ?_
  refine V.split (j := 2) (t := 13) rfl rfl (fun g4_2 => ?_) (fun g4_2 => ?_)
  ·
   try replace g4_2 := V.dec g4_2
   try simp only [V.mk0, V.mk1, V.mk2, V.mk3] at g4_2
   refine V.run T_ok 9 rfl ?_
   refine V.nil ?_
   refine V.tN ?_
   refine V.condY rfl rfl ?_
   refine V.seq ?_
   refine V.region ?_
   refine V.run T_ok 1 rfl ?_
   refine V.nil ?_
   refine V.tN ?_
   refine V.ret ?_
   refine V.bR ?_
   refine V.tR ?_
   refine V.tR ?_
   refine V.bR ?_
   refine V.tR ?_
   refine V.done rfl ?_
   exact ⟨_, (by first | rfl | simp only [List.length_set]), HG⟩
  ·
   try replace g4_2 := V.dec g4_2
   try simp only [V.mk0, V.mk1, V.mk2, V.mk3] at g4_2
   refine V.run T_ok 1 rfl ?_
   refine V.yes rfl rfl rfl ?_
   refine V.loadO T_ok Fk2 rfl rfl rfl rfl rfl ?_
   refine V.run T_ok 1 rfl ?_
   refine V.yes rfl rfl rfl ?_
   refine V.elem T_ok F_es rfl rfl sz29 rfl rfl rfl rfl (by first | omega | (simp only [List.length_take, List.length_drop, List.length_append, List.length_cons, List.length_nil, List.length_replicate, List.length_set, V.length_data, V.S_size]; omega)) (by first | omega | (simp only [List.length_take, List.length_drop, List.length_append, List.length_cons, List.length_nil, List.length_replicate, List.length_set, V.length_data, V.S_size]; omega)) ?_
   rintro b11 o12 cs13 hx14 hb15 hR21 hA16
   obtain ⟨x17, hx17⟩ : ∃ z', es[((j : Int)).toNat] = z' := ⟨_, rfl⟩
   rw [hx17] at hR21
   obtain ⟨_, _, rfl, rfl, ⟨a18, c19, rfl, F20⟩⟩ := hR21
   try simp only [Int.toNat_natCast] at hx17 hx14
   refine V.run T_ok 1 rfl ?_
   refine V.yes rfl rfl rfl ?_
   refine V.loadA T_ok (o0 := o12) (off := 1) hA16 rfl rfl rfl rfl rfl ?_
   refine V.run T_ok 3 rfl ?_
   refine V.nil ?_
   refine V.tN ?_
   refine V.condT rfl (fun h4 => ?_) (fun h4 => ?_)
   ·
    try replace h4 := V.dec h4
    try simp only [V.mk0, V.mk1, V.mk2, V.mk3] at h4
    refine V.seq ?_
    refine V.region ?_
    refine V.run T_ok 1 rfl ?_
    refine V.nil ?_
    refine V.tN ?_
    refine V.ret ?_
    refine V.bR ?_
    refine V.tR ?_
    refine V.tR ?_
    refine V.bR ?_
    refine V.tR ?_
    refine V.done rfl ?_
    exact ⟨_, (by first | rfl | simp only [List.length_set]), HG⟩
   ·
    try replace h4 := V.dec h4
    try simp only [V.mk0, V.mk1, V.mk2, V.mk3] at h4
    refine V.skip ?_
    refine V.bN ?_
    refine V.tN ?_
    refine V.region ?_
    refine V.run T_ok 1 rfl ?_
    refine V.addN rfl rfl rfl rfl rfl (by first | omega | (simp only [List.length_take, List.length_drop, List.length_append, List.length_cons, List.length_nil, List.length_replicate, List.length_set, V.length_data, V.S_size]; omega)) (by first | omega | (simp only [List.length_take, List.length_drop, List.length_append, List.length_cons, List.length_nil, List.length_replicate, List.length_set, V.length_data, V.S_size]; omega)) ?_
    refine V.run T_ok 1 rfl ?_
    refine V.nil ?_
    refine V.tN ?_
    exact ⟨_, (by omega), HG, (by omega), F_es, Fk2, (j + 1), rfl, (by omega), rfl, rfl⟩
 ·
  try replace h2 := V.dec h2
  try simp only [V.mk0, V.mk1, V.mk2, V.mk3] at h2
  refine V.exit ?_
  refine V.tX ?_
  refine V.tX ?_
  refine V.bE ?_
  refine V.tN ?_
  refine V.seq ?_
  refine V.region ?_
  refine V.run T_ok 1 rfl ?_
  refine V.nil ?_
  refine V.tN ?_
  refine V.ret ?_
  refine V.done rfl ?_
  exact ⟨_, (by first | rfl | simp only [List.length_set]), HG⟩

set_option maxHeartbeats 300000 in
set_option maxRecDepth 10000 in
theorem alike_spec {w : World}  {D_x : Nat → Prop} {c_x : Nat} {a_x : Option Addr} {x : List (Int × List UInt8)} (F_x : Sl V.Cod.ent w D_x a_x c_x x) {D_y : Nat → Prop} {c_y : Nat} {a_y : Option Addr} {y : List (Int × List UInt8)} (F_y : Sl V.Cod.ent w D_y a_y c_y y)  :
    Meets Try.prog 16 [.slice a_x x.length c_x, .slice a_y y.length c_y] w fun r w' => r = .bool (decide (x = y)) ∧ Gr w w' := by
 have HG := V.Fr.refl [] w
 refine V.enter (n := 43) Try.func16 rfl rfl (by decide) rfl ?_
 refine V.seq ?_
 refine V.region ?_
 refine V.run T_ok 1 rfl ?_
 refine V.nil ?_
 refine V.tN ?_
 refine V.seq ?_
 refine V.seq ?_
 refine V.region ?_
 refine V.run T_ok 5 rfl ?_
 refine V.nil ?_
 refine V.tN ?_
 refine V.condT rfl (fun h1 => ?_) (fun h1 => ?_)
 ·
  try replace h1 := V.dec h1
  try simp only [V.mk0, V.mk1, V.mk2, V.mk3] at h1
  refine V.seq ?_
  refine V.region ?_
  refine V.run T_ok 1 rfl ?_
  refine V.nil ?_
  refine V.tN ?_
  refine V.ret ?_
  refine V.tR ?_
  refine V.done rfl ?_
  rw [show decide (x = y) = false from decide_eq_false (fun e => by subst e; omega)]
  exact ⟨(by first | rfl | simp only [List.length_set]), HG⟩
 ·
  try replace h1 := V.dec h1
  try simp only [V.mk0, V.mk1, V.mk2, V.mk3] at h1
  refine V.skip ?_
  refine V.tN ?_
  refine V.seq ?_
  refine V.seq ?_
  refine V.region ?_
  refine V.run T_ok 1 rfl ?_
  refine V.nil ?_
  refine V.tN ?_
  refine V.block ?_
  have hxl := F_x.len63
  refine V.loopM (fun m e v2 => Fr [] w v2 ∧ w.heap.size ≤ v2.heap.size ∧ Sl V.Cod.ent v2 D_x a_x c_x x ∧ Sl V.Cod.ent v2 D_y a_y c_y y ∧ ∃ (i : Nat) , m = x.length - i ∧ i ≤ x.length ∧ (∀ j (h1 : j < x.length) (h2 : j < y.length), j < i → x[j] = y[j]) ∧ e 0 = .slice a_x x.length c_x ∧ e 1 = .slice a_y y.length c_y ∧ e 5 = .int .i64 (i : Int)) ?_ ?_
  ·
   exact ⟨_, HG, (by omega), F_x, F_y, (0), rfl, (Nat.zero_le _), (fun j _ _ h => absurd h (Nat.not_lt_zero _)), rfl, rfl, rfl⟩
  clear HG F_x F_y
  rintro _ e v2 ⟨HG, z3, F_x, F_y, i, rfl, hi, hall, he0_0, he0_1, he0_5⟩
  refine V.knownC (t := 0) he0_0 ?_
  refine V.knownC (t := 1) he0_1 ?_
  refine V.knownC (t := 5) he0_5 ?_
  refine V.seq ?_
  refine V.seq ?_
  refine V.region ?_
  refine V.run T_ok 4 rfl ?_
  refine V.nil ?_
  refine V.tN ?_
  refine V.condT rfl (fun h4 => ?_) (fun h4 => ?_)
  ·
   try replace h4 := V.dec h4
   try simp only [V.mk0, V.mk1, V.mk2, V.mk3] at h4
   refine V.skip ?_
   refine V.tN ?_
   refine V.seq ?_
   refine V.block ?_
   refine V.seq ?_
   refine V.drawQ mixed (by kernel_rfl) ?_
   refine V.qrun T_ok 2 rfl ?_
   refine V.qelem T_ok F_x rfl rfl sz29 rfl rfl rfl rfl (by first | omega | (simp only [List.length_take, List.length_drop, List.length_append, List.length_cons, List.length_nil, List.length_replicate, List.length_set, V.length_data, V.S_size]; omega)) (by first | omega | (simp only [List.length_take, List.length_drop, List.length_append, List.length_cons, List.length_nil, List.length_replicate, List.length_set, V.length_data, V.S_size]; omega)) ?_
   rintro b4 o5 cs6 hx7 hb8 hR14 hA9
   obtain ⟨x10, hx10⟩ : ∃ z', x[((i : Int)).toNat] = z' := ⟨_, rfl⟩
   rw [hx10] at hR14
   obtain ⟨_, _, rfl, rfl, ⟨a11, c12, rfl, F13⟩⟩ := hR14
   try simp only [Int.toNat_natCast] at hx10 hx7
   refine V.qrun T_ok 1 rfl ?_
   refine V.qloadA T_ok (o0 := o5) (off := 0) hA9 rfl rfl rfl rfl rfl ?_
   refine V.qrun T_ok 2 rfl ?_
   refine V.qelem T_ok F_y rfl rfl sz29 rfl rfl rfl rfl (by first | omega | (simp only [List.length_take, List.length_drop, List.length_append, List.length_cons, List.length_nil, List.length_replicate, List.length_set, V.length_data, V.S_size]; omega)) (by first | omega | (simp only [List.length_take, List.length_drop, List.length_append, List.length_cons, List.length_nil, List.length_replicate, List.length_set, V.length_data, V.S_size]; omega)) ?_
   rintro b15 o16 cs17 hx18 hb19 hR25 hA20
   obtain ⟨x21, hx21⟩ : ∃ z', y[((i : Int)).toNat] = z' := ⟨_, rfl⟩
   rw [hx21] at hR25
   obtain ⟨_, _, rfl, rfl, ⟨a22, c23, rfl, F24⟩⟩ := hR25
   try simp only [Int.toNat_natCast] at hx21 hx18
   refine V.qrun T_ok 1 rfl ?_
   refine V.qloadA T_ok (o0 := o16) (off := 0) hA20 rfl rfl rfl rfl rfl ?_
   refine V.qrun T_ok 2 rfl ?_
   refine V.qsplit (j := 11) (t := 28) rfl rfl (fun g6_11 => ?_) (fun g6_11 => ?_)
   ·
    try replace g6_11 := V.dec g6_11
    try simp only [V.mk0, V.mk1, V.mk2, V.mk3] at g6_11
    refine V.qrun T_ok 14 rfl ?_
    refine V.qnil ?_
    rintro w26 G27
    have z28 := V.Fr.size G27
    try replace F_x := F_x.gr G27
    try replace F_y := F_y.gr G27
    try replace F13 := F13.gr G27
    try replace F24 := F24.gr G27
    replace HG := HG.grow G27
    clear G27
    refine V.tN ?_
    refine V.condY rfl rfl ?_
    refine V.seq ?_
    refine V.region ?_
    refine V.run T_ok 1 rfl ?_
    refine V.nil ?_
    refine V.tN ?_
    refine V.ret ?_
    refine V.bR ?_
    refine V.tR ?_
    refine V.tR ?_
    refine V.bR ?_
    refine V.tR ?_
    refine V.done rfl ?_
    rw [show decide (x = y) = false from same_no (by omega) (by omega) hx10 hx21 (by grind)]
    exact ⟨(by first | rfl | simp only [List.length_set]), HG⟩
   ·
    try replace g6_11 := V.dec g6_11
    try simp only [V.mk0, V.mk1, V.mk2, V.mk3] at g6_11
    refine V.qrun T_ok 2 rfl ?_
    refine V.qyes rfl rfl rfl ?_
    refine V.qelem T_ok F_x rfl rfl sz29 rfl rfl rfl rfl (by first | omega | (simp only [List.length_take, List.length_drop, List.length_append, List.length_cons, List.length_nil, List.length_replicate, List.length_set, V.length_data, V.S_size]; omega)) (by first | omega | (simp only [List.length_take, List.length_drop, List.length_append, List.length_cons, List.length_nil, List.length_replicate, List.length_set, V.length_data, V.S_size]; omega)) ?_
    rintro b29 o30 cs31 hx32 hb33 hR39 hA34
    obtain ⟨x35, hx35⟩ : ∃ z', x[((i : Int)).toNat] = z' := ⟨_, rfl⟩
    rw [hx35] at hR39
    obtain ⟨_, _, rfl, rfl, ⟨a36, c37, rfl, F38⟩⟩ := hR39
    try simp only [Int.toNat_natCast] at hx35 hx32
    obtain rfl : x10 = x35 := hx10.symm.trans hx35
    refine V.qrun T_ok 1 rfl ?_
    refine V.qyes rfl rfl rfl ?_
    refine V.qloadA T_ok (o0 := o30) (off := 1) hA34 rfl rfl rfl rfl rfl ?_
    refine V.qyes rfl rfl rfl ?_
    refine V.qtoStr F38 Try.underlying27 Try.underlying5 Try.underlying9 rfl rfl rfl rfl ?_
    refine V.qrun T_ok 2 rfl ?_
    refine V.qyes rfl rfl rfl ?_
    refine V.qelem T_ok F_y rfl rfl sz29 rfl rfl rfl rfl (by first | omega | (simp only [List.length_take, List.length_drop, List.length_append, List.length_cons, List.length_nil, List.length_replicate, List.length_set, V.length_data, V.S_size]; omega)) (by first | omega | (simp only [List.length_take, List.length_drop, List.length_append, List.length_cons, List.length_nil, List.length_replicate, List.length_set, V.length_data, V.S_size]; omega)) ?_
    rintro b40 o41 cs42 hx43 hb44 hR50 hA45
    obtain ⟨x46, hx46⟩ : ∃ z', y[((i : Int)).toNat] = z' := ⟨_, rfl⟩
    rw [hx46] at hR50
    obtain ⟨_, _, rfl, rfl, ⟨a47, c48, rfl, F49⟩⟩ := hR50
    try simp only [Int.toNat_natCast] at hx46 hx43
    obtain rfl : x21 = x46 := hx21.symm.trans hx46
    refine V.qrun T_ok 1 rfl ?_
    refine V.qyes rfl rfl rfl ?_
    refine V.qloadA T_ok (o0 := o41) (off := 1) hA45 rfl rfl rfl rfl rfl ?_
    refine V.qyes rfl rfl rfl ?_
    refine V.qtoStr F49 Try.underlying27 Try.underlying5 Try.underlying9 rfl rfl rfl rfl ?_
    refine V.qrun T_ok 2 rfl ?_
    refine V.qnil ?_
    rintro w51 G52
    have z53 := V.Fr.size G52
    try replace F_x := F_x.gr G52
    try replace F_y := F_y.gr G52
    try replace F13 := F13.gr G52
    try replace F24 := F24.gr G52
    try replace F38 := F38.gr G52
    try replace F49 := F49.gr G52
    replace HG := HG.grow G52
    clear G52
    refine V.tN ?_
    refine V.condT rfl (fun h6 => ?_) (fun h6 => ?_)
    ·
     try replace h6 := V.dec h6
     try simp only [V.mk0, V.mk1, V.mk2, V.mk3] at h6
     refine V.seq ?_
     refine V.region ?_
     refine V.run T_ok 1 rfl ?_
     refine V.nil ?_
     refine V.tN ?_
     refine V.ret ?_
     refine V.bR ?_
     refine V.tR ?_
     refine V.tR ?_
     refine V.bR ?_
     refine V.tR ?_
     refine V.done rfl ?_
     rw [show decide (x = y) = false from same_no (by omega) (by omega) hx10 hx21 (by grind)]
     exact ⟨(by first | rfl | simp only [List.length_set]), HG⟩
    ·
     try replace h6 := V.dec h6
     try simp only [V.mk0, V.mk1, V.mk2, V.mk3] at h6
     refine V.skip ?_
     refine V.bN ?_
     refine V.tN ?_
     refine V.region ?_
     refine V.run T_ok 1 rfl ?_
     refine V.addN rfl rfl rfl rfl rfl (by first | omega | (simp only [List.length_take, List.length_drop, List.length_append, List.length_cons, List.length_nil, List.length_replicate, List.length_set, V.length_data, V.S_size]; omega)) (by first | omega | (simp only [List.length_take, List.length_drop, List.length_append, List.length_cons, List.length_nil, List.length_replicate, List.length_set, V.length_data, V.S_size]; omega)) ?_
     refine V.run T_ok 1 rfl ?_
     refine V.nil ?_
     refine V.tN ?_
     have heq : x10 = x21 := Prod.ext (by grind) (by grind)
     exact ⟨_, (by omega), HG, (by omega), F_x, F_y, (i + 1), rfl, (by omega), (fun j h1 h2 h3 => by rcases Nat.lt_or_ge j i with h | h; exact hall j h1 h2 h; obtain rfl : j = i := (by omega); rw [hx10, hx21, heq]), rfl, rfl, rfl⟩
  ·
   try replace h4 := V.dec h4
   try simp only [V.mk0, V.mk1, V.mk2, V.mk3] at h4
   refine V.exit ?_
   refine V.tX ?_
   refine V.tX ?_
   refine V.bE ?_
   refine V.tN ?_
   refine V.seq ?_
   refine V.region ?_
   refine V.run T_ok 1 rfl ?_
   refine V.nil ?_
   refine V.tN ?_
   refine V.ret ?_
   refine V.done rfl ?_
   rw [show decide (x = y) = true from same_all (by omega) (fun j h1 h2 => hall j h1 h2 (by omega))]
   exact ⟨(by first | rfl | simp only [List.length_set]), HG⟩

set_option maxHeartbeats 300000 in
set_option maxRecDepth 10000 in
theorem entriesNil_walk {w : World}  {kind : Int} {i : Int} {t : Int} {D_es : Nat → Prop} {c_es : Nat} {a_es : Option Addr} {es : List (Int × List UInt8)} (F_es : Sl V.Cod.ent w D_es a_es c_es es) (hD_es : ∀ k, D_es k → k < w.heap.size)  :
    Meets Try.prog 7 [.agg #[.int .i64 kind, .int .i64 i, .int .i64 t, .slice a_es es.length c_es]] w fun r w' => r = .bool true ∧ Gr w w' := by
 have HG := V.Fr.refl [] w
 refine V.enter (n := 136) Try.func7 rfl rfl (by decide) rfl ?_
 refine V.seq ?_
 refine V.region ?_
 refine V.box rfl rfl rfl rfl ?_
 rintro k1 w3 s5 s6 G4 Fk2
 have z7 := V.Fr.size G4
 try replace F_es := F_es.gr G4
 replace HG := HG.grow G4
 clear G4
 try simp only [V.cellsL, V.spliceL] at Fk2
 refine V.run T_ok 1 rfl ?_
 refine V.nil ?_
 refine V.tN ?_
 refine V.seq ?_
 refine V.region ?_
 refine V.loadO T_ok Fk2 rfl rfl rfl rfl rfl ?_
 refine V.call (fits_spec (kind := kind) (i := i) (t := t) F_es (fun k hk => by have := hD_es k hk; omega)) rfl rfl rfl ?_
 rintro _ w9 ⟨b8, rfl, G10⟩
 have z11 := V.Fr.size G10
 try replace F_es := F_es.gr G10
 try replace Fk2 := Fk2.gr G10
 replace HG := HG.grow G10
 clear G10
 refine V.run T_ok 1 rfl ?_
 refine V.nil ?_
 refine V.tN ?_
 refine V.seq ?_
 refine V.seq ?_
 refine V.region ?_
 refine V.run T_ok 2 rfl ?_
 refine V.nil ?_
 refine V.tN ?_
 refine V.condT rfl (fun h2 => ?_) (fun h2 => ?_)
 ·
  try replace h2 := V.dec h2
  try simp only [V.mk0, V.mk1, V.mk2, V.mk3] at h2
  refine V.seq ?_
  refine V.region ?_
  refine V.call (alive_spec) rfl rfl rfl ?_
  rintro _ w12 ⟨rfl, G13⟩
  have z14 := V.Fr.size G13
  try replace F_es := F_es.gr G13
  try replace Fk2 := Fk2.gr G13
  replace HG := HG.grow G13
  clear G13
  refine V.run T_ok 1 rfl ?_
  refine V.nil ?_
  refine V.tN ?_
  refine V.ret ?_
  refine V.tR ?_
  refine V.done rfl ?_
  exact ⟨(by first | rfl | simp only [List.length_set]), HG⟩
 ·
  try replace h2 := V.dec h2
  try simp only [V.mk0, V.mk1, V.mk2, V.mk3] at h2
  refine V.skip ?_
  refine V.tN ?_
  refine V.seq ?_
  refine V.region ?_
  refine V.run T_ok 1 rfl ?_
  refine V.nil ?_
  refine V.tN ?_
  refine V.seq ?_
  refine V.region ?_
  refine V.run T_ok 1 rfl ?_
  refine V.call (base_nil) rfl rfl rfl ?_
  rintro _ w15 ⟨rfl, G16⟩
  have z17 := V.Fr.size G16
  try replace F_es := F_es.gr G16
  try replace Fk2 := Fk2.gr G16
  replace HG := HG.grow G16
  clear G16
  refine V.run T_ok 5 rfl ?_
  refine V.nil ?_
  refine V.tN ?_
  refine V.seq ?_
  refine V.region ?_
  refine V.run T_ok 1 rfl ?_
  refine V.call (last_nil) rfl rfl rfl ?_
  rintro _ w18 ⟨rfl, G19⟩
  have z20 := V.Fr.size G19
  try replace F_es := F_es.gr G19
  try replace Fk2 := Fk2.gr G19
  replace HG := HG.grow G19
  clear G19
  refine V.run T_ok 5 rfl ?_
  refine V.nil ?_
  refine V.tN ?_
  refine V.seq ?_
  refine V.region ?_
  refine V.run T_ok 2 rfl ?_
  refine V.loadO T_ok Fk2 rfl rfl rfl rfl rfl ?_
  refine V.call (term_nil (i := i)) rfl rfl rfl ?_
  rintro _ w21 ⟨rfl, G22⟩
  have z23 := V.Fr.size G22
  try replace F_es := F_es.gr G22
  try replace Fk2 := Fk2.gr G22
  replace HG := HG.grow G22
  clear G22
  refine V.run T_ok 5 rfl ?_
  refine V.nil ?_
  refine V.tN ?_
  refine V.seq ?_
  refine V.region ?_
  refine V.run T_ok 2 rfl ?_
  refine V.loadO T_ok Fk2 rfl rfl rfl rfl rfl ?_
  refine V.call (entry_nil (i := i)) rfl rfl rfl ?_
  rintro _ w24 ⟨rfl, G25⟩
  have z26 := V.Fr.size G25
  try replace F_es := F_es.gr G25
  try replace Fk2 := Fk2.gr G25
  replace HG := HG.grow G25
  clear G25
  refine V.run T_ok 3 rfl ?_
  refine V.alloc zero29 rfl rfl rfl ?_
  rintro k27 w29 s31 s32 G30 Fk28
  have z33 := V.Fr.size G30
  try replace F_es := F_es.gr G30
  try replace Fk2 := Fk2.gr G30
  replace HG := HG.grow G30
  clear G30
  try simp only [V.cellsL, V.spliceL] at Fk28
  refine V.storeO Fk28 rfl rfl rfl rfl sz29 rfl rfl rfl rfl ?_
  rintro w34 G35 z37 Fs36
  clear Fk28
  have z38 := V.Fr.size G35
  first | replace F_es := F_es.mb G35 hD_es | clear F_es | skip
  first | replace Fk2 := Fk2.mv1 G35 (by omega) | clear Fk2 | skip
  replace HG := HG.n1 G35
  clear G35
  have Fk28 := Fs36; clear Fs36
  simp only [V.spliceL, V.cellsL] at Fk28
  refine V.run T_ok 1 rfl ?_
  refine V.nil ?_
  refine V.tN ?_
  refine V.seq ?_
  refine V.region ?_
  refine V.run T_ok 1 rfl ?_
  refine V.mkStruct T_ok zero29 rfl rfl rfl rfl rfl ?_
  refine V.call (append_nil (t := 0) (Sl.nil _ _ V.None' _ _ (Nat.zero_le _))) rfl rfl rfl ?_
  rintro _ w39 ⟨rfl, G40⟩
  have z41 := V.Fr.size G40
  try replace F_es := F_es.gr G40
  try replace Fk2 := Fk2.gr G40
  try replace Fk28 := Fk28.gr G40
  replace HG := HG.grow G40
  clear G40
  refine V.run T_ok 5 rfl ?_
  refine V.nil ?_
  refine V.tN ?_
  refine V.seq ?_
  refine V.region ?_
  refine V.run T_ok 2 rfl ?_
  refine V.loadO T_ok Fk2 rfl rfl rfl rfl rfl ?_
  refine V.run T_ok 1 rfl ?_
  refine V.loadO T_ok Fk2 rfl rfl rfl rfl rfl ?_
  refine V.run T_ok 1 rfl ?_
  refine V.loadO T_ok Fk2 rfl rfl rfl rfl rfl ?_
  refine V.call (splice_nil (prev := i) (t := t) F_es) rfl rfl rfl ?_
  rintro _ w42 ⟨rfl, G43⟩
  have z44 := V.Fr.size G43
  try replace F_es := F_es.gr G43
  try replace Fk2 := Fk2.gr G43
  try replace Fk28 := Fk28.gr G43
  replace HG := HG.grow G43
  clear G43
  refine V.run T_ok 5 rfl ?_
  refine V.nil ?_
  refine V.tN ?_
  refine V.seq ?_
  refine V.region ?_
  refine V.call (alive_spec) rfl rfl rfl ?_
  rintro _ w45 ⟨rfl, G46⟩
  have z47 := V.Fr.size G46
  try replace F_es := F_es.gr G46
  try replace Fk2 := Fk2.gr G46
  try replace Fk28 := Fk28.gr G46
  replace HG := HG.grow G46
  clear G46
  refine V.run T_ok 27 rfl ?_
  refine V.yes rfl rfl rfl ?_
  refine V.loadO T_ok Fk2 rfl rfl rfl rfl rfl ?_
  refine V.run T_ok 1 rfl ?_
  refine V.yes rfl rfl rfl ?_
  refine V.loadO T_ok Fk2 rfl rfl rfl rfl rfl ?_
  refine V.yes rfl rfl rfl ?_
  refine V.call (from_nil (i := i) (most := t)) rfl rfl rfl ?_
  rintro _ w48 ⟨rfl, G49⟩
  have z50 := V.Fr.size G49
  try replace F_es := F_es.gr G49
  try replace Fk2 := Fk2.gr G49
  try replace Fk28 := Fk28.gr G49
  replace HG := HG.grow G49
  clear G49
  refine V.run T_ok 18 rfl ?_
  refine V.yes rfl rfl rfl ?_
  refine V.loadO T_ok Fk2 rfl rfl rfl rfl rfl ?_
  refine V.yes rfl rfl rfl ?_
  refine V.call (compact_nil (i := i)) rfl rfl rfl ?_
  rintro _ w51 ⟨rfl, G52⟩
  have z53 := V.Fr.size G52
  try replace F_es := F_es.gr G52
  try replace Fk2 := Fk2.gr G52
  try replace Fk28 := Fk28.gr G52
  replace HG := HG.grow G52
  clear G52
  refine V.run T_ok 4 rfl ?_
  refine V.yes rfl rfl rfl ?_
  refine V.call (reset_nil (b := 0) (t := 0)) rfl rfl rfl ?_
  rintro _ w54 ⟨rfl, G55⟩
  have z56 := V.Fr.size G55
  try replace F_es := F_es.gr G55
  try replace Fk2 := Fk2.gr G55
  try replace Fk28 := Fk28.gr G55
  replace HG := HG.grow G55
  clear G55
  refine V.run T_ok 5 rfl ?_
  refine V.yes rfl rfl rfl ?_
  refine V.loadO T_ok Fk2 rfl rfl rfl rfl rfl ?_
  refine V.run T_ok 1 rfl ?_
  refine V.yes rfl rfl rfl ?_
  refine V.loadO T_ok Fk2 rfl rfl rfl rfl rfl ?_
  refine V.yes rfl rfl rfl ?_
  refine V.call (behind_nil (i := i) (t := t)) rfl rfl rfl ?_
  rintro _ w57 ⟨rfl, G58⟩
  have z59 := V.Fr.size G58
  try replace F_es := F_es.gr G58
  try replace Fk2 := Fk2.gr G58
  try replace Fk28 := Fk28.gr G58
  replace HG := HG.grow G58
  clear G58
  refine V.run T_ok 4 rfl ?_
  refine V.yes rfl rfl rfl ?_
  refine V.call (copy_nil) rfl rfl rfl ?_
  rintro _ w60 ⟨rfl, G61⟩
  have z62 := V.Fr.size G61
  try replace F_es := F_es.gr G61
  try replace Fk2 := Fk2.gr G61
  try replace Fk28 := Fk28.gr G61
  replace HG := HG.grow G61
  clear G61
  refine V.run T_ok 3 rfl ?_
  refine V.nil ?_
  refine V.tN ?_
  refine V.ret ?_
  refine V.done rfl ?_
  exact ⟨rfl, HG⟩

end Go.Proofs.Ytaekbikdeeaphaa
