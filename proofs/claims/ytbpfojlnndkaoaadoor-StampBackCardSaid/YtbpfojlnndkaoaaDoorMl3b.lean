/- Proved here: walks: what functions of this seat's program return and what they leave of memory, each as a contract. Conditions: stated at each theorem. -/
import Derived.Test.YtbpfojlnndkaoaaDoorMl3
namespace Go.Proofs.YtbpfojlnndkaoaaDoor
set_option linter.unusedVariables false
set_option linter.unusedSimpArgs false
open Go
open V (Bytes Meets Env Sl Own Gr Fr Cells S)
set_option maxHeartbeats 4000000 in
set_option maxRecDepth 10000 in
theorem stampBytes_walk {w : World}  {x : Int} {y : Int} {D_b : Nat → Prop} {c_b : Nat} {a_b : Option Addr} {b : List UInt8} (F_b : Sl V.Cod.byte w D_b a_b c_b b) (hD_b : ∀ k, D_b k → k < w.heap.size) {n : Int} (hx : x ≤ 9223372036854775807) (hy : y ≤ 9223372036854775807) :
    Meets Tryd.prog 7 [.agg #[.int .i64 x, .int .i64 y], .slice a_b b.length c_b, .int .i64 n] w fun r w' => r = .bool true ∧ Gr w w' := by
  have hxl := numB_len9 hx
  have hyl := numB_len9 hy
  have hsl : (stB x y).length = (numB x.toNat).length + (numB y.toNat).length := List.length_append
  have HG := V.Fr.refl [] w
  refine V.enter (n := 85) Tryd.func7 rfl rfl (by decide) rfl ?_
  refine V.seq ?_
  refine V.region ?_
  refine V.box rfl rfl rfl rfl ?_
  rintro k1 w3 s5 s6 G4 Fk2
  have z7 := V.Fr.size G4
  try replace F_b := F_b.gr G4
  replace HG := HG.grow G4
  clear G4
  try simp only [V.cellsL, V.spliceL] at Fk2
  refine V.run T_ok 1 rfl ?_
  refine V.nil ?_
  refine V.tN ?_
  refine V.seq ?_
  refine V.seq ?_
  refine V.region ?_
  refine V.run T_ok 3 rfl ?_
  refine V.nil ?_
  refine V.tN ?_
  refine V.condT rfl (fun h1 => ?_) (fun h1 => ?_)
  ·
    try simp only [decide_eq_true_eq, decide_eq_false_iff_not, Bool.or_eq_true, Bool.and_eq_true, Bool.or_eq_false_iff, Bool.and_eq_false_iff, Bool.not_eq_true', Bool.not_eq_false', Int.not_lt, Int.not_le, Decidable.not_not, V.u8eq, V.S_inj, V.S_lit, V.S_lit2, V.bl] at h1
    try simp only [V.mk0, V.mk1, V.mk2, V.mk3] at h1
    refine V.seq ?_
    refine V.region ?_
    refine V.call (alive_spec) rfl rfl rfl ?_
    rintro _ w8 ⟨rfl, G9⟩
    have z10 := V.Fr.size G9
    try replace F_b := F_b.gr G9
    try replace Fk2 := Fk2.gr G9
    replace HG := HG.grow G9
    clear G9
    refine V.run T_ok 1 rfl ?_
    refine V.nil ?_
    refine V.tN ?_
    refine V.ret ?_
    refine V.tR ?_
    refine V.done rfl ?_
    exact ⟨(congrArg Value.bool (by first | rfl | (grind))), HG⟩
  ·
    try simp only [decide_eq_true_eq, decide_eq_false_iff_not, Bool.or_eq_true, Bool.and_eq_true, Bool.or_eq_false_iff, Bool.and_eq_false_iff, Bool.not_eq_true', Bool.not_eq_false', Int.not_lt, Int.not_le, Decidable.not_not, V.u8eq, V.S_inj, V.S_lit, V.S_lit2, V.bl] at h1
    try simp only [V.mk0, V.mk1, V.mk2, V.mk3] at h1
    refine V.skip ?_
    refine V.tN ?_
    refine V.seq ?_
    refine V.region ?_
    refine V.run T_ok 1 rfl ?_
    refine V.call (p_open F_b (fun k hk => by have := hD_b k hk; omega) (by first | omega | (simp only [List.length_take, List.length_drop, List.length_append, List.length_cons, List.length_nil, List.length_replicate, List.length_set, V.length_data, V.S_size]; omega))) rfl rfl rfl ?_
    rintro _ w14 ⟨k11, rfl, ⟨h12l, h12u⟩, F13, G15⟩
    have z16 := V.Fr.size G15
    try replace F_b := F_b.gr G15
    try replace Fk2 := Fk2.gr G15
    replace HG := HG.grow G15
    clear G15
    refine V.run T_ok 1 rfl ?_
    refine V.nil ?_
    refine V.tN ?_
    refine V.seq ?_
    refine V.region ?_
    refine V.run T_ok 1 rfl ?_
    refine V.call (rp_open F_b (fun k hk => by have := hD_b k hk; omega)) rfl rfl rfl ?_
    rintro _ w20 ⟨k17, rfl, ⟨h18l, h18u⟩, F19, G21⟩
    have z22 := V.Fr.size G21
    try replace F_b := F_b.gr G21
    try replace Fk2 := Fk2.gr G21
    try replace F13 := F13.gr G21
    replace HG := HG.grow G21
    clear G21
    refine V.run T_ok 1 rfl ?_
    refine V.nil ?_
    refine V.tN ?_
    refine V.seq ?_
    refine V.seq ?_
    refine V.region ?_
    refine V.run T_ok 1 rfl ?_
    refine V.nil ?_
    refine V.tN ?_
    refine V.block ?_
    refine V.loopM (fun m e v26 => Fr [] w v26 ∧ w20.heap.size ≤ v26.heap.size ∧ Sl V.Cod.byte v26 D_b a_b c_b b ∧ Cells v26 k1 [.int .i64 x, .int .i64 y] 23 ∧ ∃ (j : Nat) (bad : Bool) (i : Nat) , m = 10 - i ∧ i ≤ 10 ∧ j ≤ b.length ∧ Rd v26 k11 (fun j => w3.heap.size ≤ j ∧ j < k11) (b.drop j) ∧ Rf v26 k17 (D_b) (⟨b, j, bad⟩ : RfV) ∧ e 1 = .slice a_b b.length c_b ∧ e 2 = .int .i64 n ∧ e 3 = .pointer (some ⟨k1, 0, none⟩) ∧ e 7 = .pointer (some ⟨k11, 0, none⟩) ∧ e 8 = .pointer (some ⟨k17, 0, none⟩) ∧ e 9 = .int .i64 (i : Int)) ?_ ?_
    ·
      exact ⟨_, HG, (by omega), F_b, Fk2, (0), (false), (0), rfl, (by omega), (by omega), (by first | exact F13 | exact F13.mono (fun _ h => h.1) (by intro h; omega)), (by first | exact F19 | exact F19.mono (fun _ h => h.1) (by intro h; omega)), rfl, rfl, rfl, rfl, rfl, rfl⟩
    try clear F13
    try clear F19
    clear HG F_b Fk2
    rintro _ e v26 ⟨HG, z27, F_b, Fk2, j, bad, i, rfl, hi, hj, F23, F24, he0_1, he0_2, he0_3, he0_7, he0_8, he0_9⟩
    
    refine V.knownC (t := 1) he0_1 ?_
    refine V.knownC (t := 2) he0_2 ?_
    refine V.knownC (t := 3) he0_3 ?_
    refine V.knownC (t := 7) he0_7 ?_
    refine V.knownC (t := 8) he0_8 ?_
    refine V.knownC (t := 9) he0_9 ?_
    refine V.seq ?_
    refine V.seq ?_
    refine V.region ?_
    refine V.run T_ok 4 rfl ?_
    refine V.andG T_ok 2 3 27 rfl rfl rfl rfl rfl rfl rfl rfl ?_
    refine V.nil ?_
    refine V.tN ?_
    refine V.condT rfl (fun h6 => ?_) (fun h6 => ?_)
    ·
      try simp only [decide_eq_true_eq, decide_eq_false_iff_not, Bool.or_eq_true, Bool.and_eq_true, Bool.or_eq_false_iff, Bool.and_eq_false_iff, Bool.not_eq_true', Bool.not_eq_false', Int.not_lt, Int.not_le, Decidable.not_not, V.u8eq, V.S_inj, V.S_lit, V.S_lit2, V.bl] at h6
      try simp only [V.mk0, V.mk1, V.mk2, V.mk3] at h6
      refine V.skip ?_
      refine V.tN ?_
      refine V.seq ?_
      refine V.block ?_
      refine V.seq ?_
      refine V.region ?_
      refine V.run T_ok 1 rfl ?_
      refine V.call (sget_spec F23) rfl rfl rfl ?_
      rintro _ w29 ⟨rfl, F28, G30⟩
      have z31 := V.Fr.size G30
      first | replace F_b := F_b.mv1 G30 (by first | exact (fun h => by have := hD_b _ h; omega) | omega) | clear F_b | skip
      first | replace Fk2 := Fk2.mv1 G30 (by omega) | clear Fk2 | skip
      first | replace F23 := F23.mv1 G30 (by first | exact ⟨by omega, by assumption⟩ | exact ⟨by omega, fun h => absurd h.1 (by assumption)⟩ | exact ⟨by omega, fun h => absurd h.1.1 (by assumption)⟩ | exact ⟨by omega, fun h => by first | (have h2 := h.1; have h3 := h.2; omega) | (have h2 := h; dsimp only at h2; omega)⟩ | first | omega | exact fun h => h | exact ⟨by omega, fun h => h⟩ | (intro h; first | (have := hD_b _ h; omega)) | (refine ⟨by omega, ?_⟩; intro h; first | (have := hD_b _ h; omega))) | clear F23 | skip
      first | replace F24 := F24.mv1 G30 (by first | exact ⟨by omega, by assumption⟩ | exact ⟨by omega, fun h => absurd h.1 (by assumption)⟩ | exact ⟨by omega, fun h => absurd h.1.1 (by assumption)⟩ | exact ⟨by omega, fun h => by first | (have h2 := h.1; have h3 := h.2; omega) | (have h2 := h; dsimp only at h2; omega)⟩ | first | omega | exact fun h => h | exact ⟨by omega, fun h => h⟩ | (intro h; first | (have := hD_b _ h; omega)) | (refine ⟨by omega, ?_⟩; intro h; first | (have := hD_b _ h; omega))) | clear F24 | skip
      replace HG := HG.new1 G30 (by first | (refine Or.inr ?_; omega) | (refine Or.inl ?_; simp; done))
      clear G30
      refine V.run T_ok 3 rfl ?_
      refine V.alloc zero23 rfl rfl rfl ?_
      rintro k32 w34 s36 s37 G35 Fk33
      have z38 := V.Fr.size G35
      try replace F_b := F_b.gr G35
      try replace Fk2 := Fk2.gr G35
      try replace F24 := F24.gr G35
      try replace F28 := F28.gr G35
      replace HG := HG.grow G35
      clear G35
      try simp only [V.cellsL, V.spliceL] at Fk33
      refine V.storeO Fk33 rfl rfl rfl rfl sz23 rfl rfl rfl rfl ?_
      rintro w39 G40 z42 Fs41
      clear Fk33
      have z43 := V.Fr.size G40
      first | replace F_b := F_b.mv1 G40 (by first | exact (fun h => by have := hD_b _ h; omega) | omega) | clear F_b | skip
      first | replace Fk2 := Fk2.mv1 G40 (by omega) | clear Fk2 | skip
      first | replace F24 := F24.mv1 G40 (by first | exact ⟨by omega, by assumption⟩ | exact ⟨by omega, fun h => absurd h.1 (by assumption)⟩ | exact ⟨by omega, fun h => absurd h.1.1 (by assumption)⟩ | exact ⟨by omega, fun h => by first | (have h2 := h.1; have h3 := h.2; omega) | (have h2 := h; dsimp only at h2; omega)⟩ | first | omega | exact fun h => h | exact ⟨by omega, fun h => h⟩ | (intro h; first | (have := hD_b _ h; omega)) | (refine ⟨by omega, ?_⟩; intro h; first | (have := hD_b _ h; omega))) | clear F24 | skip
      first | replace F28 := F28.mv1 G40 (by first | exact ⟨by omega, by assumption⟩ | exact ⟨by omega, fun h => absurd h.1 (by assumption)⟩ | exact ⟨by omega, fun h => absurd h.1.1 (by assumption)⟩ | exact ⟨by omega, fun h => by first | (have h2 := h.1; have h3 := h.2; omega) | (have h2 := h; dsimp only at h2; omega)⟩ | first | omega | exact fun h => h | exact ⟨by omega, fun h => h⟩ | (intro h; first | (have := hD_b _ h; omega)) | (refine ⟨by omega, ?_⟩; intro h; first | (have := hD_b _ h; omega))) | clear F28 | skip
      replace HG := HG.new1 G40 (by first | (refine Or.inr ?_; omega) | (refine Or.inl ?_; simp; done))
      clear G40
      have Fk33 := Fs41; clear Fs41
      simp only [V.spliceL, V.cellsL] at Fk33
      refine V.run T_ok 1 rfl ?_
      refine V.nil ?_
      refine V.tN ?_
      refine V.seq ?_
      refine V.region ?_
      refine V.run T_ok 1 rfl ?_
      refine V.call (rsget_spec F24) rfl rfl rfl ?_
      rintro _ w45 ⟨rfl, F44, G46⟩
      have z47 := V.Fr.size G46
      first | replace F_b := F_b.mv1 G46 (by first | exact (fun h => by have := hD_b _ h; omega) | omega) | clear F_b | skip
      first | replace Fk2 := Fk2.mv1 G46 (by omega) | clear Fk2 | skip
      first | replace F24 := F24.mv1 G46 (by first | exact ⟨by omega, by assumption⟩ | exact ⟨by omega, fun h => absurd h.1 (by assumption)⟩ | exact ⟨by omega, fun h => absurd h.1.1 (by assumption)⟩ | exact ⟨by omega, fun h => by first | (have h2 := h.1; have h3 := h.2; omega) | (have h2 := h; dsimp only at h2; omega)⟩ | first | omega | exact fun h => h | exact ⟨by omega, fun h => h⟩ | (intro h; first | (have := hD_b _ h; omega)) | (refine ⟨by omega, ?_⟩; intro h; first | (have := hD_b _ h; omega))) | clear F24 | skip
      first | replace F28 := F28.mv1 G46 (by first | exact ⟨by omega, by assumption⟩ | exact ⟨by omega, fun h => absurd h.1 (by assumption)⟩ | exact ⟨by omega, fun h => absurd h.1.1 (by assumption)⟩ | exact ⟨by omega, fun h => by first | (have h2 := h.1; have h3 := h.2; omega) | (have h2 := h; dsimp only at h2; omega)⟩ | first | omega | exact fun h => h | exact ⟨by omega, fun h => h⟩ | (intro h; first | (have := hD_b _ h; omega)) | (refine ⟨by omega, ?_⟩; intro h; first | (have := hD_b _ h; omega))) | clear F28 | skip
      first | replace Fk33 := Fk33.mv1 G46 (by omega) | clear Fk33 | skip
      replace HG := HG.new1 G46 (by first | (refine Or.inr ?_; omega) | (refine Or.inl ?_; simp; done))
      clear G46
      refine V.run T_ok 3 rfl ?_
      refine V.alloc zero23 rfl rfl rfl ?_
      rintro k48 w50 s52 s53 G51 Fk49
      have z54 := V.Fr.size G51
      try replace F_b := F_b.gr G51
      try replace Fk2 := Fk2.gr G51
      try replace F28 := F28.gr G51
      try replace Fk33 := Fk33.gr G51
      try replace F44 := F44.gr G51
      replace HG := HG.grow G51
      clear G51
      try simp only [V.cellsL, V.spliceL] at Fk49
      refine V.storeO Fk49 rfl rfl rfl rfl sz23 rfl rfl rfl rfl ?_
      rintro w55 G56 z58 Fs57
      clear Fk49
      have z59 := V.Fr.size G56
      first | replace F_b := F_b.mv1 G56 (by first | exact (fun h => by have := hD_b _ h; omega) | omega) | clear F_b | skip
      first | replace Fk2 := Fk2.mv1 G56 (by omega) | clear Fk2 | skip
      first | replace F28 := F28.mv1 G56 (by first | exact ⟨by omega, by assumption⟩ | exact ⟨by omega, fun h => absurd h.1 (by assumption)⟩ | exact ⟨by omega, fun h => absurd h.1.1 (by assumption)⟩ | exact ⟨by omega, fun h => by first | (have h2 := h.1; have h3 := h.2; omega) | (have h2 := h; dsimp only at h2; omega)⟩ | first | omega | exact fun h => h | exact ⟨by omega, fun h => h⟩ | (intro h; first | (have := hD_b _ h; omega)) | (refine ⟨by omega, ?_⟩; intro h; first | (have := hD_b _ h; omega))) | clear F28 | skip
      first | replace Fk33 := Fk33.mv1 G56 (by omega) | clear Fk33 | skip
      first | replace F44 := F44.mv1 G56 (by first | exact ⟨by omega, by assumption⟩ | exact ⟨by omega, fun h => absurd h.1 (by assumption)⟩ | exact ⟨by omega, fun h => absurd h.1.1 (by assumption)⟩ | exact ⟨by omega, fun h => by first | (have h2 := h.1; have h3 := h.2; omega) | (have h2 := h; dsimp only at h2; omega)⟩ | first | omega | exact fun h => h | exact ⟨by omega, fun h => h⟩ | (intro h; first | (have := hD_b _ h; omega)) | (refine ⟨by omega, ?_⟩; intro h; first | (have := hD_b _ h; omega))) | clear F44 | skip
      replace HG := HG.new1 G56 (by first | (refine Or.inr ?_; omega) | (refine Or.inl ?_; simp; done))
      clear G56
      have Fk49 := Fs57; clear Fs57
      simp only [V.spliceL, V.cellsL] at Fk49
      refine V.run T_ok 1 rfl ?_
      refine V.nil ?_
      refine V.tN ?_
      refine V.seq ?_
      obtain ⟨a60, c61, F63, F62⟩ := F44.ex
      have hri : (rfS ⟨b, j, bad⟩).i = j + rdSC (b.drop j) := rfl
      have hjc := rdSC_le (b.drop j)
      rw [List.length_drop] at hjc
      have hjs : (rdS (b.drop j)).2.length = b.length - (j + rdSC (b.drop j)) := by rw [rdS_snd, List.drop_drop, List.length_drop]
      refine V.drawQ mixed (by kernel_rfl) ?_
      refine V.qloadO T_ok Fk33 rfl rfl rfl rfl rfl ?_
      refine V.qloadO T_ok Fk49 rfl rfl rfl rfl rfl ?_
      refine V.qstep rfl rfl (fun _ _ => V.neA_run rfl rfl rfl eqG23 (eqS23 _)) ?_
      refine V.qrun T_ok 1 rfl ?_
      refine V.qsplitF (j := 3) (t := 46) rfl rfl (by (simp)) ?_
      refine V.qrun T_ok 5 rfl ?_
      refine V.qsplitF (j := 8) (t := 51) rfl rfl (by (simp)) ?_
      refine V.qrun T_ok 1 rfl ?_
      refine V.qyes rfl rfl rfl ?_
      refine V.qcall V.clo (fun w1 g => V.Meets.gr' (rd_left (F28.gr g))) rfl rfl rfl ?_
      refine V.qrun T_ok 5 rfl ?_
      refine V.qyes rfl rfl rfl ?_
      refine V.qloadO T_ok F63 rfl rfl rfl rfl rfl ?_
      refine V.qyes rfl rfl rfl ?_
      refine V.qsubN rfl rfl rfl rfl rfl (by first | omega | (simp only [List.length_take, List.length_drop, List.length_append, List.length_cons, List.length_nil, List.length_replicate, List.length_set, V.length_data, V.S_size]; omega)) (by first | omega | (simp only [List.length_take, List.length_drop, List.length_append, List.length_cons, List.length_nil, List.length_replicate, List.length_set, V.length_data, V.S_size]; omega)) ?_
      refine V.qrun T_ok 2 rfl ?_
      refine V.qnil ?_
      rintro w64 G65
      have z66 := V.Fr.size G65
      try replace F_b := F_b.gr G65
      try replace Fk2 := Fk2.gr G65
      try replace F28 := F28.gr G65
      try replace Fk33 := Fk33.gr G65
      try replace F44 := F44.gr G65
      try replace Fk49 := Fk49.gr G65
      try replace F62 := F62.gr G65
      try replace F63 := F63.gr G65
      replace HG := HG.grow G65
      clear G65
      refine V.tN ?_
      refine V.condN rfl (by (simp; omega)) ?_
      refine V.skip ?_
      refine V.bN ?_
      refine V.tN ?_
      refine V.region ?_
      refine V.run T_ok 1 rfl ?_
      refine V.addN rfl rfl rfl rfl rfl (by first | omega | (simp only [List.length_take, List.length_drop, List.length_append, List.length_cons, List.length_nil, List.length_replicate, List.length_set, V.length_data, V.S_size]; omega)) (by first | omega | (simp only [List.length_take, List.length_drop, List.length_append, List.length_cons, List.length_nil, List.length_replicate, List.length_set, V.length_data, V.S_size]; omega)) ?_
      refine V.run T_ok 1 rfl ?_
      refine V.nil ?_
      refine V.tN ?_
      have hr67 : (rdS (b.drop j)).2 = b.drop (j + rdSC (b.drop j)) := by rw [rdS_snd, List.drop_drop]
      rw [hr67] at F28
      clear hr67
      
      exact ⟨_, (by omega), HG, (by omega), F_b, Fk2, (j + rdSC (b.drop j)), (bad || decide ((rdS (b.drop j)).1.2 ≠ 0)), (i + 1), rfl, (by omega), (by omega), (by first | exact F28 | exact F28.mono (fun _ h => h.1) (by intro h; omega)), (by first | exact F44 | exact F44.mono (fun _ h => h.1) (by intro h; omega)), rfl, rfl, rfl, rfl, rfl, rfl⟩
    ·
      try simp only [decide_eq_true_eq, decide_eq_false_iff_not, Bool.or_eq_true, Bool.and_eq_true, Bool.or_eq_false_iff, Bool.and_eq_false_iff, Bool.not_eq_true', Bool.not_eq_false', Int.not_lt, Int.not_le, Decidable.not_not, V.u8eq, V.S_inj, V.S_lit, V.S_lit2, V.bl] at h6
      try simp only [V.mk0, V.mk1, V.mk2, V.mk3] at h6
      refine V.exit ?_
      refine V.tX ?_
      refine V.tX ?_
      refine V.bE ?_
      refine V.tN ?_
      refine V.seq ?_
      refine V.region ?_
      refine V.call (sget_nil) rfl rfl rfl ?_
      rintro _ w68 ⟨rfl, G69⟩
      have z70 := V.Fr.size G69
      try replace F_b := F_b.gr G69
      try replace Fk2 := Fk2.gr G69
      try replace F23 := F23.gr G69
      try replace F24 := F24.gr G69
      replace HG := HG.grow G69
      clear G69
      refine V.run T_ok 3 rfl ?_
      refine V.alloc zero23 rfl rfl rfl ?_
      rintro k71 w73 s75 s76 G74 Fk72
      have z77 := V.Fr.size G74
      try replace F_b := F_b.gr G74
      try replace Fk2 := Fk2.gr G74
      try replace F23 := F23.gr G74
      try replace F24 := F24.gr G74
      replace HG := HG.grow G74
      clear G74
      try simp only [V.cellsL, V.spliceL] at Fk72
      refine V.storeO Fk72 rfl rfl rfl rfl sz23 rfl rfl rfl rfl ?_
      rintro w78 G79 z81 Fs80
      clear Fk72
      have z82 := V.Fr.size G79
      first | replace F_b := F_b.mv1 G79 (by first | exact (fun h => by have := hD_b _ h; omega) | omega) | clear F_b | skip
      first | replace Fk2 := Fk2.mv1 G79 (by omega) | clear Fk2 | skip
      first | replace F23 := F23.mv1 G79 (by first | exact ⟨by omega, by assumption⟩ | exact ⟨by omega, fun h => absurd h.1 (by assumption)⟩ | exact ⟨by omega, fun h => absurd h.1.1 (by assumption)⟩ | exact ⟨by omega, fun h => by first | (have h2 := h.1; have h3 := h.2; omega) | (have h2 := h; dsimp only at h2; omega)⟩ | first | omega | exact fun h => h | exact ⟨by omega, fun h => h⟩ | (intro h; first | (have := hD_b _ h; omega)) | (refine ⟨by omega, ?_⟩; intro h; first | (have := hD_b _ h; omega))) | clear F23 | skip
      first | replace F24 := F24.mv1 G79 (by first | exact ⟨by omega, by assumption⟩ | exact ⟨by omega, fun h => absurd h.1 (by assumption)⟩ | exact ⟨by omega, fun h => absurd h.1.1 (by assumption)⟩ | exact ⟨by omega, fun h => by first | (have h2 := h.1; have h3 := h.2; omega) | (have h2 := h; dsimp only at h2; omega)⟩ | first | omega | exact fun h => h | exact ⟨by omega, fun h => h⟩ | (intro h; first | (have := hD_b _ h; omega)) | (refine ⟨by omega, ?_⟩; intro h; first | (have := hD_b _ h; omega))) | clear F24 | skip
      replace HG := HG.new1 G79 (by first | (refine Or.inr ?_; omega) | (refine Or.inl ?_; simp; done))
      clear G79
      have Fk72 := Fs80; clear Fs80
      simp only [V.spliceL, V.cellsL] at Fk72
      refine V.run T_ok 1 rfl ?_
      refine V.nil ?_
      refine V.tN ?_
      refine V.seq ?_
      refine V.drawGT 12 (V.sel [(0, (fun v wz => v = .bool true)), (4, (fun v wz => ∃ (ra8 : Option Addr) (rc8 : Nat), v = .slice ra8 (b ++ stB x y).length rc8 ∧ V.Row V.Cod.byte 5 wz V.None' w78.heap.size wz.heap.size ra8 rc8 (b ++ stB x y))), (9, (fun v wz => ∃ (ra9 : Option Addr) (rc9 : Nat), v = .slice ra9 (stB x y).length rc9 ∧ V.Row V.Cod.byte 5 wz V.None' w78.heap.size wz.heap.size ra9 rc9 (stB x y)))]) mixed (by kernel_rfl) (V.mono_cons V.eqV_mono (V.mono_cons (by rintro v wz wz' g ⟨ra8, rc8, rfl, rF8⟩; exact ⟨ra8, rc8, rfl, (by first | exact (rF8.gr g).mono (V.In.sub (Nat.le_refl _) g.size) | exact rF8.gr g | exact (rF8.gr g).mono (fun _ h => h) (Nat.le_refl _) g.size | exact (rF8.gr g).mono (fun k h => ⟨h.1, Nat.lt_of_lt_of_le h.2 g.size⟩))⟩) (V.mono_cons (by rintro v wz wz' g ⟨ra9, rc9, rfl, rF9⟩; exact ⟨ra9, rc9, rfl, (by first | exact (rF9.gr g).mono (V.In.sub (Nat.le_refl _) g.size) | exact rF9.gr g | exact (rF9.gr g).mono (fun _ h => h) (Nat.le_refl _) g.size | exact (rF9.gr g).mono (fun k h => ⟨h.1, Nat.lt_of_lt_of_le h.2 g.size⟩))⟩) V.mono_nil))) ?_
      refine V.gcall (fun w' h => alive_spec.mono (by rintro v w'' ⟨rfl, G⟩; exact ⟨rfl, G⟩)) rfl rfl rfl rfl ?_
      rintro _ w83 - - rfl
      refine V.grun T_ok 2 rfl (V.sel_none rfl) ?_
      refine V.gyes rfl rfl rfl ?_
      refine V.gloadO T_ok (fun w' h => Fk2.gr h.1) rfl rfl rfl rfl rfl rfl ?_
      refine V.gyes rfl rfl rfl ?_
      refine V.gcall (fun w' h => (sput_spec (a := x) (b := y) (F_b.gr h.1) (fun k hk => by have := Fr.size h.1; have := hD_b k hk; omega) (by first | omega | (simp only [List.length_take, List.length_drop, List.length_append, List.length_cons, List.length_nil, List.length_replicate, List.length_set, V.length_data, V.S_size]; omega)) (by omega) (by omega)).mono (by rintro v w'' ⟨ra8, rc8, rfl, rF8, G⟩; exact ⟨⟨ra8, rc8, rfl, (by first | exact rF8.mono (V.In.mono_l h.1.size) | exact rF8 | exact rF8.mono (fun _ h => h) h.1.size (Nat.le_refl _))⟩, G⟩)) rfl rfl rfl rfl ?_
      rintro _ w87 - - ⟨a84, c85, rfl, -⟩
      refine V.gyes rfl rfl rfl ?_
      refine V.gtoStr (fun w' h => by obtain ⟨_, _, he, F0⟩ := (V.Hist.here (h.get (i := 4) rfl)); cases he; exact F0.sl.mono (fun _ _ => trivial)) Tryd.underlying37 Tryd.underlying5 Tryd.underlying9 rfl rfl rfl rfl rfl ?_
      refine V.grun T_ok 1 rfl (V.sel_none rfl) ?_
      refine V.gyes rfl rfl rfl ?_
      refine V.gtoStr (fun w' h => F_b.gr h.1) Tryd.underlying37 Tryd.underlying5 Tryd.underlying9 rfl rfl rfl rfl rfl ?_
      refine V.gyes rfl rfl rfl ?_
      refine V.gloadO T_ok (fun w' h => Fk2.gr h.1) rfl rfl rfl rfl rfl rfl ?_
      refine V.gyes rfl rfl rfl ?_
      refine V.gcall (fun w' h => (rsput_spec (a := x) (b := y) (by omega) (by omega)).mono (by rintro v w'' ⟨ra9, rc9, rfl, rF9, G⟩; exact ⟨⟨ra9, rc9, rfl, (by first | exact rF9.mono (V.In.mono_l h.1.size) | exact rF9 | exact rF9.mono (fun _ h => h) h.1.size (Nat.le_refl _))⟩, G⟩)) rfl rfl rfl rfl ?_
      rintro _ w91 - - ⟨a88, c89, rfl, -⟩
      refine V.gyes rfl rfl rfl ?_
      refine V.gtoStr (fun w' h => by obtain ⟨_, _, he, F0⟩ := (V.Hist.here (h.get (i := 9) rfl)); cases he; exact F0.sl.mono (fun _ _ => trivial)) Tryd.underlying37 Tryd.underlying5 Tryd.underlying9 rfl rfl rfl rfl rfl ?_
      refine V.gyes rfl rfl rfl ?_
      refine V.gscat rfl rfl rfl rfl rfl (by simp only [V.S_size]; omega) ?_
      refine V.gnil ?_
      rintro w92 G93 hH94
      have z95 := V.Fr.size G93
      try replace F_b := F_b.gr G93
      try replace Fk2 := Fk2.gr G93
      try replace F23 := F23.gr G93
      try replace F24 := F24.gr G93
      try replace Fk72 := Fk72.gr G93
      replace HG := HG.grow G93
      clear G93
      have F86 : V.Row V.Cod.byte 5 w92 V.None' w78.heap.size w92.heap.size a84 c85 (b ++ stB x y) := by
        obtain ⟨_, _, he, F0⟩ := (V.Hist.here (V.Hist.old (hH94 4)))
        cases he
        exact F0
      have F90 : V.Row V.Cod.byte 5 w92 V.None' w78.heap.size w92.heap.size a88 c89 (stB x y) := by
        obtain ⟨_, _, he, F0⟩ := (V.Hist.here (hH94 9))
        cases he
        exact F0
      clear hH94
      refine V.run T_ok 3 rfl ?_
      refine V.splitT (j := 14) (t := 81) rfl rfl (by (simp [V.S_append])) ?_
      refine V.run T_ok 4 rfl ?_
      refine V.nil ?_
      refine V.tN ?_
      refine V.ret ?_
      refine V.done rfl ?_
      exact ⟨(congrArg Value.bool (by first | rfl | (grind))), HG⟩

set_option maxHeartbeats 4000000 in
set_option maxRecDepth 10000 in
theorem stampBack_walk {w : World}  {x : Int} {y : Int} {D_b : Nat → Prop} {c_b : Nat} {a_b : Option Addr} {b : List UInt8} (F_b : Sl V.Cod.byte w D_b a_b c_b b) (hD_b : ∀ k, D_b k → k < w.heap.size) (hx : x ≤ 9223372036854775807) (hy : y ≤ 9223372036854775807) :
    Meets Tryd.prog 8 [.agg #[.int .i64 x, .int .i64 y], .slice a_b b.length c_b] w fun r w' => r = .bool true ∧ Gr w w' := by
  have hxl := numB_len9 hx
  have hyl := numB_len9 hy
  have hsl : (stB x y).length = (numB x.toNat).length + (numB y.toNat).length := List.length_append
  have HG := V.Fr.refl [] w
  refine V.enter (n := 92) Tryd.func8 rfl rfl (by decide) rfl ?_
  refine V.seq ?_
  refine V.region ?_
  refine V.box rfl rfl rfl rfl ?_
  rintro k1 w3 s5 s6 G4 Fk2
  have z7 := V.Fr.size G4
  try replace F_b := F_b.gr G4
  replace HG := HG.grow G4
  clear G4
  try simp only [V.cellsL, V.spliceL] at Fk2
  refine V.run T_ok 1 rfl ?_
  refine V.nil ?_
  refine V.tN ?_
  refine V.seq ?_
  refine V.seq ?_
  refine V.region ?_
  refine V.run T_ok 3 rfl ?_
  refine V.nil ?_
  refine V.tN ?_
  refine V.condT rfl (fun h1 => ?_) (fun h1 => ?_)
  ·
    try simp only [decide_eq_true_eq, decide_eq_false_iff_not, Bool.or_eq_true, Bool.and_eq_true, Bool.or_eq_false_iff, Bool.and_eq_false_iff, Bool.not_eq_true', Bool.not_eq_false', Int.not_lt, Int.not_le, Decidable.not_not, V.u8eq, V.S_inj, V.S_lit, V.S_lit2, V.bl] at h1
    try simp only [V.mk0, V.mk1, V.mk2, V.mk3] at h1
    refine V.seq ?_
    refine V.region ?_
    refine V.call (alive_spec) rfl rfl rfl ?_
    rintro _ w8 ⟨rfl, G9⟩
    have z10 := V.Fr.size G9
    try replace F_b := F_b.gr G9
    try replace Fk2 := Fk2.gr G9
    replace HG := HG.grow G9
    clear G9
    refine V.run T_ok 1 rfl ?_
    refine V.nil ?_
    refine V.tN ?_
    refine V.ret ?_
    refine V.tR ?_
    refine V.done rfl ?_
    exact ⟨(by first | rfl | simp only [List.length_set]), HG⟩
  ·
    try simp only [decide_eq_true_eq, decide_eq_false_iff_not, Bool.or_eq_true, Bool.and_eq_true, Bool.or_eq_false_iff, Bool.and_eq_false_iff, Bool.not_eq_true', Bool.not_eq_false', Int.not_lt, Int.not_le, Decidable.not_not, V.u8eq, V.S_inj, V.S_lit, V.S_lit2, V.bl] at h1
    try simp only [V.mk0, V.mk1, V.mk2, V.mk3] at h1
    refine V.skip ?_
    refine V.tN ?_
    refine V.seq ?_
    refine V.region ?_
    refine V.loadO T_ok Fk2 rfl rfl rfl rfl rfl ?_
    refine V.call (sput_spec (a := x) (b := y) (Sl.nil _ _ V.None' _ _ (Nat.zero_le _)) (fun _ h => h.elim) (by first | omega | (simp only [List.length_take, List.length_drop, List.length_append, List.length_cons, List.length_nil, List.length_replicate, List.length_set, V.length_data, V.S_size]; omega)) (by omega) (by omega)) rfl rfl rfl ?_
    rintro _ w14 ⟨a11, c12, rfl, F13, G15⟩
    have z16 := V.Fr.size G15
    try replace F_b := F_b.gr G15
    try replace Fk2 := Fk2.gr G15
    replace HG := HG.grow G15
    clear G15
    refine V.run T_ok 1 rfl ?_
    refine V.appendR (F13) (V.From.flat V.flat_byte (D' := V.None') (F_b.from Tryd.underlying37)) elT37_37 rfl rfl rfl rfl rfl (by first | omega | (simp only [List.length_take, List.length_drop, List.length_append, List.length_cons, List.length_nil, List.length_replicate, List.length_set, V.length_data, V.S_size]; omega)) (by unfold maxLen; first | omega | (simp only [List.length_take, List.length_drop, List.length_append, List.length_cons, List.length_nil, List.length_replicate, List.length_set, V.length_data, V.S_size]; omega)) (by omega) (by omega) (fun _ h => h.elim) (fun _ h => h.elim) ?_
    rintro a17 c18 w20 G21 s22 F19
    clear F13
    have z23 := Go.RowKit.Below.size G21
    first | replace F_b := V.Sl.bl F_b G21 (by first | exact (fun _ h => by have := h.2; omega) | (intro k h; have := hD_b k h; omega)) | clear F_b | skip
    first | replace Fk2 := V.Cells.bl Fk2 G21 (by omega) | clear Fk2 | skip
    replace HG := HG.bl (Go.RowKit.Below.mono G21 (by omega))
    clear G21
    refine V.call (p_open F19.sl (fun k hk => by have := hk.2; omega) (by first | omega | (simp only [List.length_take, List.length_drop, List.length_append, List.length_cons, List.length_nil, List.length_replicate, List.length_set, V.length_data, V.S_size]; omega))) rfl rfl rfl ?_
    rintro _ w27 ⟨k24, rfl, ⟨h25l, h25u⟩, F26, G28⟩
    have z29 := V.Fr.size G28
    try replace F_b := F_b.gr G28
    try replace Fk2 := Fk2.gr G28
    try replace F19 := F19.gr G28
    replace HG := HG.grow G28
    clear G28
    refine V.run T_ok 1 rfl ?_
    refine V.nil ?_
    refine V.tN ?_
    refine V.seq ?_
    refine V.region ?_
    refine V.run T_ok 1 rfl ?_
    refine V.call (sget_spec F26) rfl rfl rfl ?_
    rintro _ w31 ⟨rfl, F30, G32⟩
    have z33 := V.Fr.size G32
    first | replace F_b := F_b.mv1 G32 (by first | exact (fun h => by have := hD_b _ h; omega) | omega) | clear F_b | skip
    first | replace Fk2 := Fk2.mv1 G32 (by omega) | clear Fk2 | skip
    first | replace F19 := F19.mv1 G32 (by first | exact ⟨fun h => h, fun h => by have := h.1; have := h.2; omega⟩ | omega) | clear F19 | skip
    first | replace F26 := F26.mv1 G32 (by first | exact ⟨by omega, by assumption⟩ | exact ⟨by omega, fun h => absurd h.1 (by assumption)⟩ | exact ⟨by omega, fun h => absurd h.1.1 (by assumption)⟩ | exact ⟨by omega, fun h => by first | (have h2 := h.1; have h3 := h.2; omega) | (have h2 := h; dsimp only at h2; omega)⟩ | first | omega | exact fun h => h | exact ⟨by omega, fun h => h⟩ | (intro h; first | (have := hD_b _ h; omega)) | (refine ⟨by omega, ?_⟩; intro h; first | (have := hD_b _ h; omega))) | clear F26 | skip
    replace HG := HG.new1 G32 (by first | (refine Or.inr ?_; omega) | (refine Or.inl ?_; simp; done))
    clear G32
    refine V.run T_ok 3 rfl ?_
    refine V.alloc zero23 rfl rfl rfl ?_
    rintro k34 w36 s38 s39 G37 Fk35
    have z40 := V.Fr.size G37
    try replace F_b := F_b.gr G37
    try replace Fk2 := Fk2.gr G37
    try replace F19 := F19.gr G37
    try replace F30 := F30.gr G37
    replace HG := HG.grow G37
    clear G37
    try simp only [V.cellsL, V.spliceL] at Fk35
    refine V.storeO Fk35 rfl rfl rfl rfl sz23 rfl rfl rfl rfl ?_
    rintro w41 G42 z44 Fs43
    clear Fk35
    have z45 := V.Fr.size G42
    first | replace F_b := F_b.mv1 G42 (by first | exact (fun h => by have := hD_b _ h; omega) | omega) | clear F_b | skip
    first | replace Fk2 := Fk2.mv1 G42 (by omega) | clear Fk2 | skip
    first | replace F19 := F19.mv1 G42 (by first | exact ⟨fun h => h, fun h => by have := h.1; have := h.2; omega⟩ | omega) | clear F19 | skip
    first | replace F30 := F30.mv1 G42 (by first | exact ⟨by omega, by assumption⟩ | exact ⟨by omega, fun h => absurd h.1 (by assumption)⟩ | exact ⟨by omega, fun h => absurd h.1.1 (by assumption)⟩ | exact ⟨by omega, fun h => by first | (have h2 := h.1; have h3 := h.2; omega) | (have h2 := h; dsimp only at h2; omega)⟩ | first | omega | exact fun h => h | exact ⟨by omega, fun h => h⟩ | (intro h; first | (have := hD_b _ h; omega)) | (refine ⟨by omega, ?_⟩; intro h; first | (have := hD_b _ h; omega))) | clear F30 | skip
    replace HG := HG.new1 G42 (by first | (refine Or.inr ?_; omega) | (refine Or.inl ?_; simp; done))
    clear G42
    have Fk35 := Fs43; clear Fs43
    simp only [V.spliceL, V.cellsL] at Fk35
    refine V.run T_ok 1 rfl ?_
    refine V.nil ?_
    refine V.tN ?_
    refine V.seq ?_
    refine V.seq ?_
    refine V.region ?_
    refine V.loadO T_ok Fk2 rfl rfl rfl rfl rfl ?_
    refine V.call (right_spec (a := x) (b := y)) rfl rfl rfl ?_
    rintro _ w46 ⟨rfl, G47⟩
    have z48 := V.Fr.size G47
    try replace F_b := F_b.gr G47
    try replace Fk2 := Fk2.gr G47
    try replace F19 := F19.gr G47
    try replace F30 := F30.gr G47
    try replace Fk35 := Fk35.gr G47
    replace HG := HG.grow G47
    clear G47
    refine V.run T_ok 1 rfl ?_
    refine V.split (j := 2) (t := 28) rfl rfl (fun g5_2 => ?_) (fun g5_2 => ?_)
    ·
      try simp only [decide_eq_true_eq, decide_eq_false_iff_not, Bool.or_eq_true, Bool.and_eq_true, Bool.or_eq_false_iff, Bool.and_eq_false_iff, Bool.not_eq_true', Bool.not_eq_false', Int.not_lt, Int.not_le, Decidable.not_not, V.u8eq, V.S_inj, V.S_lit, V.S_lit2, V.bl] at g5_2
      try simp only [V.mk0, V.mk1, V.mk2, V.mk3] at g5_2
      have hq : rdS ([] ++ stB x y ++ b) = (((x, y), 0), b) := rdS_stB g5_2 b
      refine V.run T_ok 3 rfl ?_
      refine V.splitF (j := 5) (t := 31) rfl rfl (by (rw [hq]; simp)) ?_
      refine V.yes rfl rfl rfl ?_
      refine V.loadO T_ok Fk35 rfl rfl rfl rfl rfl ?_
      refine V.yes rfl rfl rfl ?_
      refine V.loadO T_ok Fk2 rfl rfl rfl rfl rfl ?_
      refine V.yes rfl rfl rfl ?_
      refine V.step rfl rfl (V.neA_run rfl rfl rfl eqG23 (eqS23 _)) ?_
      refine V.run T_ok 2 rfl ?_
      refine V.splitF (j := 10) (t := 36) rfl rfl (by (rw [hq]; simp)) ?_
      refine V.run T_ok 1 rfl ?_
      refine V.yes rfl rfl rfl ?_
      refine V.call (rd_left F30) rfl rfl rfl ?_
      rintro _ w46_ ⟨rfl, rfl⟩
      refine V.run T_ok 5 rfl ?_
      refine V.nil ?_
      refine V.tN ?_
      refine V.condN rfl (by (first | rfl | (rw [hq]; simp))) ?_
      refine V.skip ?_
      refine V.tN ?_
      refine V.seq ?_
      refine V.region ?_
      refine V.run T_ok 1 rfl ?_
      refine V.call (p_open F_b (fun k hk => by have := hD_b k hk; omega) (by first | omega | (simp only [List.length_take, List.length_drop, List.length_append, List.length_cons, List.length_nil, List.length_replicate, List.length_set, V.length_data, V.S_size]; omega))) rfl rfl rfl ?_
      rintro _ w53 ⟨k50, rfl, ⟨h51l, h51u⟩, F52, G54⟩
      have z55 := V.Fr.size G54
      try replace F_b := F_b.gr G54
      try replace Fk2 := Fk2.gr G54
      try replace F19 := F19.gr G54
      try replace F30 := F30.gr G54
      try replace Fk35 := Fk35.gr G54
      replace HG := HG.grow G54
      clear G54
      refine V.run T_ok 1 rfl ?_
      refine V.nil ?_
      refine V.tN ?_
      refine V.seq ?_
      refine V.region ?_
      refine V.run T_ok 1 rfl ?_
      refine V.call (sget_spec F52) rfl rfl rfl ?_
      rintro _ w57 ⟨rfl, F56, G58⟩
      have z59 := V.Fr.size G58
      first | replace F_b := F_b.mv1 G58 (by first | exact (fun h => by have := hD_b _ h; omega) | omega) | clear F_b | skip
      first | replace Fk2 := Fk2.mv1 G58 (by omega) | clear Fk2 | skip
      first | replace F19 := F19.mv1 G58 (by first | exact ⟨fun h => h, fun h => by have := h.1; have := h.2; omega⟩ | omega) | clear F19 | skip
      first | replace F30 := F30.mv1 G58 (by first | exact ⟨by omega, by assumption⟩ | exact ⟨by omega, fun h => absurd h.1 (by assumption)⟩ | exact ⟨by omega, fun h => absurd h.1.1 (by assumption)⟩ | exact ⟨by omega, fun h => by first | (have h2 := h.1; have h3 := h.2; omega) | (have h2 := h; dsimp only at h2; omega)⟩ | first | omega | exact fun h => h | exact ⟨by omega, fun h => h⟩ | (intro h; first | (have := hD_b _ h; omega)) | (refine ⟨by omega, ?_⟩; intro h; first | (have := hD_b _ h; omega))) | clear F30 | skip
      first | replace Fk35 := Fk35.mv1 G58 (by omega) | clear Fk35 | skip
      first | replace F52 := F52.mv1 G58 (by first | exact ⟨by omega, by assumption⟩ | exact ⟨by omega, fun h => absurd h.1 (by assumption)⟩ | exact ⟨by omega, fun h => absurd h.1.1 (by assumption)⟩ | exact ⟨by omega, fun h => by first | (have h2 := h.1; have h3 := h.2; omega) | (have h2 := h; dsimp only at h2; omega)⟩ | first | omega | exact fun h => h | exact ⟨by omega, fun h => h⟩ | (intro h; first | (have := hD_b _ h; omega)) | (refine ⟨by omega, ?_⟩; intro h; first | (have := hD_b _ h; omega))) | clear F52 | skip
      replace HG := HG.new1 G58 (by first | (refine Or.inr ?_; omega) | (refine Or.inl ?_; simp; done))
      clear G58
      refine V.run T_ok 3 rfl ?_
      refine V.alloc zero23 rfl rfl rfl ?_
      rintro k60 w62 s64 s65 G63 Fk61
      have z66 := V.Fr.size G63
      try replace F_b := F_b.gr G63
      try replace Fk2 := Fk2.gr G63
      try replace F19 := F19.gr G63
      try replace F30 := F30.gr G63
      try replace Fk35 := Fk35.gr G63
      try replace F56 := F56.gr G63
      replace HG := HG.grow G63
      clear G63
      try simp only [V.cellsL, V.spliceL] at Fk61
      refine V.storeO Fk61 rfl rfl rfl rfl sz23 rfl rfl rfl rfl ?_
      rintro w67 G68 z70 Fs69
      clear Fk61
      have z71 := V.Fr.size G68
      first | replace F_b := F_b.mv1 G68 (by first | exact (fun h => by have := hD_b _ h; omega) | omega) | clear F_b | skip
      first | replace Fk2 := Fk2.mv1 G68 (by omega) | clear Fk2 | skip
      first | replace F19 := F19.mv1 G68 (by first | exact ⟨fun h => h, fun h => by have := h.1; have := h.2; omega⟩ | omega) | clear F19 | skip
      first | replace F30 := F30.mv1 G68 (by first | exact ⟨by omega, by assumption⟩ | exact ⟨by omega, fun h => absurd h.1 (by assumption)⟩ | exact ⟨by omega, fun h => absurd h.1.1 (by assumption)⟩ | exact ⟨by omega, fun h => by first | (have h2 := h.1; have h3 := h.2; omega) | (have h2 := h; dsimp only at h2; omega)⟩ | first | omega | exact fun h => h | exact ⟨by omega, fun h => h⟩ | (intro h; first | (have := hD_b _ h; omega)) | (refine ⟨by omega, ?_⟩; intro h; first | (have := hD_b _ h; omega))) | clear F30 | skip
      first | replace Fk35 := Fk35.mv1 G68 (by omega) | clear Fk35 | skip
      first | replace F56 := F56.mv1 G68 (by first | exact ⟨by omega, by assumption⟩ | exact ⟨by omega, fun h => absurd h.1 (by assumption)⟩ | exact ⟨by omega, fun h => absurd h.1.1 (by assumption)⟩ | exact ⟨by omega, fun h => by first | (have h2 := h.1; have h3 := h.2; omega) | (have h2 := h; dsimp only at h2; omega)⟩ | first | omega | exact fun h => h | exact ⟨by omega, fun h => h⟩ | (intro h; first | (have := hD_b _ h; omega)) | (refine ⟨by omega, ?_⟩; intro h; first | (have := hD_b _ h; omega))) | clear F56 | skip
      replace HG := HG.new1 G68 (by first | (refine Or.inr ?_; omega) | (refine Or.inl ?_; simp; done))
      clear G68
      have Fk61 := Fs69; clear Fs69
      simp only [V.spliceL, V.cellsL] at Fk61
      refine V.run T_ok 1 rfl ?_
      refine V.nil ?_
      refine V.tN ?_
      refine V.seq ?_
      refine V.seq ?_
      refine V.region ?_
      refine V.run T_ok 2 rfl ?_
      refine V.nil ?_
      refine V.tN ?_
      refine V.condT rfl (fun h9 => ?_) (fun h9 => ?_)
      ·
        try simp only [decide_eq_true_eq, decide_eq_false_iff_not, Bool.or_eq_true, Bool.and_eq_true, Bool.or_eq_false_iff, Bool.and_eq_false_iff, Bool.not_eq_true', Bool.not_eq_false', Int.not_lt, Int.not_le, Decidable.not_not, V.u8eq, V.S_inj, V.S_lit, V.S_lit2, V.bl] at h9
        try simp only [V.mk0, V.mk1, V.mk2, V.mk3] at h9
        have hb := rdS_bad h9
        refine V.seq ?_
        refine V.region ?_
        refine V.call (alive_spec) rfl rfl rfl ?_
        rintro _ w72 ⟨rfl, G73⟩
        have z74 := V.Fr.size G73
        try replace F_b := F_b.gr G73
        try replace Fk2 := Fk2.gr G73
        try replace F19 := F19.gr G73
        try replace F30 := F30.gr G73
        try replace Fk35 := Fk35.gr G73
        try replace F56 := F56.gr G73
        try replace Fk61 := Fk61.gr G73
        replace HG := HG.grow G73
        clear G73
        refine V.run T_ok 5 rfl ?_
        refine V.splitT (j := 5) (t := 58) rfl rfl (by (simp [hb])) ?_
        refine V.run T_ok 1 rfl ?_
        refine V.yes rfl rfl rfl ?_
        refine V.call (rd_left F56) rfl rfl rfl ?_
        rintro _ w72_ ⟨rfl, rfl⟩
        refine V.run T_ok 5 rfl ?_
        refine V.nil ?_
        refine V.tN ?_
        refine V.ret ?_
        refine V.tR ?_
        refine V.done rfl ?_
        exact ⟨congrArg Value.bool (by simp [hb]), HG⟩
      ·
        try simp only [decide_eq_true_eq, decide_eq_false_iff_not, Bool.or_eq_true, Bool.and_eq_true, Bool.or_eq_false_iff, Bool.and_eq_false_iff, Bool.not_eq_true', Bool.not_eq_false', Int.not_lt, Int.not_le, Decidable.not_not, V.u8eq, V.S_inj, V.S_lit, V.S_lit2, V.bl] at h9
        try simp only [V.mk0, V.mk1, V.mk2, V.mk3] at h9
        obtain ⟨x2, y2, r2, e2, ⟨q1, q2, q3, q4⟩, n2⟩ := rdS_ok h9
        have hx2 : (rdS b).1.1.1 = x2 := by rw [n2]
        have hy2 : (rdS b).1.1.2 = y2 := by rw [n2]
        have hl2 := congrArg List.length e2
        rw [List.length_append] at hl2
        have hcl : ([] ++ stB (rdS b).1.1.1 (rdS b).1.1.2).length = (stB x2 y2).length := by rw [hx2, hy2]; rfl
        have hrl : (rdS b).2.length = r2.length := by rw [n2]
        refine V.skip ?_
        refine V.tN ?_
        refine V.seq ?_
        refine V.region ?_
        refine V.loadO T_ok Fk61 rfl rfl rfl rfl rfl ?_
        refine V.call (sput_spec (a := (((rdS b).1.1).1)) (b := (((rdS b).1.1).2)) (Sl.nil _ _ V.None' _ _ (Nat.zero_le _)) (fun _ h => h.elim) (by first | omega | (simp only [List.length_take, List.length_drop, List.length_append, List.length_cons, List.length_nil, List.length_replicate, List.length_set, V.length_data, V.S_size]; omega)) (by omega) (by omega)) rfl rfl rfl ?_
        rintro _ w79 ⟨a76, c77, rfl, F78, G80⟩
        have z81 := V.Fr.size G80
        try replace F_b := F_b.gr G80
        try replace Fk2 := Fk2.gr G80
        try replace F19 := F19.gr G80
        try replace F30 := F30.gr G80
        try replace Fk35 := Fk35.gr G80
        try replace F56 := F56.gr G80
        try replace Fk61 := Fk61.gr G80
        replace HG := HG.grow G80
        clear G80
        refine V.run T_ok 1 rfl ?_
        refine V.nil ?_
        refine V.tN ?_
        refine V.seq ?_
        refine V.drawQ mixed (by kernel_rfl) ?_
        refine V.qcall V.clo (fun w1 g => (alive_spec)) rfl rfl rfl ?_
        refine V.qrun T_ok 1 rfl ?_
        refine V.qyes rfl rfl rfl ?_
        refine V.qloadO T_ok Fk61 rfl rfl rfl rfl rfl ?_
        refine V.qyes rfl rfl rfl ?_
        refine V.qcall V.clo (fun w1 g => (right_spec (a := (((rdS b).1.1).1)) (b := (((rdS b).1.1).2)))) rfl rfl rfl ?_
        refine V.qrun T_ok 2 rfl ?_
        refine V.qsplitT (j := 5) (t := 72) rfl rfl (by (apply decide_eq_true; omega)) ?_
        refine V.qrun T_ok 5 rfl ?_
        refine V.qyes rfl rfl rfl ?_
        refine V.qcall V.clo (fun w1 g => V.Meets.gr' (rd_left (F56.gr g))) rfl rfl rfl ?_
        refine V.qyes rfl rfl rfl ?_
        refine V.qsubN rfl rfl rfl rfl rfl (by first | omega | (simp only [List.length_take, List.length_drop, List.length_append, List.length_cons, List.length_nil, List.length_replicate, List.length_set, V.length_data, V.S_size]; omega)) (by first | omega | (simp only [List.length_take, List.length_drop, List.length_append, List.length_cons, List.length_nil, List.length_replicate, List.length_set, V.length_data, V.S_size]; omega)) ?_
        refine V.qrun T_ok 3 rfl ?_
        refine V.qsplitT (j := 15) (t := 82) rfl rfl (by (apply decide_eq_true; omega)) ?_
        refine V.qrun T_ok 1 rfl ?_
        refine V.qyes rfl rfl rfl ?_
        refine V.qtoStr F78.sl Tryd.underlying37 Tryd.underlying5 Tryd.underlying9 rfl rfl rfl rfl ?_
        refine V.qrun T_ok 3 rfl ?_
        refine V.qyes rfl rfl rfl ?_
        refine V.qcutL T_ok F_b rfl rfl sz5 rfl rfl rfl rfl (by first | omega | (simp only [List.length_take, List.length_drop, List.length_append, List.length_cons, List.length_nil, List.length_replicate, List.length_set, V.length_data, V.S_size]; omega)) (by first | omega | (simp only [List.length_take, List.length_drop, List.length_append, List.length_cons, List.length_nil, List.length_replicate, List.length_set, V.length_data, V.S_size]; omega)) (fun a82 F84 => ?_)
        refine V.qyes rfl rfl rfl ?_
        refine V.qtoStr F84 Tryd.underlying37 Tryd.underlying5 Tryd.underlying9 rfl rfl rfl rfl ?_
        refine V.qrun T_ok 3 rfl ?_
        refine V.qnil ?_
        rintro w85 G86
        have z87 := V.Fr.size G86
        try replace F_b := F_b.gr G86
        try replace Fk2 := Fk2.gr G86
        try replace F19 := F19.gr G86
        try replace F30 := F30.gr G86
        try replace Fk35 := Fk35.gr G86
        try replace F56 := F56.gr G86
        try replace Fk61 := Fk61.gr G86
        try replace F78 := F78.gr G86
        try replace F84 := F84.gr G86
        replace HG := HG.grow G86
        clear G86
        refine V.tN ?_
        refine V.ret ?_
        refine V.done rfl ?_
        exact ⟨congrArg Value.bool (by apply decide_eq_true; rw [V.S_inj, hx2, hy2]; conv => { rhs; rw [e2] }; simp), HG⟩
    ·
      try simp only [decide_eq_true_eq, decide_eq_false_iff_not, Bool.or_eq_true, Bool.and_eq_true, Bool.or_eq_false_iff, Bool.and_eq_false_iff, Bool.not_eq_true', Bool.not_eq_false', Int.not_lt, Int.not_le, Decidable.not_not, V.u8eq, V.S_inj, V.S_lit, V.S_lit2, V.bl] at g5_2
      try simp only [V.mk0, V.mk1, V.mk2, V.mk3] at g5_2
      refine V.run T_ok 15 rfl ?_
      refine V.nil ?_
      refine V.tN ?_
      refine V.condN rfl (by (first | rfl | (rw [hq]; simp))) ?_
      refine V.skip ?_
      refine V.tN ?_
      refine V.seq ?_
      refine V.region ?_
      refine V.run T_ok 1 rfl ?_
      refine V.call (p_open F_b (fun k hk => by have := hD_b k hk; omega) (by first | omega | (simp only [List.length_take, List.length_drop, List.length_append, List.length_cons, List.length_nil, List.length_replicate, List.length_set, V.length_data, V.S_size]; omega))) rfl rfl rfl ?_
      rintro _ w91 ⟨k88, rfl, ⟨h89l, h89u⟩, F90, G92⟩
      have z93 := V.Fr.size G92
      try replace F_b := F_b.gr G92
      try replace Fk2 := Fk2.gr G92
      try replace F19 := F19.gr G92
      try replace F30 := F30.gr G92
      try replace Fk35 := Fk35.gr G92
      replace HG := HG.grow G92
      clear G92
      refine V.run T_ok 1 rfl ?_
      refine V.nil ?_
      refine V.tN ?_
      refine V.seq ?_
      refine V.region ?_
      refine V.run T_ok 1 rfl ?_
      refine V.call (sget_spec F90) rfl rfl rfl ?_
      rintro _ w95 ⟨rfl, F94, G96⟩
      have z97 := V.Fr.size G96
      first | replace F_b := F_b.mv1 G96 (by first | exact (fun h => by have := hD_b _ h; omega) | omega) | clear F_b | skip
      first | replace Fk2 := Fk2.mv1 G96 (by omega) | clear Fk2 | skip
      first | replace F19 := F19.mv1 G96 (by first | exact ⟨fun h => h, fun h => by have := h.1; have := h.2; omega⟩ | omega) | clear F19 | skip
      first | replace F30 := F30.mv1 G96 (by first | exact ⟨by omega, by assumption⟩ | exact ⟨by omega, fun h => absurd h.1 (by assumption)⟩ | exact ⟨by omega, fun h => absurd h.1.1 (by assumption)⟩ | exact ⟨by omega, fun h => by first | (have h2 := h.1; have h3 := h.2; omega) | (have h2 := h; dsimp only at h2; omega)⟩ | first | omega | exact fun h => h | exact ⟨by omega, fun h => h⟩ | (intro h; first | (have := hD_b _ h; omega)) | (refine ⟨by omega, ?_⟩; intro h; first | (have := hD_b _ h; omega))) | clear F30 | skip
      first | replace Fk35 := Fk35.mv1 G96 (by omega) | clear Fk35 | skip
      first | replace F90 := F90.mv1 G96 (by first | exact ⟨by omega, by assumption⟩ | exact ⟨by omega, fun h => absurd h.1 (by assumption)⟩ | exact ⟨by omega, fun h => absurd h.1.1 (by assumption)⟩ | exact ⟨by omega, fun h => by first | (have h2 := h.1; have h3 := h.2; omega) | (have h2 := h; dsimp only at h2; omega)⟩ | first | omega | exact fun h => h | exact ⟨by omega, fun h => h⟩ | (intro h; first | (have := hD_b _ h; omega)) | (refine ⟨by omega, ?_⟩; intro h; first | (have := hD_b _ h; omega))) | clear F90 | skip
      replace HG := HG.new1 G96 (by first | (refine Or.inr ?_; omega) | (refine Or.inl ?_; simp; done))
      clear G96
      refine V.run T_ok 3 rfl ?_
      refine V.alloc zero23 rfl rfl rfl ?_
      rintro k98 w100 s102 s103 G101 Fk99
      have z104 := V.Fr.size G101
      try replace F_b := F_b.gr G101
      try replace Fk2 := Fk2.gr G101
      try replace F19 := F19.gr G101
      try replace F30 := F30.gr G101
      try replace Fk35 := Fk35.gr G101
      try replace F94 := F94.gr G101
      replace HG := HG.grow G101
      clear G101
      try simp only [V.cellsL, V.spliceL] at Fk99
      refine V.storeO Fk99 rfl rfl rfl rfl sz23 rfl rfl rfl rfl ?_
      rintro w105 G106 z108 Fs107
      clear Fk99
      have z109 := V.Fr.size G106
      first | replace F_b := F_b.mv1 G106 (by first | exact (fun h => by have := hD_b _ h; omega) | omega) | clear F_b | skip
      first | replace Fk2 := Fk2.mv1 G106 (by omega) | clear Fk2 | skip
      first | replace F19 := F19.mv1 G106 (by first | exact ⟨fun h => h, fun h => by have := h.1; have := h.2; omega⟩ | omega) | clear F19 | skip
      first | replace F30 := F30.mv1 G106 (by first | exact ⟨by omega, by assumption⟩ | exact ⟨by omega, fun h => absurd h.1 (by assumption)⟩ | exact ⟨by omega, fun h => absurd h.1.1 (by assumption)⟩ | exact ⟨by omega, fun h => by first | (have h2 := h.1; have h3 := h.2; omega) | (have h2 := h; dsimp only at h2; omega)⟩ | first | omega | exact fun h => h | exact ⟨by omega, fun h => h⟩ | (intro h; first | (have := hD_b _ h; omega)) | (refine ⟨by omega, ?_⟩; intro h; first | (have := hD_b _ h; omega))) | clear F30 | skip
      first | replace Fk35 := Fk35.mv1 G106 (by omega) | clear Fk35 | skip
      first | replace F94 := F94.mv1 G106 (by first | exact ⟨by omega, by assumption⟩ | exact ⟨by omega, fun h => absurd h.1 (by assumption)⟩ | exact ⟨by omega, fun h => absurd h.1.1 (by assumption)⟩ | exact ⟨by omega, fun h => by first | (have h2 := h.1; have h3 := h.2; omega) | (have h2 := h; dsimp only at h2; omega)⟩ | first | omega | exact fun h => h | exact ⟨by omega, fun h => h⟩ | (intro h; first | (have := hD_b _ h; omega)) | (refine ⟨by omega, ?_⟩; intro h; first | (have := hD_b _ h; omega))) | clear F94 | skip
      replace HG := HG.new1 G106 (by first | (refine Or.inr ?_; omega) | (refine Or.inl ?_; simp; done))
      clear G106
      have Fk99 := Fs107; clear Fs107
      simp only [V.spliceL, V.cellsL] at Fk99
      refine V.run T_ok 1 rfl ?_
      refine V.nil ?_
      refine V.tN ?_
      refine V.seq ?_
      refine V.seq ?_
      refine V.region ?_
      refine V.run T_ok 2 rfl ?_
      refine V.nil ?_
      refine V.tN ?_
      refine V.condT rfl (fun h9 => ?_) (fun h9 => ?_)
      ·
        try simp only [decide_eq_true_eq, decide_eq_false_iff_not, Bool.or_eq_true, Bool.and_eq_true, Bool.or_eq_false_iff, Bool.and_eq_false_iff, Bool.not_eq_true', Bool.not_eq_false', Int.not_lt, Int.not_le, Decidable.not_not, V.u8eq, V.S_inj, V.S_lit, V.S_lit2, V.bl] at h9
        try simp only [V.mk0, V.mk1, V.mk2, V.mk3] at h9
        have hb := rdS_bad h9
        refine V.seq ?_
        refine V.region ?_
        refine V.call (alive_spec) rfl rfl rfl ?_
        rintro _ w110 ⟨rfl, G111⟩
        have z112 := V.Fr.size G111
        try replace F_b := F_b.gr G111
        try replace Fk2 := Fk2.gr G111
        try replace F19 := F19.gr G111
        try replace F30 := F30.gr G111
        try replace Fk35 := Fk35.gr G111
        try replace F94 := F94.gr G111
        try replace Fk99 := Fk99.gr G111
        replace HG := HG.grow G111
        clear G111
        refine V.run T_ok 5 rfl ?_
        refine V.splitT (j := 5) (t := 58) rfl rfl (by (simp [hb])) ?_
        refine V.run T_ok 1 rfl ?_
        refine V.yes rfl rfl rfl ?_
        refine V.call (rd_left F94) rfl rfl rfl ?_
        rintro _ w110_ ⟨rfl, rfl⟩
        refine V.run T_ok 5 rfl ?_
        refine V.nil ?_
        refine V.tN ?_
        refine V.ret ?_
        refine V.tR ?_
        refine V.done rfl ?_
        exact ⟨congrArg Value.bool (by simp [hb]), HG⟩
      ·
        try simp only [decide_eq_true_eq, decide_eq_false_iff_not, Bool.or_eq_true, Bool.and_eq_true, Bool.or_eq_false_iff, Bool.and_eq_false_iff, Bool.not_eq_true', Bool.not_eq_false', Int.not_lt, Int.not_le, Decidable.not_not, V.u8eq, V.S_inj, V.S_lit, V.S_lit2, V.bl] at h9
        try simp only [V.mk0, V.mk1, V.mk2, V.mk3] at h9
        obtain ⟨x2, y2, r2, e2, ⟨q1, q2, q3, q4⟩, n2⟩ := rdS_ok h9
        have hx2 : (rdS b).1.1.1 = x2 := by rw [n2]
        have hy2 : (rdS b).1.1.2 = y2 := by rw [n2]
        have hl2 := congrArg List.length e2
        rw [List.length_append] at hl2
        have hcl : ([] ++ stB (rdS b).1.1.1 (rdS b).1.1.2).length = (stB x2 y2).length := by rw [hx2, hy2]; rfl
        have hrl : (rdS b).2.length = r2.length := by rw [n2]
        refine V.skip ?_
        refine V.tN ?_
        refine V.seq ?_
        refine V.region ?_
        refine V.loadO T_ok Fk99 rfl rfl rfl rfl rfl ?_
        refine V.call (sput_spec (a := (((rdS b).1.1).1)) (b := (((rdS b).1.1).2)) (Sl.nil _ _ V.None' _ _ (Nat.zero_le _)) (fun _ h => h.elim) (by first | omega | (simp only [List.length_take, List.length_drop, List.length_append, List.length_cons, List.length_nil, List.length_replicate, List.length_set, V.length_data, V.S_size]; omega)) (by omega) (by omega)) rfl rfl rfl ?_
        rintro _ w117 ⟨a114, c115, rfl, F116, G118⟩
        have z119 := V.Fr.size G118
        try replace F_b := F_b.gr G118
        try replace Fk2 := Fk2.gr G118
        try replace F19 := F19.gr G118
        try replace F30 := F30.gr G118
        try replace Fk35 := Fk35.gr G118
        try replace F94 := F94.gr G118
        try replace Fk99 := Fk99.gr G118
        replace HG := HG.grow G118
        clear G118
        refine V.run T_ok 1 rfl ?_
        refine V.nil ?_
        refine V.tN ?_
        refine V.seq ?_
        refine V.drawQ mixed (by kernel_rfl) ?_
        refine V.qcall V.clo (fun w1 g => (alive_spec)) rfl rfl rfl ?_
        refine V.qrun T_ok 1 rfl ?_
        refine V.qyes rfl rfl rfl ?_
        refine V.qloadO T_ok Fk99 rfl rfl rfl rfl rfl ?_
        refine V.qyes rfl rfl rfl ?_
        refine V.qcall V.clo (fun w1 g => (right_spec (a := (((rdS b).1.1).1)) (b := (((rdS b).1.1).2)))) rfl rfl rfl ?_
        refine V.qrun T_ok 2 rfl ?_
        refine V.qsplitT (j := 5) (t := 72) rfl rfl (by (apply decide_eq_true; omega)) ?_
        refine V.qrun T_ok 5 rfl ?_
        refine V.qyes rfl rfl rfl ?_
        refine V.qcall V.clo (fun w1 g => V.Meets.gr' (rd_left (F94.gr g))) rfl rfl rfl ?_
        refine V.qyes rfl rfl rfl ?_
        refine V.qsubN rfl rfl rfl rfl rfl (by first | omega | (simp only [List.length_take, List.length_drop, List.length_append, List.length_cons, List.length_nil, List.length_replicate, List.length_set, V.length_data, V.S_size]; omega)) (by first | omega | (simp only [List.length_take, List.length_drop, List.length_append, List.length_cons, List.length_nil, List.length_replicate, List.length_set, V.length_data, V.S_size]; omega)) ?_
        refine V.qrun T_ok 3 rfl ?_
        refine V.qsplitT (j := 15) (t := 82) rfl rfl (by (apply decide_eq_true; omega)) ?_
        refine V.qrun T_ok 1 rfl ?_
        refine V.qyes rfl rfl rfl ?_
        refine V.qtoStr F116.sl Tryd.underlying37 Tryd.underlying5 Tryd.underlying9 rfl rfl rfl rfl ?_
        refine V.qrun T_ok 3 rfl ?_
        refine V.qyes rfl rfl rfl ?_
        refine V.qcutL T_ok F_b rfl rfl sz5 rfl rfl rfl rfl (by first | omega | (simp only [List.length_take, List.length_drop, List.length_append, List.length_cons, List.length_nil, List.length_replicate, List.length_set, V.length_data, V.S_size]; omega)) (by first | omega | (simp only [List.length_take, List.length_drop, List.length_append, List.length_cons, List.length_nil, List.length_replicate, List.length_set, V.length_data, V.S_size]; omega)) (fun a120 F122 => ?_)
        refine V.qyes rfl rfl rfl ?_
        refine V.qtoStr F122 Tryd.underlying37 Tryd.underlying5 Tryd.underlying9 rfl rfl rfl rfl ?_
        refine V.qrun T_ok 3 rfl ?_
        refine V.qnil ?_
        rintro w123 G124
        have z125 := V.Fr.size G124
        try replace F_b := F_b.gr G124
        try replace Fk2 := Fk2.gr G124
        try replace F19 := F19.gr G124
        try replace F30 := F30.gr G124
        try replace Fk35 := Fk35.gr G124
        try replace F94 := F94.gr G124
        try replace Fk99 := Fk99.gr G124
        try replace F116 := F116.gr G124
        try replace F122 := F122.gr G124
        replace HG := HG.grow G124
        clear G124
        refine V.tN ?_
        refine V.ret ?_
        refine V.done rfl ?_
        exact ⟨congrArg Value.bool (by apply decide_eq_true; rw [V.S_inj, hx2, hy2]; conv => { rhs; rw [e2] }; simp), HG⟩

end Go.Proofs.YtbpfojlnndkaoaaDoor
