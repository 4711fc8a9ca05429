/- Proved here: walks: what functions of this seat's program return and what they leave of memory, each as a contract. Conditions: stated at each theorem. -/
import Derived.Test.YtomacafijmngnaaMl6b
namespace Go.Proofs.Ytomacafijmngnaa
set_option linter.unusedVariables false
set_option linter.unusedSimpArgs false
open Go
open V (Bytes Meets Env Sl Own Gr Fr Cells S)

theorem dCrash_same {b c : List UInt8} {keep : Int} {torn cell : Bool} {d : DiskV} (h : d = ⟨b, c, b, c⟩) : dCrash d keep torn cell = d := by subst h; exact dCrash_safe

set_option maxHeartbeats 4000000 in
set_option maxRecDepth 10000 in
theorem diskSynced_walk {w : World}  {D_script : Nat → Prop} {c_script : Nat} {a_script : Option Addr} {script : List (Int × Int × List UInt8 × Bool × Bool)} (F_script : Sl (V.Cod.pair (V.Cod.int .i64) (V.Cod.pair (V.Cod.int .i64) (V.Cod.pair V.Cod.byte.sl (V.Cod.pair V.Cod.bool V.Cod.bool)))) w D_script a_script c_script script) (hD_script : ∀ k, D_script k → k < w.heap.size) {D_a : Nat → Prop} {c_a : Nat} {a_a : Option Addr} {ab : List UInt8} {kd n : Int} {torn cell : Bool} (FB : Bytes w D_a a_a c_a ab) (hD_a : ∀ k, D_a k → k < w.heap.size)  :
    Meets Try.prog 8 [.slice a_script script.length c_script, .agg #[.int .i64 kd, .int .i64 n, .slice a_a ab.length c_a, .bool torn, .bool cell]] w fun r w' => r = .bool true ∧ Gr w w' := by
  have HG := V.Fr.refl [] w
  refine V.enter (n := 132) Try.func8 rfl rfl (by decide) rfl ?_
  refine V.seq ?_
  refine V.region ?_
  refine V.box rfl rfl rfl rfl ?_
  rintro k1 w3 s5 s6 G4 Fk2
  have z7 := V.Fr.size G4
  try replace F_script := F_script.gr G4
  try replace FB := FB.gr G4
  replace HG := HG.grow G4
  clear G4
  try simp only [V.cellsL, V.spliceL] at Fk2
  refine V.run T_ok 1 rfl ?_
  refine V.nil ?_
  refine V.tN ?_
  refine V.seq ?_
  refine V.region ?_
  refine V.call (dnew_spec) rfl rfl rfl ?_
  rintro _ w11 ⟨k8, rfl, F9, ⟨h10l, h10u⟩, G12⟩
  have z13 := V.Fr.size G12
  try replace F_script := F_script.gr G12
  try replace FB := FB.gr G12
  try replace Fk2 := Fk2.gr G12
  replace HG := HG.grow G12
  clear G12
  refine V.run T_ok 1 rfl ?_
  refine V.nil ?_
  refine V.tN ?_
  refine V.seq ?_
  refine V.seq ?_
  refine V.region ?_
  have F14 := Dsk.nil (D := (fun j => w11.heap.size ≤ j)) F9 (by first | (intro h; exact h rfl) | (intro h; omega)) (by intro j hj; first | omega | exact ⟨by omega, by omega⟩)
  clear F9
  refine V.call (alive_spec) rfl rfl rfl ?_
  rintro _ w15 ⟨rfl, G16⟩
  have z17 := V.Fr.size G16
  try replace F_script := F_script.gr G16
  try replace FB := FB.gr G16
  try replace Fk2 := Fk2.gr G16
  try replace F14 := F14.gr G16
  replace HG := HG.grow G16
  clear G16
  refine V.run T_ok 5 rfl ?_
  refine V.nil ?_
  refine V.tN ?_
  refine V.condN rfl rfl ?_
  refine V.skip ?_
  refine V.tN ?_
  refine V.seq ?_
  refine V.seq ?_
  refine V.region ?_
  refine V.run T_ok 1 rfl ?_
  refine V.nil ?_
  refine V.tN ?_
  refine V.block ?_
  refine V.loopM (fun m e v20 => Fr [] w v20 ∧ w15.heap.size ≤ v20.heap.size ∧ Sl (V.Cod.pair (V.Cod.int .i64) (V.Cod.pair (V.Cod.int .i64) (V.Cod.pair V.Cod.byte.sl (V.Cod.pair V.Cod.bool V.Cod.bool)))) v20 D_script a_script c_script script ∧ Sl V.Cod.byte v20 D_a a_a c_a ab ∧ Cells v20 k1 [.int .i64 kd, .int .i64 n, .slice a_a ab.length c_a, .bool torn, .bool cell] 25 ∧ ∃ (d : DiskV) (i : Nat) , m = script.length - i ∧ i ≤ script.length ∧ i ≤ 60 ∧ Dsk v20 k8 (fun j => w11.heap.size ≤ j) d ∧ e 0 = .slice a_script script.length c_script ∧ e 3 = .pointer (some ⟨k1, 0, none⟩) ∧ e 5 = .pointer (some ⟨k8, 0, none⟩) ∧ e 6 = .int .i64 (i : Int)) ?_ ?_
  ·
    exact ⟨_, HG, (by omega), F_script, FB, Fk2, ((⟨[], [], [], []⟩ : DiskV)), (0), rfl, (by omega), (by omega), (by first | exact F14 | exact F14.mono (fun _ h => h.1) (by intro h; omega)), rfl, rfl, rfl, rfl⟩
  try clear F14
  clear HG F_script FB Fk2
  rintro _ e v20 ⟨HG, z21, F_script, FB, Fk2, d, i, rfl, hil, hi60, F18, he0_0, he0_3, he0_5, he0_6⟩
  refine V.knownC (t := 0) he0_0 ?_
  refine V.knownC (t := 3) he0_3 ?_
  refine V.knownC (t := 5) he0_5 ?_
  refine V.knownC (t := 6) he0_6 ?_
  refine V.seq ?_
  refine V.seq ?_
  refine V.region ?_
  refine V.run T_ok 5 rfl ?_
  refine V.andG T_ok 2 4 22 rfl rfl rfl rfl rfl rfl rfl rfl ?_
  refine V.nil ?_
  refine V.tN ?_
  refine V.condT rfl (fun h5 => ?_) (fun h5 => ?_)
  ·
    try simp only [decide_eq_true_eq, decide_eq_false_iff_not, Bool.or_eq_true, Bool.and_eq_true, Bool.or_eq_false_iff, Bool.and_eq_false_iff, Bool.not_eq_true', Bool.not_eq_false', Int.not_lt, Int.not_le, Decidable.not_not, V.u8eq, V.S_inj, V.S_lit, V.S_lit2] at h5
    refine V.skip ?_
    refine V.tN ?_
    refine V.seq ?_
    refine V.block ?_
    refine V.seq ?_
    refine V.region ?_
    refine V.run T_ok 2 rfl ?_
    refine V.elem T_ok F_script rfl rfl sz25 rfl rfl rfl rfl (by first | omega | (simp only [List.length_take, List.length_drop, List.length_append, List.length_cons, List.length_nil, List.length_replicate, List.length_set, V.length_data, V.S_size]; omega)) (by first | omega | (simp only [List.length_take, List.length_drop, List.length_append, List.length_cons, List.length_nil, List.length_replicate, List.length_set, V.length_data, V.S_size]; omega)) ?_
    rintro b22 o23 cs24 hx25 hb26 hR32 hA27
    obtain ⟨x28, hx28⟩ : ∃ z', script[((i : Int)).toNat] = z' := ⟨_, rfl⟩
    rw [hx28] at hR32
    obtain ⟨_, _, rfl, rfl, ⟨_, _, rfl, rfl, ⟨_, _, rfl, ⟨a29, c30, rfl, F31⟩, ⟨_, _, rfl, rfl, rfl⟩⟩⟩⟩ := hR32
    try simp only [Int.toNat_natCast] at hx28 hx25
    refine V.loadA T_ok (o0 := o23) (off := 0) hA27 rfl rfl rfl rfl rfl ?_
    have FDs5 := F18
    have GX := V.Fr.refl [] v20
    refine V.alloc zero25 rfl rfl rfl ?_
    rintro k33 w35 s37 s38 G36 Fk34
    have z39 := V.Fr.size G36
    try replace F_script := F_script.gr G36
    try replace FB := FB.gr G36
    try replace Fk2 := Fk2.gr G36
    try replace F18 := F18.gr G36
    try replace F31 := F31.gr G36
    try replace GX := GX.gr G36
    replace HG := HG.grow G36
    clear G36
    try simp only [V.cellsL, V.spliceL] at Fk34
    replace F18 := FDs5.cut GX
    clear GX
    refine V.storeO Fk34 rfl rfl rfl rfl sz25 rfl rfl rfl rfl ?_
    rintro w40 G41 z43 Fs42
    clear Fk34
    have z44 := V.Fr.size G41
    first | replace F_script := F_script.mv1 G41 (by first | exact (fun h => by have := hD_script _ h; omega) | omega) | clear F_script | skip
    first | replace FB := FB.mv1 G41 (by first | exact (fun h => by have := hD_a _ h; omega) | omega) | clear FB | skip
    first | replace Fk2 := Fk2.mv1 G41 (by omega) | clear Fk2 | skip
    first | replace F18 := F18.mv1 G41 (by first | exact ⟨by omega, by assumption⟩ | exact ⟨by omega, fun h => absurd h.1 (by assumption)⟩ | exact ⟨by omega, fun h => absurd h.1.1 (by assumption)⟩ | exact ⟨by omega, fun h => by first | (have h2 := h.1; have h3 := h.2; omega) | (have h2 := h; dsimp only at h2; omega)⟩ | first | omega | exact fun h => h | exact ⟨by omega, fun h => h⟩ | (intro h; first | (have := hD_script _ h; omega)) | (refine ⟨by omega, ?_⟩; intro h; first | (have := hD_script _ h; omega))) | clear F18 | skip
    first | replace F31 := F31.mv1 G41 (by first | exact (fun h => by have := hD_script _ h; omega) | omega) | clear F31 | skip
    replace HG := HG.new1 G41 (by first | (refine Or.inr ?_; omega) | (refine Or.inl ?_; simp; done))
    clear G41
    have Fk34 := Fs42; clear Fs42
    simp only [V.spliceL, V.cellsL] at Fk34
    refine V.nil ?_
    refine V.tN ?_
    refine V.seq ?_
    refine V.seq ?_
    refine V.region ?_
    refine V.run T_ok 1 rfl ?_
    refine V.loadO T_ok Fk34 rfl rfl rfl rfl rfl ?_
    refine V.run T_ok 2 rfl ?_
    refine V.nil ?_
    refine V.tN ?_
    refine V.condT rfl (fun h8 => ?_) (fun h8 => ?_)
    ·
      try simp only [decide_eq_true_eq, decide_eq_false_iff_not, Bool.or_eq_true, Bool.and_eq_true, Bool.or_eq_false_iff, Bool.and_eq_false_iff, Bool.not_eq_true', Bool.not_eq_false', Int.not_lt, Int.not_le, Decidable.not_not, V.u8eq, V.S_inj, V.S_lit, V.S_lit2] at h8
      refine V.exit ?_
      refine V.tX ?_
      refine V.bE ?_
      refine V.tN ?_
      refine V.region ?_
      refine V.run T_ok 1 rfl ?_
      refine V.addN rfl rfl rfl rfl rfl (by first | omega | (simp only [List.length_take, List.length_drop, List.length_append, List.length_cons, List.length_nil, List.length_replicate, List.length_set, V.length_data, V.S_size]; omega)) (by first | omega | (simp only [List.length_take, List.length_drop, List.length_append, List.length_cons, List.length_nil, List.length_replicate, List.length_set, V.length_data, V.S_size]; omega)) ?_
      refine V.run T_ok 1 rfl ?_
      refine V.nil ?_
      refine V.tN ?_
      exact ⟨_, (by omega), HG, (by omega), F_script, FB, Fk2, (d), (i + 1), rfl, (by omega), (by omega), (by first | exact F18 | exact F18.mono (fun _ h => h.1) (by intro h; omega)), rfl, rfl, rfl, rfl⟩
    ·
      try simp only [decide_eq_true_eq, decide_eq_false_iff_not, Bool.or_eq_true, Bool.and_eq_true, Bool.or_eq_false_iff, Bool.and_eq_false_iff, Bool.not_eq_true', Bool.not_eq_false', Int.not_lt, Int.not_le, Decidable.not_not, V.u8eq, V.S_inj, V.S_lit, V.S_lit2] at h8
      refine V.skip ?_
      refine V.tN ?_
      refine V.seq ?_
      refine V.region ?_
      refine V.run T_ok 1 rfl ?_
      refine V.loadO T_ok Fk34 rfl rfl rfl rfl rfl ?_
      refine V.nil ?_
      refine V.tN ?_
      refine V.block ?_
      refine V.seq ?_
      refine V.region ?_
      refine V.run T_ok 2 rfl ?_
      refine V.nil ?_
      refine V.tN ?_
      refine V.condT rfl (fun h10 => ?_) (fun h10 => ?_)
      ·
        try simp only [decide_eq_true_eq, decide_eq_false_iff_not, Bool.or_eq_true, Bool.and_eq_true, Bool.or_eq_false_iff, Bool.and_eq_false_iff, Bool.not_eq_true', Bool.not_eq_false', Int.not_lt, Int.not_le, Decidable.not_not, V.u8eq, V.S_inj, V.S_lit, V.S_lit2] at h10
        refine V.region ?_
        refine V.run T_ok 2 rfl ?_
        refine V.loadO T_ok Fk34 rfl rfl rfl rfl rfl ?_
        refine V.call (dappend_spec F18 F31 (by first | omega | (simp only [List.length_take, List.length_drop, List.length_append, List.length_cons, List.length_nil, List.length_replicate, List.length_set, V.length_data, V.S_size]; omega))) rfl rfl rfl ?_
        rintro _ w46 ⟨rfl, F45, G47⟩
        have z48 := V.Fr.size G47
        first | replace F_script := F_script.mv1 G47 (by first | exact (fun h => by have := hD_script _ h; omega) | omega) | clear F_script | skip
        first | replace FB := FB.mv1 G47 (by first | exact (fun h => by have := hD_a _ h; omega) | omega) | clear FB | skip
        first | replace Fk2 := Fk2.mv1 G47 (by omega) | clear Fk2 | skip
        first | replace F18 := F18.mv1 G47 (by first | exact ⟨by omega, by assumption⟩ | exact ⟨by omega, fun h => absurd h.1 (by assumption)⟩ | exact ⟨by omega, fun h => absurd h.1.1 (by assumption)⟩ | exact ⟨by omega, fun h => by first | (have h2 := h.1; have h3 := h.2; omega) | (have h2 := h; dsimp only at h2; omega)⟩ | first | omega | exact fun h => h | exact ⟨by omega, fun h => h⟩ | (intro h; first | (have := hD_script _ h; omega)) | (refine ⟨by omega, ?_⟩; intro h; first | (have := hD_script _ h; omega))) | clear F18 | skip
        first | replace F31 := F31.mv1 G47 (by first | exact (fun h => by have := hD_script _ h; omega) | omega) | clear F31 | skip
        first | replace Fk34 := Fk34.mv1 G47 (by omega) | clear Fk34 | skip
        replace HG := HG.new1 G47 (by first | (refine Or.inr ?_; omega) | (refine Or.inl ?_; simp; done))
        clear G47
        refine V.nil ?_
        refine V.bN ?_
        refine V.bN ?_
        refine V.tN ?_
        refine V.region ?_
        refine V.run T_ok 1 rfl ?_
        refine V.addN rfl rfl rfl rfl rfl (by first | omega | (simp only [List.length_take, List.length_drop, List.length_append, List.length_cons, List.length_nil, List.length_replicate, List.length_set, V.length_data, V.S_size]; omega)) (by first | omega | (simp only [List.length_take, List.length_drop, List.length_append, List.length_cons, List.length_nil, List.length_replicate, List.length_set, V.length_data, V.S_size]; omega)) ?_
        refine V.run T_ok 1 rfl ?_
        refine V.nil ?_
        refine V.tN ?_
        exact ⟨_, (by omega), HG, (by omega), F_script, FB, Fk2, (dAppend d x28.2.2.1), (i + 1), rfl, (by omega), (by omega), (by first | exact F45 | exact F45.mono (fun _ h => h.1) (by intro h; omega)), rfl, rfl, rfl, rfl⟩
      ·
        try simp only [decide_eq_true_eq, decide_eq_false_iff_not, Bool.or_eq_true, Bool.and_eq_true, Bool.or_eq_false_iff, Bool.and_eq_false_iff, Bool.not_eq_true', Bool.not_eq_false', Int.not_lt, Int.not_le, Decidable.not_not, V.u8eq, V.S_inj, V.S_lit, V.S_lit2] at h10
        refine V.seq ?_
        refine V.region ?_
        refine V.run T_ok 2 rfl ?_
        refine V.nil ?_
        refine V.tN ?_
        refine V.condT rfl (fun h12 => ?_) (fun h12 => ?_)
        ·
          try simp only [decide_eq_true_eq, decide_eq_false_iff_not, Bool.or_eq_true, Bool.and_eq_true, Bool.or_eq_false_iff, Bool.and_eq_false_iff, Bool.not_eq_true', Bool.not_eq_false', Int.not_lt, Int.not_le, Decidable.not_not, V.u8eq, V.S_inj, V.S_lit, V.S_lit2] at h12
          refine V.region ?_
          refine V.run T_ok 2 rfl ?_
          refine V.loadO T_ok Fk34 rfl rfl rfl rfl rfl ?_
          refine V.call (dcut_spec (n := x28.2.1) F18) rfl rfl rfl ?_
          rintro _ w50 ⟨rfl, F49, G51⟩
          have z52 := V.Fr.size G51
          first | replace F_script := F_script.mv1 G51 (by first | exact (fun h => by have := hD_script _ h; omega) | omega) | clear F_script | skip
          first | replace FB := FB.mv1 G51 (by first | exact (fun h => by have := hD_a _ h; omega) | omega) | clear FB | skip
          first | replace Fk2 := Fk2.mv1 G51 (by omega) | clear Fk2 | skip
          first | replace F18 := F18.mv1 G51 (by first | exact ⟨by omega, by assumption⟩ | exact ⟨by omega, fun h => absurd h.1 (by assumption)⟩ | exact ⟨by omega, fun h => absurd h.1.1 (by assumption)⟩ | exact ⟨by omega, fun h => by first | (have h2 := h.1; have h3 := h.2; omega) | (have h2 := h; dsimp only at h2; omega)⟩ | first | omega | exact fun h => h | exact ⟨by omega, fun h => h⟩ | (intro h; first | (have := hD_script _ h; omega)) | (refine ⟨by omega, ?_⟩; intro h; first | (have := hD_script _ h; omega))) | clear F18 | skip
          first | replace F31 := F31.mv1 G51 (by first | exact (fun h => by have := hD_script _ h; omega) | omega) | clear F31 | skip
          first | replace Fk34 := Fk34.mv1 G51 (by omega) | clear Fk34 | skip
          replace HG := HG.new1 G51 (by first | (refine Or.inr ?_; omega) | (refine Or.inl ?_; simp; done))
          clear G51
          refine V.nil ?_
          refine V.bN ?_
          refine V.bN ?_
          refine V.tN ?_
          refine V.region ?_
          refine V.run T_ok 1 rfl ?_
          refine V.addN rfl rfl rfl rfl rfl (by first | omega | (simp only [List.length_take, List.length_drop, List.length_append, List.length_cons, List.length_nil, List.length_replicate, List.length_set, V.length_data, V.S_size]; omega)) (by first | omega | (simp only [List.length_take, List.length_drop, List.length_append, List.length_cons, List.length_nil, List.length_replicate, List.length_set, V.length_data, V.S_size]; omega)) ?_
          refine V.run T_ok 1 rfl ?_
          refine V.nil ?_
          refine V.tN ?_
          exact ⟨_, (by omega), HG, (by omega), F_script, FB, Fk2, (dCut d x28.2.1), (i + 1), rfl, (by omega), (by omega), (by first | exact F49 | exact F49.mono (fun _ h => h.1) (by intro h; omega)), rfl, rfl, rfl, rfl⟩
        ·
          try simp only [decide_eq_true_eq, decide_eq_false_iff_not, Bool.or_eq_true, Bool.and_eq_true, Bool.or_eq_false_iff, Bool.and_eq_false_iff, Bool.not_eq_true', Bool.not_eq_false', Int.not_lt, Int.not_le, Decidable.not_not, V.u8eq, V.S_inj, V.S_lit, V.S_lit2] at h12
          refine V.seq ?_
          refine V.region ?_
          refine V.run T_ok 2 rfl ?_
          refine V.nil ?_
          refine V.tN ?_
          refine V.condT rfl (fun h14 => ?_) (fun h14 => ?_)
          ·
            try simp only [decide_eq_true_eq, decide_eq_false_iff_not, Bool.or_eq_true, Bool.and_eq_true, Bool.or_eq_false_iff, Bool.and_eq_false_iff, Bool.not_eq_true', Bool.not_eq_false', Int.not_lt, Int.not_le, Decidable.not_not, V.u8eq, V.S_inj, V.S_lit, V.S_lit2] at h14
            refine V.region ?_
            refine V.run T_ok 2 rfl ?_
            refine V.loadO T_ok Fk34 rfl rfl rfl rfl rfl ?_
            refine V.call (dset_spec F18 F31 (by first | omega | (simp only [List.length_take, List.length_drop, List.length_append, List.length_cons, List.length_nil, List.length_replicate, List.length_set, V.length_data, V.S_size]; omega))) rfl rfl rfl ?_
            rintro _ w54 ⟨rfl, F53, G55⟩
            have z56 := V.Fr.size G55
            first | replace F_script := F_script.mv1 G55 (by first | exact (fun h => by have := hD_script _ h; omega) | omega) | clear F_script | skip
            first | replace FB := FB.mv1 G55 (by first | exact (fun h => by have := hD_a _ h; omega) | omega) | clear FB | skip
            first | replace Fk2 := Fk2.mv1 G55 (by omega) | clear Fk2 | skip
            first | replace F18 := F18.mv1 G55 (by first | exact ⟨by omega, by assumption⟩ | exact ⟨by omega, fun h => absurd h.1 (by assumption)⟩ | exact ⟨by omega, fun h => absurd h.1.1 (by assumption)⟩ | exact ⟨by omega, fun h => by first | (have h2 := h.1; have h3 := h.2; omega) | (have h2 := h; dsimp only at h2; omega)⟩ | first | omega | exact fun h => h | exact ⟨by omega, fun h => h⟩ | (intro h; first | (have := hD_script _ h; omega)) | (refine ⟨by omega, ?_⟩; intro h; first | (have := hD_script _ h; omega))) | clear F18 | skip
            first | replace F31 := F31.mv1 G55 (by first | exact (fun h => by have := hD_script _ h; omega) | omega) | clear F31 | skip
            first | replace Fk34 := Fk34.mv1 G55 (by omega) | clear Fk34 | skip
            replace HG := HG.new1 G55 (by first | (refine Or.inr ?_; omega) | (refine Or.inl ?_; simp; done))
            clear G55
            refine V.nil ?_
            refine V.bN ?_
            refine V.bN ?_
            refine V.tN ?_
            refine V.region ?_
            refine V.run T_ok 1 rfl ?_
            refine V.addN rfl rfl rfl rfl rfl (by first | omega | (simp only [List.length_take, List.length_drop, List.length_append, List.length_cons, List.length_nil, List.length_replicate, List.length_set, V.length_data, V.S_size]; omega)) (by first | omega | (simp only [List.length_take, List.length_drop, List.length_append, List.length_cons, List.length_nil, List.length_replicate, List.length_set, V.length_data, V.S_size]; omega)) ?_
            refine V.run T_ok 1 rfl ?_
            refine V.nil ?_
            refine V.tN ?_
            exact ⟨_, (by omega), HG, (by omega), F_script, FB, Fk2, (dSet d x28.2.2.1), (i + 1), rfl, (by omega), (by omega), (by first | exact F53 | exact F53.mono (fun _ h => h.1) (by intro h; omega)), rfl, rfl, rfl, rfl⟩
          ·
            try simp only [decide_eq_true_eq, decide_eq_false_iff_not, Bool.or_eq_true, Bool.and_eq_true, Bool.or_eq_false_iff, Bool.and_eq_false_iff, Bool.not_eq_true', Bool.not_eq_false', Int.not_lt, Int.not_le, Decidable.not_not, V.u8eq, V.S_inj, V.S_lit, V.S_lit2] at h14
            refine V.skip ?_
            refine V.bN ?_
            refine V.bN ?_
            refine V.tN ?_
            refine V.region ?_
            refine V.run T_ok 1 rfl ?_
            refine V.addN rfl rfl rfl rfl rfl (by first | omega | (simp only [List.length_take, List.length_drop, List.length_append, List.length_cons, List.length_nil, List.length_replicate, List.length_set, V.length_data, V.S_size]; omega)) (by first | omega | (simp only [List.length_take, List.length_drop, List.length_append, List.length_cons, List.length_nil, List.length_replicate, List.length_set, V.length_data, V.S_size]; omega)) ?_
            refine V.run T_ok 1 rfl ?_
            refine V.nil ?_
            refine V.tN ?_
            exact ⟨_, (by omega), HG, (by omega), F_script, FB, Fk2, (d), (i + 1), rfl, (by omega), (by omega), (by first | exact F18 | exact F18.mono (fun _ h => h.1) (by intro h; omega)), rfl, rfl, rfl, rfl⟩
  ·
    try simp only [decide_eq_true_eq, decide_eq_false_iff_not, Bool.or_eq_true, Bool.and_eq_true, Bool.or_eq_false_iff, Bool.and_eq_false_iff, Bool.not_eq_true', Bool.not_eq_false', Int.not_lt, Int.not_le, Decidable.not_not, V.u8eq, V.S_inj, V.S_lit, V.S_lit2] at h5
    refine V.exit ?_
    refine V.tX ?_
    refine V.tX ?_
    refine V.bE ?_
    refine V.tN ?_
    refine V.seq ?_
    refine V.region ?_
    refine V.run T_ok 2 rfl ?_
    refine V.loadO T_ok Fk2 rfl rfl rfl rfl rfl ?_
    refine V.run T_ok 1 rfl ?_
    refine V.loadO T_ok Fk2 rfl rfl rfl rfl rfl ?_
    refine V.run T_ok 1 rfl ?_
    refine V.loadO T_ok Fk2 rfl rfl rfl rfl rfl ?_
    refine V.call (dcrash_spec (keep := n) (torn := torn) (cell := cell) F18) rfl rfl rfl ?_
    rintro _ w60 ⟨k57, rfl, ⟨h58l, h58u⟩, F59, G61⟩
    have z62 := V.Fr.size G61
    try replace F_script := F_script.gr G61
    try replace FB := FB.gr G61
    try replace Fk2 := Fk2.gr G61
    try replace F18 := F18.gr G61
    replace HG := HG.grow G61
    clear G61
    refine V.run T_ok 1 rfl ?_
    refine V.nil ?_
    refine V.tN ?_
    refine V.seq ?_
    refine V.seq ?_
    refine V.region ?_
    refine V.run T_ok 2 rfl ?_
    refine V.nil ?_
    refine V.tN ?_
    refine V.condN rfl rfl ?_
    refine V.skip ?_
    refine V.tN ?_
    refine V.seq ?_
    refine V.region ?_
    refine V.run T_ok 2 rfl ?_
    refine V.loadO T_ok Fk2 rfl rfl rfl rfl rfl ?_
    refine V.run T_ok 1 rfl ?_
    refine V.run T_ok 1 rfl ?_
    refine V.loadO T_ok Fk2 rfl rfl rfl rfl rfl ?_
    refine V.run T_ok 2 rfl ?_
    refine V.loadO T_ok Fk2 rfl rfl rfl rfl rfl ?_
    refine V.run T_ok 1 rfl ?_
    refine V.call (dcrash_spec (keep := (Go.IntKind.wrap .i64 (n + 1))) (torn := (!torn)) (cell := (!cell)) F59) rfl rfl rfl ?_
    rintro _ w66 ⟨k63, rfl, ⟨h64l, h64u⟩, F65, G67⟩
    have z68 := V.Fr.size G67
    try replace F_script := F_script.gr G67
    try replace FB := FB.gr G67
    try replace Fk2 := Fk2.gr G67
    try replace F18 := F18.gr G67
    try replace F59 := F59.gr G67
    replace HG := HG.grow G67
    clear G67
    refine V.run T_ok 1 rfl ?_
    refine V.nil ?_
    refine V.tN ?_
    refine V.seq ?_
    refine V.region ?_
    refine V.run T_ok 1 rfl ?_
    refine V.call (dsync_spec F18) rfl rfl rfl ?_
    rintro _ w70 ⟨rfl, F69, G71⟩
    have z72 := V.Fr.size G71
    first | replace F_script := F_script.mv1 G71 (by first | exact (fun h => by have := hD_script _ h; omega) | omega) | clear F_script | skip
    first | replace FB := FB.mv1 G71 (by first | exact (fun h => by have := hD_a _ h; omega) | omega) | clear FB | skip
    first | replace Fk2 := Fk2.mv1 G71 (by omega) | clear Fk2 | skip
    first | replace F18 := F18.mv1 G71 (by first | exact ⟨by omega, by assumption⟩ | exact ⟨by omega, fun h => absurd h.1 (by assumption)⟩ | exact ⟨by omega, fun h => absurd h.1.1 (by assumption)⟩ | exact ⟨by omega, fun h => by first | (have h2 := h.1; have h3 := h.2; omega) | (have h2 := h; dsimp only at h2; omega)⟩ | first | omega | exact fun h => h | exact ⟨by omega, fun h => h⟩ | (intro h; first | (have := hD_script _ h; omega)) | (refine ⟨by omega, ?_⟩; intro h; first | (have := hD_script _ h; omega))) | clear F18 | skip
    first | replace F59 := F59.mv1 G71 (by first | exact ⟨by omega, by assumption⟩ | exact ⟨by omega, fun h => absurd h.1 (by assumption)⟩ | exact ⟨by omega, fun h => absurd h.1.1 (by assumption)⟩ | exact ⟨by omega, fun h => by first | (have h2 := h.1; have h3 := h.2; omega) | (have h2 := h; dsimp only at h2; omega)⟩ | first | omega | exact fun h => h | exact ⟨by omega, fun h => h⟩ | (intro h; first | (have := hD_script _ h; omega)) | (refine ⟨by omega, ?_⟩; intro h; first | (have := hD_script _ h; omega))) | clear F59 | skip
    first | replace F65 := F65.mv1 G71 (by first | exact ⟨by omega, by assumption⟩ | exact ⟨by omega, fun h => absurd h.1 (by assumption)⟩ | exact ⟨by omega, fun h => absurd h.1.1 (by assumption)⟩ | exact ⟨by omega, fun h => by first | (have h2 := h.1; have h3 := h.2; omega) | (have h2 := h; dsimp only at h2; omega)⟩ | first | omega | exact fun h => h | exact ⟨by omega, fun h => h⟩ | (intro h; first | (have := hD_script _ h; omega)) | (refine ⟨by omega, ?_⟩; intro h; first | (have := hD_script _ h; omega))) | clear F65 | skip
    replace HG := HG.new1 G71 (by first | (refine Or.inr ?_; omega) | (refine Or.inl ?_; simp; done))
    clear G71
    refine V.nil ?_
    refine V.tN ?_
    refine V.seq ?_
    refine V.region ?_
    refine V.run T_ok 2 rfl ?_
    refine V.loadO T_ok Fk2 rfl rfl rfl rfl rfl ?_
    refine V.run T_ok 1 rfl ?_
    refine V.loadO T_ok Fk2 rfl rfl rfl rfl rfl ?_
    refine V.run T_ok 1 rfl ?_
    refine V.loadO T_ok Fk2 rfl rfl rfl rfl rfl ?_
    refine V.call (dcrash_spec (keep := n) (torn := torn) (cell := cell) F69) rfl rfl rfl ?_
    rintro _ w76 ⟨k73, rfl, ⟨h74l, h74u⟩, F75, G77⟩
    have z78 := V.Fr.size G77
    try replace F_script := F_script.gr G77
    try replace FB := FB.gr G77
    try replace Fk2 := Fk2.gr G77
    try replace F59 := F59.gr G77
    try replace F65 := F65.gr G77
    try replace F69 := F69.gr G77
    replace HG := HG.grow G77
    clear G77
    refine V.run T_ok 1 rfl ?_
    refine V.nil ?_
    refine V.tN ?_
    refine V.seq ?_
    refine V.seq ?_
    refine V.region ?_
    refine V.run T_ok 6 rfl ?_
    refine V.nil ?_
    refine V.tN ?_
    refine V.condN rfl rfl ?_
    refine V.skip ?_
    refine V.tN ?_
    refine V.seq ?_
    refine V.drawGT 32 (V.sel [(1, (fun v wz => ∃ (ra5 : Option Addr) (rc5 : Nat), v = .slice ra5 (dCrash (dCrash d n torn cell) (Go.IntKind.wrap .i64 (n + 1)) (!torn) (!cell)).nf.length rc5 ∧ V.Row V.Cod.byte 5 wz V.None' w76.heap.size wz.heap.size ra5 rc5 (dCrash (dCrash d n torn cell) (Go.IntKind.wrap .i64 (n + 1)) (!torn) (!cell)).nf)), (4, (fun v wz => ∃ (ra5 : Option Addr) (rc5 : Nat), v = .slice ra5 (dCrash d n torn cell).nf.length rc5 ∧ V.Row V.Cod.byte 5 wz V.None' w76.heap.size wz.heap.size ra5 rc5 (dCrash d n torn cell).nf)), (9, (fun v wz => ∃ (ra6 : Option Addr) (rc6 : Nat), v = .slice ra6 (dCrash (dCrash d n torn cell) (Go.IntKind.wrap .i64 (n + 1)) (!torn) (!cell)).nc.length rc6 ∧ V.Row V.Cod.byte 5 wz V.None' w76.heap.size wz.heap.size ra6 rc6 (dCrash (dCrash d n torn cell) (Go.IntKind.wrap .i64 (n + 1)) (!torn) (!cell)).nc)), (12, (fun v wz => ∃ (ra6 : Option Addr) (rc6 : Nat), v = .slice ra6 (dCrash d n torn cell).nc.length rc6 ∧ V.Row V.Cod.byte 5 wz V.None' w76.heap.size wz.heap.size ra6 rc6 (dCrash d n torn cell).nc)), (18, (fun v wz => ∃ (ra5 : Option Addr) (rc5 : Nat), v = .slice ra5 (dCrash (dSync d) n torn cell).nf.length rc5 ∧ V.Row V.Cod.byte 5 wz V.None' w76.heap.size wz.heap.size ra5 rc5 (dCrash (dSync d) n torn cell).nf)), (21, (fun v wz => ∃ (ra5 : Option Addr) (rc5 : Nat), v = .slice ra5 (dSync d).nf.length rc5 ∧ V.Row V.Cod.byte 5 wz V.None' w76.heap.size wz.heap.size ra5 rc5 (dSync d).nf)), (27, (fun v wz => ∃ (ra6 : Option Addr) (rc6 : Nat), v = .slice ra6 (dCrash (dSync d) n torn cell).nc.length rc6 ∧ V.Row V.Cod.byte 5 wz V.None' w76.heap.size wz.heap.size ra6 rc6 (dCrash (dSync d) n torn cell).nc)), (30, (fun v wz => ∃ (ra6 : Option Addr) (rc6 : Nat), v = .slice ra6 (dSync d).nc.length rc6 ∧ V.Row V.Cod.byte 5 wz V.None' w76.heap.size wz.heap.size ra6 rc6 (dSync d).nc))]) mixed (by kernel_rfl) (V.mono_cons (by rintro v wz wz' g ⟨ra5, rc5, rfl, rF5⟩; exact ⟨ra5, rc5, rfl, (by first | exact (rF5.gr g).mono (V.In.sub (Nat.le_refl _) g.size) | exact rF5.gr g | exact (rF5.gr g).mono (fun _ h => h) (Nat.le_refl _) g.size | exact (rF5.gr g).mono (fun k h => ⟨h.1, Nat.lt_of_lt_of_le h.2 g.size⟩))⟩) (V.mono_cons (by rintro v wz wz' g ⟨ra5, rc5, rfl, rF5⟩; exact ⟨ra5, rc5, rfl, (by first | exact (rF5.gr g).mono (V.In.sub (Nat.le_refl _) g.size) | exact rF5.gr g | exact (rF5.gr g).mono (fun _ h => h) (Nat.le_refl _) g.size | exact (rF5.gr g).mono (fun k h => ⟨h.1, Nat.lt_of_lt_of_le h.2 g.size⟩))⟩) (V.mono_cons (by rintro v wz wz' g ⟨ra6, rc6, rfl, rF6⟩; exact ⟨ra6, rc6, rfl, (by first | exact (rF6.gr g).mono (V.In.sub (Nat.le_refl _) g.size) | exact rF6.gr g | exact (rF6.gr g).mono (fun _ h => h) (Nat.le_refl _) g.size | exact (rF6.gr g).mono (fun k h => ⟨h.1, Nat.lt_of_lt_of_le h.2 g.size⟩))⟩) (V.mono_cons (by rintro v wz wz' g ⟨ra6, rc6, rfl, rF6⟩; exact ⟨ra6, rc6, rfl, (by first | exact (rF6.gr g).mono (V.In.sub (Nat.le_refl _) g.size) | exact rF6.gr g | exact (rF6.gr g).mono (fun _ h => h) (Nat.le_refl _) g.size | exact (rF6.gr g).mono (fun k h => ⟨h.1, Nat.lt_of_lt_of_le h.2 g.size⟩))⟩) (V.mono_cons (by rintro v wz wz' g ⟨ra5, rc5, rfl, rF5⟩; exact ⟨ra5, rc5, rfl, (by first | exact (rF5.gr g).mono (V.In.sub (Nat.le_refl _) g.size) | exact rF5.gr g | exact (rF5.gr g).mono (fun _ h => h) (Nat.le_refl _) g.size | exact (rF5.gr g).mono (fun k h => ⟨h.1, Nat.lt_of_lt_of_le h.2 g.size⟩))⟩) (V.mono_cons (by rintro v wz wz' g ⟨ra5, rc5, rfl, rF5⟩; exact ⟨ra5, rc5, rfl, (by first | exact (rF5.gr g).mono (V.In.sub (Nat.le_refl _) g.size) | exact rF5.gr g | exact (rF5.gr g).mono (fun _ h => h) (Nat.le_refl _) g.size | exact (rF5.gr g).mono (fun k h => ⟨h.1, Nat.lt_of_lt_of_le h.2 g.size⟩))⟩) (V.mono_cons (by rintro v wz wz' g ⟨ra6, rc6, rfl, rF6⟩; exact ⟨ra6, rc6, rfl, (by first | exact (rF6.gr g).mono (V.In.sub (Nat.le_refl _) g.size) | exact rF6.gr g | exact (rF6.gr g).mono (fun _ h => h) (Nat.le_refl _) g.size | exact (rF6.gr g).mono (fun k h => ⟨h.1, Nat.lt_of_lt_of_le h.2 g.size⟩))⟩) (V.mono_cons (by rintro v wz wz' g ⟨ra6, rc6, rfl, rF6⟩; exact ⟨ra6, rc6, rfl, (by first | exact (rF6.gr g).mono (V.In.sub (Nat.le_refl _) g.size) | exact rF6.gr g | exact (rF6.gr g).mono (fun _ h => h) (Nat.le_refl _) g.size | exact (rF6.gr g).mono (fun k h => ⟨h.1, Nat.lt_of_lt_of_le h.2 g.size⟩))⟩) V.mono_nil)))))))) ?_
    refine V.grun T_ok 1 rfl (V.sel_none rfl) ?_
    refine V.gcall (fun w' h => (dfile_spec (F65.gr h.1)).mono (by rintro v w'' ⟨ra5, rc5, rfl, rF5, G⟩; exact ⟨⟨ra5, rc5, rfl, (by first | exact rF5.mono (V.In.mono_l h.1.size) | exact rF5 | exact rF5.mono (fun _ h => h) h.1.size (Nat.le_refl _))⟩, G⟩)) rfl rfl rfl rfl ?_
    rintro _ w82 - - ⟨a79, c80, rfl, -⟩
    refine V.gtoStr (fun w' h => by obtain ⟨_, _, he, F0⟩ := (V.Hist.here (h.get (i := 1) rfl)); cases he; exact F0.sl.mono (fun _ _ => trivial)) Try.underlying22 Try.underlying5 Try.underlying9 rfl rfl rfl rfl rfl ?_
    refine V.grun T_ok 1 rfl (V.sel_none rfl) ?_
    refine V.gcall (fun w' h => (dfile_spec (F59.gr h.1)).mono (by rintro v w'' ⟨ra5, rc5, rfl, rF5, G⟩; exact ⟨⟨ra5, rc5, rfl, (by first | exact rF5.mono (V.In.mono_l h.1.size) | exact rF5 | exact rF5.mono (fun _ h => h) h.1.size (Nat.le_refl _))⟩, G⟩)) rfl rfl rfl rfl ?_
    rintro _ w86 - - ⟨a83, c84, rfl, -⟩
    refine V.gtoStr (fun w' h => by obtain ⟨_, _, he, F0⟩ := (V.Hist.here (h.get (i := 4) rfl)); cases he; exact F0.sl.mono (fun _ _ => trivial)) Try.underlying22 Try.underlying5 Try.underlying9 rfl rfl rfl rfl rfl ?_
    refine V.grun T_ok 2 rfl (V.sel_none rfl) ?_
    refine V.gsplitT (j := 7) (t := 100) rfl rfl (by (first | rfl | (apply decide_eq_true; refine congrArg V.S ?_; first | rfl | exact congrArg DiskV.nf dCrash_safe | exact congrArg DiskV.nc dCrash_safe | exact congrArg DiskV.nf (dCrash_safe (b := d.nf)) | exact congrArg DiskV.nc (dCrash_safe (c := d.nc))))) ?_
    refine V.grun T_ok 1 rfl (V.sel_none rfl) ?_
    refine V.gyes rfl rfl rfl ?_
    refine V.gcall (fun w' h => (dcell_spec (F65.gr h.1)).mono (by rintro v w'' ⟨ra6, rc6, rfl, rF6, G⟩; exact ⟨⟨ra6, rc6, rfl, (by first | exact rF6.mono (V.In.mono_l h.1.size) | exact rF6 | exact rF6.mono (fun _ h => h) h.1.size (Nat.le_refl _))⟩, G⟩)) rfl rfl rfl rfl ?_
    rintro _ w90 - - ⟨a87, c88, rfl, -⟩
    refine V.gyes rfl rfl rfl ?_
    refine V.gtoStr (fun w' h => by obtain ⟨_, _, he, F0⟩ := (V.Hist.here (h.get (i := 9) rfl)); cases he; exact F0.sl.mono (fun _ _ => trivial)) Try.underlying22 Try.underlying5 Try.underlying9 rfl rfl rfl rfl rfl ?_
    refine V.grun T_ok 1 rfl (V.sel_none rfl) ?_
    refine V.gyes rfl rfl rfl ?_
    refine V.gcall (fun w' h => (dcell_spec (F59.gr h.1)).mono (by rintro v w'' ⟨ra6, rc6, rfl, rF6, G⟩; exact ⟨⟨ra6, rc6, rfl, (by first | exact rF6.mono (V.In.mono_l h.1.size) | exact rF6 | exact rF6.mono (fun _ h => h) h.1.size (Nat.le_refl _))⟩, G⟩)) rfl rfl rfl rfl ?_
    rintro _ w94 - - ⟨a91, c92, rfl, -⟩
    refine V.gyes rfl rfl rfl ?_
    refine V.gtoStr (fun w' h => by obtain ⟨_, _, he, F0⟩ := (V.Hist.here (h.get (i := 12) rfl)); cases he; exact F0.sl.mono (fun _ _ => trivial)) Try.underlying22 Try.underlying5 Try.underlying9 rfl rfl rfl rfl rfl ?_
    refine V.grun T_ok 3 rfl (V.sel_none rfl) ?_
    refine V.gsplitT (j := 16) (t := 109) rfl rfl (by (first | rfl | (apply decide_eq_true; refine congrArg V.S ?_; first | rfl | exact congrArg DiskV.nf dCrash_safe | exact congrArg DiskV.nc dCrash_safe | exact congrArg DiskV.nf (dCrash_safe (b := d.nf)) | exact congrArg DiskV.nc (dCrash_safe (c := d.nc))))) ?_
    refine V.grun T_ok 1 rfl (V.sel_none rfl) ?_
    refine V.gyes rfl rfl rfl ?_
    refine V.gcall (fun w' h => (dfile_spec (F75.gr h.1)).mono (by rintro v w'' ⟨ra5, rc5, rfl, rF5, G⟩; exact ⟨⟨ra5, rc5, rfl, (by first | exact rF5.mono (V.In.mono_l h.1.size) | exact rF5 | exact rF5.mono (fun _ h => h) h.1.size (Nat.le_refl _))⟩, G⟩)) rfl rfl rfl rfl ?_
    rintro _ w98 - - ⟨a95, c96, rfl, -⟩
    refine V.gyes rfl rfl rfl ?_
    refine V.gtoStr (fun w' h => by obtain ⟨_, _, he, F0⟩ := (V.Hist.here (h.get (i := 18) rfl)); cases he; exact F0.sl.mono (fun _ _ => trivial)) Try.underlying22 Try.underlying5 Try.underlying9 rfl rfl rfl rfl rfl ?_
    refine V.grun T_ok 1 rfl (V.sel_none rfl) ?_
    refine V.gyes rfl rfl rfl ?_
    refine V.gcall (fun w' h => (dfile_spec (F69.gr h.1)).mono (by rintro v w'' ⟨ra5, rc5, rfl, rF5, G⟩; exact ⟨⟨ra5, rc5, rfl, (by first | exact rF5.mono (V.In.mono_l h.1.size) | exact rF5 | exact rF5.mono (fun _ h => h) h.1.size (Nat.le_refl _))⟩, G⟩)) rfl rfl rfl rfl ?_
    rintro _ w102 - - ⟨a99, c100, rfl, -⟩
    refine V.gyes rfl rfl rfl ?_
    refine V.gtoStr (fun w' h => by obtain ⟨_, _, he, F0⟩ := (V.Hist.here (h.get (i := 21) rfl)); cases he; exact F0.sl.mono (fun _ _ => trivial)) Try.underlying22 Try.underlying5 Try.underlying9 rfl rfl rfl rfl rfl ?_
    refine V.grun T_ok 3 rfl (V.sel_none rfl) ?_
    refine V.gsplitT (j := 25) (t := 118) rfl rfl (by (first | rfl | (apply decide_eq_true; refine congrArg V.S ?_; first | rfl | exact congrArg DiskV.nf dCrash_safe | exact congrArg DiskV.nc dCrash_safe | exact congrArg DiskV.nf (dCrash_safe (b := d.nf)) | exact congrArg DiskV.nc (dCrash_safe (c := d.nc))))) ?_
    refine V.grun T_ok 1 rfl (V.sel_none rfl) ?_
    refine V.gyes rfl rfl rfl ?_
    refine V.gcall (fun w' h => (dcell_spec (F75.gr h.1)).mono (by rintro v w'' ⟨ra6, rc6, rfl, rF6, G⟩; exact ⟨⟨ra6, rc6, rfl, (by first | exact rF6.mono (V.In.mono_l h.1.size) | exact rF6 | exact rF6.mono (fun _ h => h) h.1.size (Nat.le_refl _))⟩, G⟩)) rfl rfl rfl rfl ?_
    rintro _ w106 - - ⟨a103, c104, rfl, -⟩
    refine V.gyes rfl rfl rfl ?_
    refine V.gtoStr (fun w' h => by obtain ⟨_, _, he, F0⟩ := (V.Hist.here (h.get (i := 27) rfl)); cases he; exact F0.sl.mono (fun _ _ => trivial)) Try.underlying22 Try.underlying5 Try.underlying9 rfl rfl rfl rfl rfl ?_
    refine V.grun T_ok 1 rfl (V.sel_none rfl) ?_
    refine V.gyes rfl rfl rfl ?_
    refine V.gcall (fun w' h => (dcell_spec (F69.gr h.1)).mono (by rintro v w'' ⟨ra6, rc6, rfl, rF6, G⟩; exact ⟨⟨ra6, rc6, rfl, (by first | exact rF6.mono (V.In.mono_l h.1.size) | exact rF6 | exact rF6.mono (fun _ h => h) h.1.size (Nat.le_refl _))⟩, G⟩)) rfl rfl rfl rfl ?_
    rintro _ w110 - - ⟨a107, c108, rfl, -⟩
    refine V.gyes rfl rfl rfl ?_
    refine V.gtoStr (fun w' h => by obtain ⟨_, _, he, F0⟩ := (V.Hist.here (h.get (i := 30) rfl)); cases he; exact F0.sl.mono (fun _ _ => trivial)) Try.underlying22 Try.underlying5 Try.underlying9 rfl rfl rfl rfl rfl ?_
    refine V.gnil ?_
    rintro w111 G112 hH113
    have z114 := V.Fr.size G112
    try replace F_script := F_script.gr G112
    try replace FB := FB.gr G112
    try replace Fk2 := Fk2.gr G112
    try replace F59 := F59.gr G112
    try replace F65 := F65.gr G112
    try replace F69 := F69.gr G112
    try replace F75 := F75.gr G112
    replace HG := HG.grow G112
    clear G112
    have F81 : V.Row V.Cod.byte 5 w111 V.None' w76.heap.size w111.heap.size a79 c80 (dCrash (dCrash d n torn cell) (Go.IntKind.wrap .i64 (n + 1)) (!torn) (!cell)).nf := by
      obtain ⟨_, _, he, F0⟩ := (V.Hist.here (V.Hist.old (V.Hist.old (V.Hist.old (V.Hist.old (V.Hist.old (V.Hist.old (V.Hist.old (hH113 1)))))))))
      cases he
      exact F0
    have F85 : V.Row V.Cod.byte 5 w111 V.None' w76.heap.size w111.heap.size a83 c84 (dCrash d n torn cell).nf := by
      obtain ⟨_, _, he, F0⟩ := (V.Hist.here (V.Hist.old (V.Hist.old (V.Hist.old (V.Hist.old (V.Hist.old (V.Hist.old (hH113 4))))))))
      cases he
      exact F0
    have F89 : V.Row V.Cod.byte 5 w111 V.None' w76.heap.size w111.heap.size a87 c88 (dCrash (dCrash d n torn cell) (Go.IntKind.wrap .i64 (n + 1)) (!torn) (!cell)).nc := by
      obtain ⟨_, _, he, F0⟩ := (V.Hist.here (V.Hist.old (V.Hist.old (V.Hist.old (V.Hist.old (V.Hist.old (hH113 9)))))))
      cases he
      exact F0
    have F93 : V.Row V.Cod.byte 5 w111 V.None' w76.heap.size w111.heap.size a91 c92 (dCrash d n torn cell).nc := by
      obtain ⟨_, _, he, F0⟩ := (V.Hist.here (V.Hist.old (V.Hist.old (V.Hist.old (V.Hist.old (hH113 12))))))
      cases he
      exact F0
    have F97 : V.Row V.Cod.byte 5 w111 V.None' w76.heap.size w111.heap.size a95 c96 (dCrash (dSync d) n torn cell).nf := by
      obtain ⟨_, _, he, F0⟩ := (V.Hist.here (V.Hist.old (V.Hist.old (V.Hist.old (hH113 18)))))
      cases he
      exact F0
    have F101 : V.Row V.Cod.byte 5 w111 V.None' w76.heap.size w111.heap.size a99 c100 (dSync d).nf := by
      obtain ⟨_, _, he, F0⟩ := (V.Hist.here (V.Hist.old (V.Hist.old (hH113 21))))
      cases he
      exact F0
    have F105 : V.Row V.Cod.byte 5 w111 V.None' w76.heap.size w111.heap.size a103 c104 (dCrash (dSync d) n torn cell).nc := by
      obtain ⟨_, _, he, F0⟩ := (V.Hist.here (V.Hist.old (hH113 27)))
      cases he
      exact F0
    have F109 : V.Row V.Cod.byte 5 w111 V.None' w76.heap.size w111.heap.size a107 c108 (dSync d).nc := by
      obtain ⟨_, _, he, F0⟩ := (V.Hist.here (hH113 30))
      cases he
      exact F0
    clear hH113
    refine V.run T_ok 3 rfl ?_
    refine V.splitT (j := 34) (t := 127) rfl rfl (by (first | rfl | (apply decide_eq_true; refine congrArg V.S ?_; first | rfl | exact congrArg DiskV.nf dCrash_safe | exact congrArg DiskV.nc dCrash_safe | exact congrArg DiskV.nf (dCrash_safe (b := d.nf)) | exact congrArg DiskV.nc (dCrash_safe (c := d.nc))))) ?_
    refine V.run T_ok 1 rfl ?_
    refine V.yes rfl rfl rfl ?_
    refine V.call (ddirty_spec F69) rfl rfl rfl ?_
    rintro _ w115 ⟨rfl, G116⟩
    have z117 := V.Fr.size G116
    try replace F_script := F_script.gr G116
    try replace FB := FB.gr G116
    try replace Fk2 := Fk2.gr G116
    try replace F59 := F59.gr G116
    try replace F65 := F65.gr G116
    try replace F69 := F69.gr G116
    try replace F75 := F75.gr G116
    try replace F81 := F81.gr G116
    try replace F85 := F85.gr G116
    try replace F89 := F89.gr G116
    try replace F93 := F93.gr G116
    try replace F97 := F97.gr G116
    try replace F101 := F101.gr G116
    try replace F105 := F105.gr G116
    try replace F109 := F109.gr G116
    replace HG := HG.grow G116
    clear G116
    refine V.run T_ok 3 rfl ?_
    refine V.nil ?_
    refine V.tN ?_
    refine V.ret ?_
    refine V.done rfl ?_
    exact ⟨congrArg Value.bool (by simp [dDirty, dSync]), HG⟩

set_option maxHeartbeats 4000000 in
set_option maxRecDepth 10000 in
theorem diskPlays_walk {w : World}  {D_script : Nat → Prop} {c_script : Nat} {a_script : Option Addr} {script : List (Int × Int × List UInt8 × Bool × Bool)} (F_script : Sl (V.Cod.pair (V.Cod.int .i64) (V.Cod.pair (V.Cod.int .i64) (V.Cod.pair V.Cod.byte.sl (V.Cod.pair V.Cod.bool V.Cod.bool)))) w D_script a_script c_script script) (hD_script : ∀ k, D_script k → k < w.heap.size)  :
    Meets Try.prog 6 [.slice a_script script.length c_script] w fun r w' => r = .bool true ∧ Gr w w' := by
  have HG := V.Fr.refl [] w
  refine V.enter (n := 121) Try.func6 rfl rfl (by decide) rfl ?_
  refine V.seq ?_
  refine V.region ?_
  refine V.run T_ok 1 rfl ?_
  refine V.nil ?_
  refine V.tN ?_
  refine V.seq ?_
  refine V.region ?_
  refine V.call (dnew_spec) rfl rfl rfl ?_
  rintro _ w4 ⟨k1, rfl, F2, ⟨h3l, h3u⟩, G5⟩
  have z6 := V.Fr.size G5
  try replace F_script := F_script.gr G5
  replace HG := HG.grow G5
  clear G5
  refine V.run T_ok 1 rfl ?_
  refine V.nil ?_
  refine V.tN ?_
  refine V.seq ?_
  refine V.region ?_
  refine V.mkStruct T_ok zero39 rfl rfl rfl rfl rfl ?_
  have F7 := Dsk.nil (D := (fun j => w4.heap.size ≤ j)) F2 (by first | (intro h; exact h rfl) | (intro h; omega)) (by intro j hj; first | omega | exact ⟨by omega, by omega⟩)
  clear F2
  have FDs3 := F7
  have GX := V.Fr.refl [] w4
  refine V.box rfl rfl rfl rfl ?_
  rintro k8 w10 s12 s13 G11 Fk9
  have z14 := V.Fr.size G11
  try replace F_script := F_script.gr G11
  try replace F7 := F7.gr G11
  try replace GX := GX.gr G11
  replace HG := HG.grow G11
  clear G11
  try simp only [V.cellsL, V.spliceL] at Fk9
  refine V.run T_ok 1 rfl ?_
  refine V.nil ?_
  refine V.tN ?_
  refine V.seq ?_
  refine V.seq ?_
  refine V.region ?_
  refine V.run T_ok 1 rfl ?_
  refine V.nil ?_
  refine V.tN ?_
  refine V.block ?_
  replace F7 := FDs3.cut GX
  clear GX
  have F15 := RDsk.nil (D := (fun j => w10.heap.size ≤ j)) Fk9 (by first | (intro h; exact h rfl) | (intro h; omega)) (by intro j hj; first | omega | exact ⟨by omega, by omega⟩)
  clear Fk9
  refine V.loopM (fun m e v17 => Fr [] w v17 ∧ w10.heap.size ≤ v17.heap.size ∧ Sl (V.Cod.pair (V.Cod.int .i64) (V.Cod.pair (V.Cod.int .i64) (V.Cod.pair V.Cod.byte.sl (V.Cod.pair V.Cod.bool V.Cod.bool)))) v17 D_script a_script c_script script ∧ ∃ (d : DiskV) (kd km : Nat) (Dd Dm : Nat → Prop) (i : Nat) , m = script.length - i ∧ kd ≠ km ∧ ¬ Dd km ∧ ¬ Dm kd ∧ w.heap.size ≤ kd ∧ w.heap.size ≤ km ∧ i ≤ script.length ∧ i ≤ 60 ∧ Dsk v17 kd Dd d ∧ RDsk v17 km Dm d ∧ e 0 = .slice a_script script.length c_script ∧ e 3 = .pointer (some ⟨kd, 0, none⟩) ∧ e 4 = .pointer (some ⟨km, 0, none⟩) ∧ e 5 = .int .i64 (i : Int)) ?_ ?_
  ·
    exact ⟨_, HG, (by omega), F_script, ((⟨[], [], [], []⟩ : DiskV)), (k1), (k8), ((fun j => (fun j => w4.heap.size ≤ j) j ∧ (j < w4.heap.size ∨ w10.heap.size ≤ j))), ((fun j => w10.heap.size ≤ j)), (0), rfl, (by omega), (by first | assumption | (intro h; have h1 := h; (try dsimp only at h1); omega) | (intro h; exact absurd h.1 (by assumption)) | (intro h; have h2 := h.2; (try dsimp only at h2); omega) | (intro h; have h2 := h.1.2; (try dsimp only at h2); omega) | (intro h; have h2 := h.1.1.2; (try dsimp only at h2); omega) | (intro h; exact absurd h.1.1 (by assumption))), (by first | assumption | (intro h; have h1 := h; (try dsimp only at h1); omega) | (intro h; exact absurd h.1 (by assumption)) | (intro h; have h2 := h.2; (try dsimp only at h2); omega) | (intro h; have h2 := h.1.2; (try dsimp only at h2); omega) | (intro h; have h2 := h.1.1.2; (try dsimp only at h2); omega) | (intro h; exact absurd h.1.1 (by assumption))), (by omega), (by omega), (by omega), (by omega), (by first | exact F7 | exact F7.mono (fun _ h => h.1) (by intro h; omega)), (by first | exact F15 | exact F15.mono (fun _ h => h.1) (by intro h; omega)), rfl, rfl, rfl, rfl⟩
  try clear F15
  try clear F7
  clear HG F_script
  rintro _ e v17 ⟨HG, z18, F_script, d, kd, km, Dd, Dm, i, rfl, hkk, hnd, hnm, hwd, hwm, hil, hi60, FXd, FXm, he0_0, he0_3, he0_4, he0_5⟩
  have hkd := FXd.lt
  have hkm := FXm.lt
  refine V.knownC (t := 0) he0_0 ?_
  refine V.knownC (t := 3) he0_3 ?_
  refine V.knownC (t := 4) he0_4 ?_
  refine V.knownC (t := 5) he0_5 ?_
  refine V.seq ?_
  refine V.seq ?_
  refine V.region ?_
  refine V.run T_ok 5 rfl ?_
  refine V.andG T_ok 2 4 15 rfl rfl rfl rfl rfl rfl rfl rfl ?_
  refine V.nil ?_
  refine V.tN ?_
  refine V.condT rfl (fun h4 => ?_) (fun h4 => ?_)
  ·
    try simp only [decide_eq_true_eq, decide_eq_false_iff_not, Bool.or_eq_true, Bool.and_eq_true, Bool.or_eq_false_iff, Bool.and_eq_false_iff, Bool.not_eq_true', Bool.not_eq_false', Int.not_lt, Int.not_le, Decidable.not_not, V.u8eq, V.S_inj, V.S_lit, V.S_lit2] at h4
    refine V.skip ?_
    refine V.tN ?_
    refine V.seq ?_
    refine V.block ?_
    refine V.seq ?_
    refine V.region ?_
    refine V.run T_ok 2 rfl ?_
    refine V.elem T_ok F_script rfl rfl sz25 rfl rfl rfl rfl (by first | omega | (simp only [List.length_take, List.length_drop, List.length_append, List.length_cons, List.length_nil, List.length_replicate, List.length_set, V.length_data, V.S_size]; omega)) (by first | omega | (simp only [List.length_take, List.length_drop, List.length_append, List.length_cons, List.length_nil, List.length_replicate, List.length_set, V.length_data, V.S_size]; omega)) ?_
    rintro b19 o20 cs21 hx22 hb23 hR29 hA24
    obtain ⟨x25, hx25⟩ : ∃ z', script[((i : Int)).toNat] = z' := ⟨_, rfl⟩
    rw [hx25] at hR29
    obtain ⟨_, _, rfl, rfl, ⟨_, _, rfl, rfl, ⟨_, _, rfl, ⟨a26, c27, rfl, F28⟩, ⟨_, _, rfl, rfl, rfl⟩⟩⟩⟩ := hR29
    try simp only [Int.toNat_natCast] at hx25 hx22
    refine V.loadA T_ok (o0 := o20) (off := 0) hA24 rfl rfl rfl rfl rfl ?_
    have FDs3 := FXd
    have FDs4 := FXm
    have GX := V.Fr.refl [] v17
    refine V.alloc zero25 rfl rfl rfl ?_
    rintro k30 w32 s34 s35 G33 Fk31
    have z36 := V.Fr.size G33
    try replace F_script := F_script.gr G33
    try replace FXd := FXd.gr G33
    try replace FXm := FXm.gr G33
    try replace F28 := F28.gr G33
    try replace GX := GX.gr G33
    replace HG := HG.grow G33
    clear G33
    try simp only [V.cellsL, V.spliceL] at Fk31
    replace FXd := FDs3.cut GX
    replace FXm := FDs4.cut GX
    clear GX
    refine V.storeO Fk31 rfl rfl rfl rfl sz25 rfl rfl rfl rfl ?_
    rintro w37 G38 z40 Fs39
    clear Fk31
    have z41 := V.Fr.size G38
    first | replace F_script := F_script.mv1 G38 (by first | exact (fun h => by have := hD_script _ h; omega) | omega) | clear F_script | skip
    first | replace FXd := FXd.mv1 G38 (by first | exact ⟨by omega, by assumption⟩ | exact ⟨by omega, fun h => absurd h.1 (by assumption)⟩ | exact ⟨by omega, fun h => absurd h.1.1 (by assumption)⟩ | exact ⟨by omega, fun h => by first | (have h2 := h.1; have h3 := h.2; omega) | (have h2 := h; dsimp only at h2; omega)⟩ | first | omega | exact fun h => h | exact ⟨by omega, fun h => h⟩ | (intro h; first | (have := hD_script _ h; omega)) | (refine ⟨by omega, ?_⟩; intro h; first | (have := hD_script _ h; omega))) | clear FXd | skip
    first | replace FXm := FXm.mv1 G38 (by first | exact ⟨by omega, by assumption⟩ | exact ⟨by omega, fun h => absurd h.1 (by assumption)⟩ | exact ⟨by omega, fun h => absurd h.1.1 (by assumption)⟩ | exact ⟨by omega, fun h => by first | (have h2 := h.1; have h3 := h.2; omega) | (have h2 := h; dsimp only at h2; omega)⟩ | first | omega | exact fun h => h | exact ⟨by omega, fun h => h⟩ | (intro h; first | (have := hD_script _ h; omega)) | (refine ⟨by omega, ?_⟩; intro h; first | (have := hD_script _ h; omega))) | clear FXm | skip
    first | replace F28 := F28.mv1 G38 (by first | exact (fun h => by have := hD_script _ h; omega) | omega) | clear F28 | skip
    replace HG := HG.new1 G38 (by first | (refine Or.inr ?_; omega) | (refine Or.inl ?_; simp; done))
    clear G38
    have Fk31 := Fs39; clear Fs39
    simp only [V.spliceL, V.cellsL] at Fk31
    refine V.nil ?_
    refine V.tN ?_
    refine V.seq ?_
    refine V.seq ?_
    refine V.region ?_
    refine V.run T_ok 1 rfl ?_
    refine V.loadO T_ok Fk31 rfl rfl rfl rfl rfl ?_
    refine V.run T_ok 2 rfl ?_
    refine V.nil ?_
    refine V.tN ?_
    refine V.condT rfl (fun h7 => ?_) (fun h7 => ?_)
    ·
      try simp only [decide_eq_true_eq, decide_eq_false_iff_not, Bool.or_eq_true, Bool.and_eq_true, Bool.or_eq_false_iff, Bool.and_eq_false_iff, Bool.not_eq_true', Bool.not_eq_false', Int.not_lt, Int.not_le, Decidable.not_not, V.u8eq, V.S_inj, V.S_lit, V.S_lit2] at h7
      refine V.exit ?_
      refine V.tX ?_
      refine V.bE ?_
      refine V.tN ?_
      refine V.region ?_
      refine V.run T_ok 1 rfl ?_
      refine V.addN rfl rfl rfl rfl rfl (by first | omega | (simp only [List.length_take, List.length_drop, List.length_append, List.length_cons, List.length_nil, List.length_replicate, List.length_set, V.length_data, V.S_size]; omega)) (by first | omega | (simp only [List.length_take, List.length_drop, List.length_append, List.length_cons, List.length_nil, List.length_replicate, List.length_set, V.length_data, V.S_size]; omega)) ?_
      refine V.run T_ok 1 rfl ?_
      refine V.nil ?_
      refine V.tN ?_
      exact ⟨_, (by omega), HG, (by omega), F_script, (d), (kd), (km), ((fun j => Dd j ∧ (j < v17.heap.size ∨ w32.heap.size ≤ j))), ((fun j => Dm j ∧ (j < v17.heap.size ∨ w32.heap.size ≤ j))), (i + 1), rfl, (by omega), (by first | assumption | (intro h; have h1 := h; (try dsimp only at h1); omega) | (intro h; exact absurd h.1 (by assumption)) | (intro h; have h2 := h.2; (try dsimp only at h2); omega) | (intro h; have h2 := h.1.2; (try dsimp only at h2); omega) | (intro h; have h2 := h.1.1.2; (try dsimp only at h2); omega) | (intro h; exact absurd h.1.1 (by assumption))), (by first | assumption | (intro h; have h1 := h; (try dsimp only at h1); omega) | (intro h; exact absurd h.1 (by assumption)) | (intro h; have h2 := h.2; (try dsimp only at h2); omega) | (intro h; have h2 := h.1.2; (try dsimp only at h2); omega) | (intro h; have h2 := h.1.1.2; (try dsimp only at h2); omega) | (intro h; exact absurd h.1.1 (by assumption))), (by omega), (by omega), (by omega), (by omega), (by first | exact FXd | exact FXd.mono (fun _ h => h.1) (by intro h; omega)), (by first | exact FXm | exact FXm.mono (fun _ h => h.1) (by intro h; omega)), rfl, rfl, rfl, rfl⟩
    ·
      try simp only [decide_eq_true_eq, decide_eq_false_iff_not, Bool.or_eq_true, Bool.and_eq_true, Bool.or_eq_false_iff, Bool.and_eq_false_iff, Bool.not_eq_true', Bool.not_eq_false', Int.not_lt, Int.not_le, Decidable.not_not, V.u8eq, V.S_inj, V.S_lit, V.S_lit2] at h7
      refine V.skip ?_
      refine V.tN ?_
      refine V.seq ?_
      refine V.region ?_
      refine V.run T_ok 1 rfl ?_
      refine V.nil ?_
      refine V.tN ?_
      refine V.seq ?_
      refine V.seq ?_
      refine V.region ?_
      refine V.run T_ok 1 rfl ?_
      refine V.loadO T_ok Fk31 rfl rfl rfl rfl rfl ?_
      refine V.nil ?_
      refine V.tN ?_
      refine V.block ?_
      refine V.seq ?_
      refine V.region ?_
      refine V.run T_ok 2 rfl ?_
      refine V.nil ?_
      refine V.tN ?_
      refine V.condT rfl (fun h10 => ?_) (fun h10 => ?_)
      ·
        try simp only [decide_eq_true_eq, decide_eq_false_iff_not, Bool.or_eq_true, Bool.and_eq_true, Bool.or_eq_false_iff, Bool.and_eq_false_iff, Bool.not_eq_true', Bool.not_eq_false', Int.not_lt, Int.not_le, Decidable.not_not, V.u8eq, V.S_inj, V.S_lit, V.S_lit2] at h10
        refine V.drawM [kd, km] (fun i => Nat.beq i 3 || Nat.beq i 7) mixed (by kernel_rfl) (by kernel_rfl) ?_
        refine V.mrun T_ok 2 rfl rfl ?_
        refine V.mloadO T_ok (fun w' g => Fk31.mv g (by intro i hi; simp at hi; omega)) rfl rfl rfl rfl rfl rfl ?_
        refine V.mcall rfl (fun w' g h => dappend_spec (show Dsk w' kd (fun j => Dd j ∧ (j < v17.heap.size ∨ w32.heap.size ≤ j)) d from by have g0 := h; exact (FXd.gr g0)) (show Sl V.Cod.byte w' D_script a26 c27 x25.2.2.1 from by have g0 := h; exact (F28.gr g0)) (by first | omega | (simp only [List.length_take, List.length_drop, List.length_append, List.length_cons, List.length_nil, List.length_replicate, List.length_set, V.length_data, V.S_size]; omega))) (by rintro wa va wb ca _ ⟨rfl, F42, G43⟩; exact (ca.trans G43).mono (by intro k hk _; simp at hk ⊢; omega)) rfl rfl rfl ?_
        rintro _ w46 w47 _ _ ⟨rfl, F42, G43⟩
        refine V.mrun T_ok 2 rfl rfl ?_
        refine V.mloadO T_ok (fun w' g => Fk31.mv g (by intro i hi; simp at hi; omega)) rfl rfl rfl rfl rfl rfl ?_
        refine V.mcall rfl (fun w' g h => rappend_spec (show RDsk w' km (fun j => Dm j ∧ (j < v17.heap.size ∨ w32.heap.size ≤ j)) d from by obtain ⟨w44, c45, g0, ⟨-, F42, G43⟩⟩ := h; exact ((FXm.gr g0).mv1 G43 (by first | exact ⟨by omega, by assumption⟩ | exact ⟨by omega, fun h => absurd h.1 (by assumption)⟩ | exact ⟨by omega, fun h => absurd h.1.1 (by assumption)⟩ | exact ⟨by omega, fun h => by first | (have h2 := h.1; have h3 := h.2; omega) | (have h2 := h; dsimp only at h2; omega)⟩ | first | omega | exact fun h => h | exact ⟨by omega, fun h => h⟩ | (intro h; first | (have := hD_script _ h; omega)) | (refine ⟨by omega, ?_⟩; intro h; first | (have := hD_script _ h; omega))))) (show Sl V.Cod.byte w' D_script a26 c27 x25.2.2.1 from by obtain ⟨w44, c45, g0, ⟨-, F42, G43⟩⟩ := h; exact ((F28.gr g0).mv1 G43 (by first | exact (fun h => by have := hD_script _ h; omega) | omega))) (by first | omega | (simp only [List.length_take, List.length_drop, List.length_append, List.length_cons, List.length_nil, List.length_replicate, List.length_set, V.length_data, V.S_size]; omega))) (by rintro wa va wb ca _ ⟨rfl, F48, G49⟩; exact (ca.trans G49).mono (by intro k hk _; simp at hk ⊢; omega)) rfl rfl rfl ?_
        rintro _ w52 w53 _ _ ⟨rfl, F48, G49⟩
        refine V.mrun T_ok 2 rfl rfl ?_
        refine V.mnil ?_
        rintro w54 c56 hN55
        obtain ⟨w50, c51, ⟨w44, c45, g0, ⟨-, F42, G43⟩⟩, ⟨-, F48, G49⟩⟩ := hN55
        have z57 := V.Fr.size g0
        try replace F_script := F_script.gr g0
        try replace FXd := FXd.gr g0
        try replace FXm := FXm.gr g0
        try replace F28 := F28.gr g0
        try replace Fk31 := Fk31.gr g0
        replace HG := HG.grow g0
        clear g0
        have z58 := V.Fr.size G43
        first | replace F_script := F_script.mv1 G43 (by first | exact (fun h => by have := hD_script _ h; omega) | omega) | clear F_script | skip
        first | replace FXd := FXd.mv1 G43 (by first | exact ⟨by omega, by assumption⟩ | exact ⟨by omega, fun h => absurd h.1 (by assumption)⟩ | exact ⟨by omega, fun h => absurd h.1.1 (by assumption)⟩ | exact ⟨by omega, fun h => by first | (have h2 := h.1; have h3 := h.2; omega) | (have h2 := h; dsimp only at h2; omega)⟩ | first | omega | exact fun h => h | exact ⟨by omega, fun h => h⟩ | (intro h; first | (have := hD_script _ h; omega)) | (refine ⟨by omega, ?_⟩; intro h; first | (have := hD_script _ h; omega))) | clear FXd | skip
        first | replace FXm := FXm.mv1 G43 (by first | exact ⟨by omega, by assumption⟩ | exact ⟨by omega, fun h => absurd h.1 (by assumption)⟩ | exact ⟨by omega, fun h => absurd h.1.1 (by assumption)⟩ | exact ⟨by omega, fun h => by first | (have h2 := h.1; have h3 := h.2; omega) | (have h2 := h; dsimp only at h2; omega)⟩ | first | omega | exact fun h => h | exact ⟨by omega, fun h => h⟩ | (intro h; first | (have := hD_script _ h; omega)) | (refine ⟨by omega, ?_⟩; intro h; first | (have := hD_script _ h; omega))) | clear FXm | skip
        first | replace F28 := F28.mv1 G43 (by first | exact (fun h => by have := hD_script _ h; omega) | omega) | clear F28 | skip
        first | replace Fk31 := Fk31.mv1 G43 (by omega) | clear Fk31 | skip
        replace HG := HG.new1 G43 (by first | (refine Or.inr ?_; omega) | (refine Or.inl ?_; simp; done))
        clear G43
        have z59 := V.Fr.size G49
        first | replace F_script := F_script.mv1 G49 (by first | exact (fun h => by have := hD_script _ h; omega) | omega) | clear F_script | skip
        first | replace FXm := FXm.mv1 G49 (by first | exact ⟨by omega, by assumption⟩ | exact ⟨by omega, fun h => absurd h.1 (by assumption)⟩ | exact ⟨by omega, fun h => absurd h.1.1 (by assumption)⟩ | exact ⟨by omega, fun h => by first | (have h2 := h.1; have h3 := h.2; omega) | (have h2 := h; dsimp only at h2; omega)⟩ | first | omega | exact fun h => h | exact ⟨by omega, fun h => h⟩ | (intro h; first | (have := hD_script _ h; omega)) | (refine ⟨by omega, ?_⟩; intro h; first | (have := hD_script _ h; omega))) | clear FXm | skip
        first | replace F28 := F28.mv1 G49 (by first | exact (fun h => by have := hD_script _ h; omega) | omega) | clear F28 | skip
        first | replace Fk31 := Fk31.mv1 G49 (by omega) | clear Fk31 | skip
        first | replace F42 := F42.mv1 G49 (by first | exact ⟨by omega, by assumption⟩ | exact ⟨by omega, fun h => absurd h.1 (by assumption)⟩ | exact ⟨by omega, fun h => absurd h.1.1 (by assumption)⟩ | exact ⟨by omega, fun h => by first | (have h2 := h.1; have h3 := h.2; omega) | (have h2 := h; dsimp only at h2; omega)⟩ | first | omega | exact fun h => h | exact ⟨by omega, fun h => h⟩ | (intro h; first | (have := hD_script _ h; omega)) | (refine ⟨by omega, ?_⟩; intro h; first | (have := hD_script _ h; omega))) | clear F42 | skip
        replace HG := HG.new1 G49 (by first | (refine Or.inr ?_; omega) | (refine Or.inl ?_; simp; done))
        clear G49
        refine V.bN ?_
        refine V.tN ?_
        refine V.seq ?_
        obtain ⟨-, hnwX, a60, c64, a61, c65, a62, c66, a63, c67, F72, F68, F69, F70, F71⟩ := F48.ex
        refine V.drawGT 28 (V.sel [(4, (fun v wz => ∃ (ra5 : Option Addr) (rc5 : Nat), v = .slice ra5 (dAppend d x25.2.2.1).nf.length rc5 ∧ V.Row V.Cod.byte 5 wz V.None' w54.heap.size wz.heap.size ra5 rc5 (dAppend d x25.2.2.1).nf)), (15, (fun v wz => ∃ (ra6 : Option Addr) (rc6 : Nat), v = .slice ra6 (dAppend d x25.2.2.1).nc.length rc6 ∧ V.Row V.Cod.byte 5 wz V.None' w54.heap.size wz.heap.size ra6 rc6 (dAppend d x25.2.2.1).nc)), (26, (fun v wz => v = .bool (dDirty (dAppend d x25.2.2.1))))]) mixed (by kernel_rfl) (V.mono_cons (by rintro v wz wz' g ⟨ra5, rc5, rfl, rF5⟩; exact ⟨ra5, rc5, rfl, (by first | exact (rF5.gr g).mono (V.In.sub (Nat.le_refl _) g.size) | exact rF5.gr g | exact (rF5.gr g).mono (fun _ h => h) (Nat.le_refl _) g.size | exact (rF5.gr g).mono (fun k h => ⟨h.1, Nat.lt_of_lt_of_le h.2 g.size⟩))⟩) (V.mono_cons (by rintro v wz wz' g ⟨ra6, rc6, rfl, rF6⟩; exact ⟨ra6, rc6, rfl, (by first | exact (rF6.gr g).mono (V.In.sub (Nat.le_refl _) g.size) | exact rF6.gr g | exact (rF6.gr g).mono (fun _ h => h) (Nat.le_refl _) g.size | exact (rF6.gr g).mono (fun k h => ⟨h.1, Nat.lt_of_lt_of_le h.2 g.size⟩))⟩) (V.mono_cons V.eqV_mono V.mono_nil))) ?_
        refine V.grun T_ok 3 rfl (V.sel_none rfl) ?_
        refine V.gsplitF (j := 2) (t := 91) rfl rfl (by (simp)) ?_
        refine V.grun T_ok 1 rfl (V.sel_none rfl) ?_
        refine V.gyes rfl rfl rfl ?_
        refine V.gcall (fun w' h => (dfile_spec (F42.gr h.1)).mono (by rintro v w'' ⟨ra5, rc5, rfl, rF5, G⟩; exact ⟨⟨ra5, rc5, rfl, (by first | exact rF5.mono (V.In.mono_l h.1.size) | exact rF5 | exact rF5.mono (fun _ h => h) h.1.size (Nat.le_refl _))⟩, G⟩)) rfl rfl rfl rfl ?_
        rintro _ w76 - - ⟨a73, c74, rfl, -⟩
        refine V.gyes rfl rfl rfl ?_
        refine V.gtoStr (fun w' h => by obtain ⟨_, _, he, F0⟩ := (V.Hist.here (h.get (i := 4) rfl)); cases he; exact F0.sl.mono (fun _ _ => trivial)) Try.underlying22 Try.underlying5 Try.underlying9 rfl rfl rfl rfl rfl ?_
        refine V.grun T_ok 3 rfl (V.sel_none rfl) ?_
        refine V.gyes rfl rfl rfl ?_
        refine V.gloadO T_ok (fun w' h => F72.gr h.1) rfl rfl rfl rfl rfl rfl ?_
        refine V.gyes rfl rfl rfl ?_
        refine V.gtoStr (fun w' h => F69.gr h.1) Try.underlying22 Try.underlying5 Try.underlying9 rfl rfl rfl rfl rfl ?_
        refine V.grun T_ok 3 rfl (V.sel_none rfl) ?_
        refine V.gsplitF (j := 13) (t := 102) rfl rfl (by (simp)) ?_
        refine V.grun T_ok 1 rfl (V.sel_none rfl) ?_
        refine V.gyes rfl rfl rfl ?_
        refine V.gcall (fun w' h => (dcell_spec (F42.gr h.1)).mono (by rintro v w'' ⟨ra6, rc6, rfl, rF6, G⟩; exact ⟨⟨ra6, rc6, rfl, (by first | exact rF6.mono (V.In.mono_l h.1.size) | exact rF6 | exact rF6.mono (fun _ h => h) h.1.size (Nat.le_refl _))⟩, G⟩)) rfl rfl rfl rfl ?_
        rintro _ w80 - - ⟨a77, c78, rfl, -⟩
        refine V.gyes rfl rfl rfl ?_
        refine V.gtoStr (fun w' h => by obtain ⟨_, _, he, F0⟩ := (V.Hist.here (h.get (i := 15) rfl)); cases he; exact F0.sl.mono (fun _ _ => trivial)) Try.underlying22 Try.underlying5 Try.underlying9 rfl rfl rfl rfl rfl ?_
        refine V.grun T_ok 3 rfl (V.sel_none rfl) ?_
        refine V.gyes rfl rfl rfl ?_
        refine V.gloadO T_ok (fun w' h => F72.gr h.1) rfl rfl rfl rfl rfl rfl ?_
        refine V.gyes rfl rfl rfl ?_
        refine V.gtoStr (fun w' h => F71.gr h.1) Try.underlying22 Try.underlying5 Try.underlying9 rfl rfl rfl rfl rfl ?_
        refine V.grun T_ok 3 rfl (V.sel_none rfl) ?_
        refine V.gsplitF (j := 24) (t := 113) rfl rfl (by (simp)) ?_
        refine V.grun T_ok 1 rfl (V.sel_none rfl) ?_
        refine V.gyes rfl rfl rfl ?_
        refine V.gcall (fun w' h => (ddirty_spec (F42.gr h.1)).mono (by rintro v w'' ⟨rfl, G⟩; exact ⟨rfl, G⟩)) rfl rfl rfl rfl ?_
        rintro _ w81 - - rfl
        refine V.grun T_ok 1 rfl (V.sel_none rfl) ?_
        refine V.gnil ?_
        rintro w82 G83 hH84
        have z85 := V.Fr.size G83
        try replace F_script := F_script.gr G83
        try replace F28 := F28.gr G83
        try replace Fk31 := Fk31.gr G83
        try replace F42 := F42.gr G83
        try replace F48 := F48.gr G83
        try replace F68 := F68.gr G83
        try replace F69 := F69.gr G83
        try replace F70 := F70.gr G83
        try replace F71 := F71.gr G83
        try replace F72 := F72.gr G83
        replace HG := HG.grow G83
        clear G83
        have F75 : V.Row V.Cod.byte 5 w82 V.None' w54.heap.size w82.heap.size a73 c74 (dAppend d x25.2.2.1).nf := by
          obtain ⟨_, _, he, F0⟩ := (V.Hist.here (V.Hist.old (V.Hist.old (hH84 4))))
          cases he
          exact F0
        have F79 : V.Row V.Cod.byte 5 w82 V.None' w54.heap.size w82.heap.size a77 c78 (dAppend d x25.2.2.1).nc := by
          obtain ⟨_, _, he, F0⟩ := (V.Hist.here (V.Hist.old (hH84 15)))
          cases he
          exact F0
        clear hH84
        refine V.yes rfl rfl rfl ?_
        refine V.call (rdirty_spec F48) rfl rfl rfl ?_
        rintro _ w86 ⟨rfl, G87⟩
        have z88 := V.Fr.size G87
        try replace F_script := F_script.gr G87
        try replace F28 := F28.gr G87
        try replace Fk31 := Fk31.gr G87
        try replace F42 := F42.gr G87
        try replace F48 := F48.gr G87
        try replace F68 := F68.gr G87
        try replace F69 := F69.gr G87
        try replace F70 := F70.gr G87
        try replace F71 := F71.gr G87
        try replace F72 := F72.gr G87
        try replace F75 := F75.gr G87
        try replace F79 := F79.gr G87
        replace HG := HG.grow G87
        clear G87
        refine V.run T_ok 2 rfl ?_
        refine V.nil ?_
        refine V.tN ?_
        refine V.condN rfl (by (simp)) ?_
        refine V.skip ?_
        refine V.bN ?_
        refine V.tN ?_
        refine V.region ?_
        refine V.run T_ok 1 rfl ?_
        refine V.addN rfl rfl rfl rfl rfl (by first | omega | (simp only [List.length_take, List.length_drop, List.length_append, List.length_cons, List.length_nil, List.length_replicate, List.length_set, V.length_data, V.S_size]; omega)) (by first | omega | (simp only [List.length_take, List.length_drop, List.length_append, List.length_cons, List.length_nil, List.length_replicate, List.length_set, V.length_data, V.S_size]; omega)) ?_
        refine V.run T_ok 1 rfl ?_
        refine V.nil ?_
        refine V.tN ?_
        exact ⟨_, (by omega), HG, (by omega), F_script, (dAppend d x25.2.2.1), (kd), (km), ((fun j => Dd j ∧ (j < v17.heap.size ∨ w32.heap.size ≤ j))), ((fun j => Dm j ∧ (j < v17.heap.size ∨ w32.heap.size ≤ j))), (i + 1), rfl, (by omega), (by first | assumption | (intro h; have h1 := h; (try dsimp only at h1); omega) | (intro h; exact absurd h.1 (by assumption)) | (intro h; have h2 := h.2; (try dsimp only at h2); omega) | (intro h; have h2 := h.1.2; (try dsimp only at h2); omega) | (intro h; have h2 := h.1.1.2; (try dsimp only at h2); omega) | (intro h; exact absurd h.1.1 (by assumption))), (by first | assumption | (intro h; have h1 := h; (try dsimp only at h1); omega) | (intro h; exact absurd h.1 (by assumption)) | (intro h; have h2 := h.2; (try dsimp only at h2); omega) | (intro h; have h2 := h.1.2; (try dsimp only at h2); omega) | (intro h; have h2 := h.1.1.2; (try dsimp only at h2); omega) | (intro h; exact absurd h.1.1 (by assumption))), (by omega), (by omega), (by omega), (by omega), (by first | exact F42 | exact F42.mono (fun _ h => h.1) (by intro h; omega)), (by first | exact F48 | exact F48.mono (fun _ h => h.1) (by intro h; omega)), rfl, rfl, rfl, rfl⟩
      ·
        try simp only [decide_eq_true_eq, decide_eq_false_iff_not, Bool.or_eq_true, Bool.and_eq_true, Bool.or_eq_false_iff, Bool.and_eq_false_iff, Bool.not_eq_true', Bool.not_eq_false', Int.not_lt, Int.not_le, Decidable.not_not, V.u8eq, V.S_inj, V.S_lit, V.S_lit2] at h10
        refine V.seq ?_
        refine V.region ?_
        refine V.run T_ok 2 rfl ?_
        refine V.nil ?_
        refine V.tN ?_
        refine V.condT rfl (fun h12 => ?_) (fun h12 => ?_)
        ·
          try simp only [decide_eq_true_eq, decide_eq_false_iff_not, Bool.or_eq_true, Bool.and_eq_true, Bool.or_eq_false_iff, Bool.and_eq_false_iff, Bool.not_eq_true', Bool.not_eq_false', Int.not_lt, Int.not_le, Decidable.not_not, V.u8eq, V.S_inj, V.S_lit, V.S_lit2] at h12
          refine V.drawM [kd, km] (fun i => Nat.beq i 3 || Nat.beq i 7) mixed (by kernel_rfl) (by kernel_rfl) ?_
          refine V.mrun T_ok 2 rfl rfl ?_
          refine V.mloadO T_ok (fun w' g => Fk31.mv g (by intro i hi; simp at hi; omega)) rfl rfl rfl rfl rfl rfl ?_
          refine V.mcall rfl (fun w' g h => dcut_spec (n := x25.2.1) (show Dsk w' kd (fun j => Dd j ∧ (j < v17.heap.size ∨ w32.heap.size ≤ j)) d from by have g0 := h; exact (FXd.gr g0))) (by rintro wa va wb ca _ ⟨rfl, F89, G90⟩; exact (ca.trans G90).mono (by intro k hk _; simp at hk ⊢; omega)) rfl rfl rfl ?_
          rintro _ w93 w94 _ _ ⟨rfl, F89, G90⟩
          refine V.mrun T_ok 2 rfl rfl ?_
          refine V.mloadO T_ok (fun w' g => Fk31.mv g (by intro i hi; simp at hi; omega)) rfl rfl rfl rfl rfl rfl ?_
          refine V.mcall rfl (fun w' g h => rcut_spec (n := x25.2.1) (show RDsk w' km (fun j => Dm j ∧ (j < v17.heap.size ∨ w32.heap.size ≤ j)) d from by obtain ⟨w91, c92, g0, ⟨-, F89, G90⟩⟩ := h; exact ((FXm.gr g0).mv1 G90 (by first | exact ⟨by omega, by assumption⟩ | exact ⟨by omega, fun h => absurd h.1 (by assumption)⟩ | exact ⟨by omega, fun h => absurd h.1.1 (by assumption)⟩ | exact ⟨by omega, fun h => by first | (have h2 := h.1; have h3 := h.2; omega) | (have h2 := h; dsimp only at h2; omega)⟩ | first | omega | exact fun h => h | exact ⟨by omega, fun h => h⟩ | (intro h; first | (have := hD_script _ h; omega)) | (refine ⟨by omega, ?_⟩; intro h; first | (have := hD_script _ h; omega)))))) (by rintro wa va wb ca _ ⟨rfl, F95, G96⟩; exact (ca.trans G96).mono (by intro k hk _; simp at hk ⊢; omega)) rfl rfl rfl ?_
          rintro _ w99 w100 _ _ ⟨rfl, F95, G96⟩
          refine V.mrun T_ok 2 rfl rfl ?_
          refine V.mnil ?_
          rintro w101 c103 hN102
          obtain ⟨w97, c98, ⟨w91, c92, g0, ⟨-, F89, G90⟩⟩, ⟨-, F95, G96⟩⟩ := hN102
          have z104 := V.Fr.size g0
          try replace F_script := F_script.gr g0
          try replace FXd := FXd.gr g0
          try replace FXm := FXm.gr g0
          try replace F28 := F28.gr g0
          try replace Fk31 := Fk31.gr g0
          replace HG := HG.grow g0
          clear g0
          have z105 := V.Fr.size G90
          first | replace F_script := F_script.mv1 G90 (by first | exact (fun h => by have := hD_script _ h; omega) | omega) | clear F_script | skip
          first | replace FXd := FXd.mv1 G90 (by first | exact ⟨by omega, by assumption⟩ | exact ⟨by omega, fun h => absurd h.1 (by assumption)⟩ | exact ⟨by omega, fun h => absurd h.1.1 (by assumption)⟩ | exact ⟨by omega, fun h => by first | (have h2 := h.1; have h3 := h.2; omega) | (have h2 := h; dsimp only at h2; omega)⟩ | first | omega | exact fun h => h | exact ⟨by omega, fun h => h⟩ | (intro h; first | (have := hD_script _ h; omega)) | (refine ⟨by omega, ?_⟩; intro h; first | (have := hD_script _ h; omega))) | clear FXd | skip
          first | replace FXm := FXm.mv1 G90 (by first | exact ⟨by omega, by assumption⟩ | exact ⟨by omega, fun h => absurd h.1 (by assumption)⟩ | exact ⟨by omega, fun h => absurd h.1.1 (by assumption)⟩ | exact ⟨by omega, fun h => by first | (have h2 := h.1; have h3 := h.2; omega) | (have h2 := h; dsimp only at h2; omega)⟩ | first | omega | exact fun h => h | exact ⟨by omega, fun h => h⟩ | (intro h; first | (have := hD_script _ h; omega)) | (refine ⟨by omega, ?_⟩; intro h; first | (have := hD_script _ h; omega))) | clear FXm | skip
          first | replace F28 := F28.mv1 G90 (by first | exact (fun h => by have := hD_script _ h; omega) | omega) | clear F28 | skip
          first | replace Fk31 := Fk31.mv1 G90 (by omega) | clear Fk31 | skip
          replace HG := HG.new1 G90 (by first | (refine Or.inr ?_; omega) | (refine Or.inl ?_; simp; done))
          clear G90
          have z106 := V.Fr.size G96
          first | replace F_script := F_script.mv1 G96 (by first | exact (fun h => by have := hD_script _ h; omega) | omega) | clear F_script | skip
          first | replace FXm := FXm.mv1 G96 (by first | exact ⟨by omega, by assumption⟩ | exact ⟨by omega, fun h => absurd h.1 (by assumption)⟩ | exact ⟨by omega, fun h => absurd h.1.1 (by assumption)⟩ | exact ⟨by omega, fun h => by first | (have h2 := h.1; have h3 := h.2; omega) | (have h2 := h; dsimp only at h2; omega)⟩ | first | omega | exact fun h => h | exact ⟨by omega, fun h => h⟩ | (intro h; first | (have := hD_script _ h; omega)) | (refine ⟨by omega, ?_⟩; intro h; first | (have := hD_script _ h; omega))) | clear FXm | skip
          first | replace F28 := F28.mv1 G96 (by first | exact (fun h => by have := hD_script _ h; omega) | omega) | clear F28 | skip
          first | replace Fk31 := Fk31.mv1 G96 (by omega) | clear Fk31 | skip
          first | replace F89 := F89.mv1 G96 (by first | exact ⟨by omega, by assumption⟩ | exact ⟨by omega, fun h => absurd h.1 (by assumption)⟩ | exact ⟨by omega, fun h => absurd h.1.1 (by assumption)⟩ | exact ⟨by omega, fun h => by first | (have h2 := h.1; have h3 := h.2; omega) | (have h2 := h; dsimp only at h2; omega)⟩ | first | omega | exact fun h => h | exact ⟨by omega, fun h => h⟩ | (intro h; first | (have := hD_script _ h; omega)) | (refine ⟨by omega, ?_⟩; intro h; first | (have := hD_script _ h; omega))) | clear F89 | skip
          replace HG := HG.new1 G96 (by first | (refine Or.inr ?_; omega) | (refine Or.inl ?_; simp; done))
          clear G96
          refine V.bN ?_
          refine V.tN ?_
          refine V.seq ?_
          obtain ⟨-, hnwX, a107, c111, a108, c112, a109, c113, a110, c114, F119, F115, F116, F117, F118⟩ := F95.ex
          refine V.drawGT 28 (V.sel [(4, (fun v wz => ∃ (ra5 : Option Addr) (rc5 : Nat), v = .slice ra5 (dCut d x25.2.1).nf.length rc5 ∧ V.Row V.Cod.byte 5 wz V.None' w101.heap.size wz.heap.size ra5 rc5 (dCut d x25.2.1).nf)), (15, (fun v wz => ∃ (ra6 : Option Addr) (rc6 : Nat), v = .slice ra6 (dCut d x25.2.1).nc.length rc6 ∧ V.Row V.Cod.byte 5 wz V.None' w101.heap.size wz.heap.size ra6 rc6 (dCut d x25.2.1).nc)), (26, (fun v wz => v = .bool (dDirty (dCut d x25.2.1))))]) mixed (by kernel_rfl) (V.mono_cons (by rintro v wz wz' g ⟨ra5, rc5, rfl, rF5⟩; exact ⟨ra5, rc5, rfl, (by first | exact (rF5.gr g).mono (V.In.sub (Nat.le_refl _) g.size) | exact rF5.gr g | exact (rF5.gr g).mono (fun _ h => h) (Nat.le_refl _) g.size | exact (rF5.gr g).mono (fun k h => ⟨h.1, Nat.lt_of_lt_of_le h.2 g.size⟩))⟩) (V.mono_cons (by rintro v wz wz' g ⟨ra6, rc6, rfl, rF6⟩; exact ⟨ra6, rc6, rfl, (by first | exact (rF6.gr g).mono (V.In.sub (Nat.le_refl _) g.size) | exact rF6.gr g | exact (rF6.gr g).mono (fun _ h => h) (Nat.le_refl _) g.size | exact (rF6.gr g).mono (fun k h => ⟨h.1, Nat.lt_of_lt_of_le h.2 g.size⟩))⟩) (V.mono_cons V.eqV_mono V.mono_nil))) ?_
          refine V.grun T_ok 3 rfl (V.sel_none rfl) ?_
          refine V.gsplitF (j := 2) (t := 91) rfl rfl (by (simp)) ?_
          refine V.grun T_ok 1 rfl (V.sel_none rfl) ?_
          refine V.gyes rfl rfl rfl ?_
          refine V.gcall (fun w' h => (dfile_spec (F89.gr h.1)).mono (by rintro v w'' ⟨ra5, rc5, rfl, rF5, G⟩; exact ⟨⟨ra5, rc5, rfl, (by first | exact rF5.mono (V.In.mono_l h.1.size) | exact rF5 | exact rF5.mono (fun _ h => h) h.1.size (Nat.le_refl _))⟩, G⟩)) rfl rfl rfl rfl ?_
          rintro _ w123 - - ⟨a120, c121, rfl, -⟩
          refine V.gyes rfl rfl rfl ?_
          refine V.gtoStr (fun w' h => by obtain ⟨_, _, he, F0⟩ := (V.Hist.here (h.get (i := 4) rfl)); cases he; exact F0.sl.mono (fun _ _ => trivial)) Try.underlying22 Try.underlying5 Try.underlying9 rfl rfl rfl rfl rfl ?_
          refine V.grun T_ok 3 rfl (V.sel_none rfl) ?_
          refine V.gyes rfl rfl rfl ?_
          refine V.gloadO T_ok (fun w' h => F119.gr h.1) rfl rfl rfl rfl rfl rfl ?_
          refine V.gyes rfl rfl rfl ?_
          refine V.gtoStr (fun w' h => F116.gr h.1) Try.underlying22 Try.underlying5 Try.underlying9 rfl rfl rfl rfl rfl ?_
          refine V.grun T_ok 3 rfl (V.sel_none rfl) ?_
          refine V.gsplitF (j := 13) (t := 102) rfl rfl (by (simp)) ?_
          refine V.grun T_ok 1 rfl (V.sel_none rfl) ?_
          refine V.gyes rfl rfl rfl ?_
          refine V.gcall (fun w' h => (dcell_spec (F89.gr h.1)).mono (by rintro v w'' ⟨ra6, rc6, rfl, rF6, G⟩; exact ⟨⟨ra6, rc6, rfl, (by first | exact rF6.mono (V.In.mono_l h.1.size) | exact rF6 | exact rF6.mono (fun _ h => h) h.1.size (Nat.le_refl _))⟩, G⟩)) rfl rfl rfl rfl ?_
          rintro _ w127 - - ⟨a124, c125, rfl, -⟩
          refine V.gyes rfl rfl rfl ?_
          refine V.gtoStr (fun w' h => by obtain ⟨_, _, he, F0⟩ := (V.Hist.here (h.get (i := 15) rfl)); cases he; exact F0.sl.mono (fun _ _ => trivial)) Try.underlying22 Try.underlying5 Try.underlying9 rfl rfl rfl rfl rfl ?_
          refine V.grun T_ok 3 rfl (V.sel_none rfl) ?_
          refine V.gyes rfl rfl rfl ?_
          refine V.gloadO T_ok (fun w' h => F119.gr h.1) rfl rfl rfl rfl rfl rfl ?_
          refine V.gyes rfl rfl rfl ?_
          refine V.gtoStr (fun w' h => F118.gr h.1) Try.underlying22 Try.underlying5 Try.underlying9 rfl rfl rfl rfl rfl ?_
          refine V.grun T_ok 3 rfl (V.sel_none rfl) ?_
          refine V.gsplitF (j := 24) (t := 113) rfl rfl (by (simp)) ?_
          refine V.grun T_ok 1 rfl (V.sel_none rfl) ?_
          refine V.gyes rfl rfl rfl ?_
          refine V.gcall (fun w' h => (ddirty_spec (F89.gr h.1)).mono (by rintro v w'' ⟨rfl, G⟩; exact ⟨rfl, G⟩)) rfl rfl rfl rfl ?_
          rintro _ w128 - - rfl
          refine V.grun T_ok 1 rfl (V.sel_none rfl) ?_
          refine V.gnil ?_
          rintro w129 G130 hH131
          have z132 := V.Fr.size G130
          try replace F_script := F_script.gr G130
          try replace F28 := F28.gr G130
          try replace Fk31 := Fk31.gr G130
          try replace F89 := F89.gr G130
          try replace F95 := F95.gr G130
          try replace F115 := F115.gr G130
          try replace F116 := F116.gr G130
          try replace F117 := F117.gr G130
          try replace F118 := F118.gr G130
          try replace F119 := F119.gr G130
          replace HG := HG.grow G130
          clear G130
          have F122 : V.Row V.Cod.byte 5 w129 V.None' w101.heap.size w129.heap.size a120 c121 (dCut d x25.2.1).nf := by
            obtain ⟨_, _, he, F0⟩ := (V.Hist.here (V.Hist.old (V.Hist.old (hH131 4))))
            cases he
            exact F0
          have F126 : V.Row V.Cod.byte 5 w129 V.None' w101.heap.size w129.heap.size a124 c125 (dCut d x25.2.1).nc := by
            obtain ⟨_, _, he, F0⟩ := (V.Hist.here (V.Hist.old (hH131 15)))
            cases he
            exact F0
          clear hH131
          refine V.yes rfl rfl rfl ?_
          refine V.call (rdirty_spec F95) rfl rfl rfl ?_
          rintro _ w133 ⟨rfl, G134⟩
          have z135 := V.Fr.size G134
          try replace F_script := F_script.gr G134
          try replace F28 := F28.gr G134
          try replace Fk31 := Fk31.gr G134
          try replace F89 := F89.gr G134
          try replace F95 := F95.gr G134
          try replace F115 := F115.gr G134
          try replace F116 := F116.gr G134
          try replace F117 := F117.gr G134
          try replace F118 := F118.gr G134
          try replace F119 := F119.gr G134
          try replace F122 := F122.gr G134
          try replace F126 := F126.gr G134
          replace HG := HG.grow G134
          clear G134
          refine V.run T_ok 2 rfl ?_
          refine V.nil ?_
          refine V.tN ?_
          refine V.condN rfl (by (simp)) ?_
          refine V.skip ?_
          refine V.bN ?_
          refine V.tN ?_
          refine V.region ?_
          refine V.run T_ok 1 rfl ?_
          refine V.addN rfl rfl rfl rfl rfl (by first | omega | (simp only [List.length_take, List.length_drop, List.length_append, List.length_cons, List.length_nil, List.length_replicate, List.length_set, V.length_data, V.S_size]; omega)) (by first | omega | (simp only [List.length_take, List.length_drop, List.length_append, List.length_cons, List.length_nil, List.length_replicate, List.length_set, V.length_data, V.S_size]; omega)) ?_
          refine V.run T_ok 1 rfl ?_
          refine V.nil ?_
          refine V.tN ?_
          exact ⟨_, (by omega), HG, (by omega), F_script, (dCut d x25.2.1), (kd), (km), ((fun j => Dd j ∧ (j < v17.heap.size ∨ w32.heap.size ≤ j))), ((fun j => Dm j ∧ (j < v17.heap.size ∨ w32.heap.size ≤ j))), (i + 1), rfl, (by omega), (by first | assumption | (intro h; have h1 := h; (try dsimp only at h1); omega) | (intro h; exact absurd h.1 (by assumption)) | (intro h; have h2 := h.2; (try dsimp only at h2); omega) | (intro h; have h2 := h.1.2; (try dsimp only at h2); omega) | (intro h; have h2 := h.1.1.2; (try dsimp only at h2); omega) | (intro h; exact absurd h.1.1 (by assumption))), (by first | assumption | (intro h; have h1 := h; (try dsimp only at h1); omega) | (intro h; exact absurd h.1 (by assumption)) | (intro h; have h2 := h.2; (try dsimp only at h2); omega) | (intro h; have h2 := h.1.2; (try dsimp only at h2); omega) | (intro h; have h2 := h.1.1.2; (try dsimp only at h2); omega) | (intro h; exact absurd h.1.1 (by assumption))), (by omega), (by omega), (by omega), (by omega), (by first | exact F89 | exact F89.mono (fun _ h => h.1) (by intro h; omega)), (by first | exact F95 | exact F95.mono (fun _ h => h.1) (by intro h; omega)), rfl, rfl, rfl, rfl⟩
        ·
          try simp only [decide_eq_true_eq, decide_eq_false_iff_not, Bool.or_eq_true, Bool.and_eq_true, Bool.or_eq_false_iff, Bool.and_eq_false_iff, Bool.not_eq_true', Bool.not_eq_false', Int.not_lt, Int.not_le, Decidable.not_not, V.u8eq, V.S_inj, V.S_lit, V.S_lit2] at h12
          refine V.seq ?_
          refine V.region ?_
          refine V.run T_ok 2 rfl ?_
          refine V.nil ?_
          refine V.tN ?_
          refine V.condT rfl (fun h14 => ?_) (fun h14 => ?_)
          ·
            try simp only [decide_eq_true_eq, decide_eq_false_iff_not, Bool.or_eq_true, Bool.and_eq_true, Bool.or_eq_false_iff, Bool.and_eq_false_iff, Bool.not_eq_true', Bool.not_eq_false', Int.not_lt, Int.not_le, Decidable.not_not, V.u8eq, V.S_inj, V.S_lit, V.S_lit2] at h14
            refine V.drawM [kd, km] (fun i => Nat.beq i 3 || Nat.beq i 7) mixed (by kernel_rfl) (by kernel_rfl) ?_
            refine V.mrun T_ok 2 rfl rfl ?_
            refine V.mloadO T_ok (fun w' g => Fk31.mv g (by intro i hi; simp at hi; omega)) rfl rfl rfl rfl rfl rfl ?_
            refine V.mcall rfl (fun w' g h => dset_spec (show Dsk w' kd (fun j => Dd j ∧ (j < v17.heap.size ∨ w32.heap.size ≤ j)) d from by have g0 := h; exact (FXd.gr g0)) (show Sl V.Cod.byte w' D_script a26 c27 x25.2.2.1 from by have g0 := h; exact (F28.gr g0)) (by first | omega | (simp only [List.length_take, List.length_drop, List.length_append, List.length_cons, List.length_nil, List.length_replicate, List.length_set, V.length_data, V.S_size]; omega))) (by rintro wa va wb ca _ ⟨rfl, F136, G137⟩; exact (ca.trans G137).mono (by intro k hk _; simp at hk ⊢; omega)) rfl rfl rfl ?_
            rintro _ w140 w141 _ _ ⟨rfl, F136, G137⟩
            refine V.mrun T_ok 2 rfl rfl ?_
            refine V.mloadO T_ok (fun w' g => Fk31.mv g (by intro i hi; simp at hi; omega)) rfl rfl rfl rfl rfl rfl ?_
            refine V.mcall rfl (fun w' g h => rset_spec (show RDsk w' km (fun j => Dm j ∧ (j < v17.heap.size ∨ w32.heap.size ≤ j)) d from by obtain ⟨w138, c139, g0, ⟨-, F136, G137⟩⟩ := h; exact ((FXm.gr g0).mv1 G137 (by first | exact ⟨by omega, by assumption⟩ | exact ⟨by omega, fun h => absurd h.1 (by assumption)⟩ | exact ⟨by omega, fun h => absurd h.1.1 (by assumption)⟩ | exact ⟨by omega, fun h => by first | (have h2 := h.1; have h3 := h.2; omega) | (have h2 := h; dsimp only at h2; omega)⟩ | first | omega | exact fun h => h | exact ⟨by omega, fun h => h⟩ | (intro h; first | (have := hD_script _ h; omega)) | (refine ⟨by omega, ?_⟩; intro h; first | (have := hD_script _ h; omega))))) (show Sl V.Cod.byte w' D_script a26 c27 x25.2.2.1 from by obtain ⟨w138, c139, g0, ⟨-, F136, G137⟩⟩ := h; exact ((F28.gr g0).mv1 G137 (by first | exact (fun h => by have := hD_script _ h; omega) | omega))) (by first | omega | (simp only [List.length_take, List.length_drop, List.length_append, List.length_cons, List.length_nil, List.length_replicate, List.length_set, V.length_data, V.S_size]; omega))) (by rintro wa va wb ca _ ⟨rfl, F142, G143⟩; exact (ca.trans G143).mono (by intro k hk _; simp at hk ⊢; omega)) rfl rfl rfl ?_
            rintro _ w146 w147 _ _ ⟨rfl, F142, G143⟩
            refine V.mrun T_ok 2 rfl rfl ?_
            refine V.mnil ?_
            rintro w148 c150 hN149
            obtain ⟨w144, c145, ⟨w138, c139, g0, ⟨-, F136, G137⟩⟩, ⟨-, F142, G143⟩⟩ := hN149
            have z151 := V.Fr.size g0
            try replace F_script := F_script.gr g0
            try replace FXd := FXd.gr g0
            try replace FXm := FXm.gr g0
            try replace F28 := F28.gr g0
            try replace Fk31 := Fk31.gr g0
            replace HG := HG.grow g0
            clear g0
            have z152 := V.Fr.size G137
            first | replace F_script := F_script.mv1 G137 (by first | exact (fun h => by have := hD_script _ h; omega) | omega) | clear F_script | skip
            first | replace FXd := FXd.mv1 G137 (by first | exact ⟨by omega, by assumption⟩ | exact ⟨by omega, fun h => absurd h.1 (by assumption)⟩ | exact ⟨by omega, fun h => absurd h.1.1 (by assumption)⟩ | exact ⟨by omega, fun h => by first | (have h2 := h.1; have h3 := h.2; omega) | (have h2 := h; dsimp only at h2; omega)⟩ | first | omega | exact fun h => h | exact ⟨by omega, fun h => h⟩ | (intro h; first | (have := hD_script _ h; omega)) | (refine ⟨by omega, ?_⟩; intro h; first | (have := hD_script _ h; omega))) | clear FXd | skip
            first | replace FXm := FXm.mv1 G137 (by first | exact ⟨by omega, by assumption⟩ | exact ⟨by omega, fun h => absurd h.1 (by assumption)⟩ | exact ⟨by omega, fun h => absurd h.1.1 (by assumption)⟩ | exact ⟨by omega, fun h => by first | (have h2 := h.1; have h3 := h.2; omega) | (have h2 := h; dsimp only at h2; omega)⟩ | first | omega | exact fun h => h | exact ⟨by omega, fun h => h⟩ | (intro h; first | (have := hD_script _ h; omega)) | (refine ⟨by omega, ?_⟩; intro h; first | (have := hD_script _ h; omega))) | clear FXm | skip
            first | replace F28 := F28.mv1 G137 (by first | exact (fun h => by have := hD_script _ h; omega) | omega) | clear F28 | skip
            first | replace Fk31 := Fk31.mv1 G137 (by omega) | clear Fk31 | skip
            replace HG := HG.new1 G137 (by first | (refine Or.inr ?_; omega) | (refine Or.inl ?_; simp; done))
            clear G137
            have z153 := V.Fr.size G143
            first | replace F_script := F_script.mv1 G143 (by first | exact (fun h => by have := hD_script _ h; omega) | omega) | clear F_script | skip
            first | replace FXm := FXm.mv1 G143 (by first | exact ⟨by omega, by assumption⟩ | exact ⟨by omega, fun h => absurd h.1 (by assumption)⟩ | exact ⟨by omega, fun h => absurd h.1.1 (by assumption)⟩ | exact ⟨by omega, fun h => by first | (have h2 := h.1; have h3 := h.2; omega) | (have h2 := h; dsimp only at h2; omega)⟩ | first | omega | exact fun h => h | exact ⟨by omega, fun h => h⟩ | (intro h; first | (have := hD_script _ h; omega)) | (refine ⟨by omega, ?_⟩; intro h; first | (have := hD_script _ h; omega))) | clear FXm | skip
            first | replace F28 := F28.mv1 G143 (by first | exact (fun h => by have := hD_script _ h; omega) | omega) | clear F28 | skip
            first | replace Fk31 := Fk31.mv1 G143 (by omega) | clear Fk31 | skip
            first | replace F136 := F136.mv1 G143 (by first | exact ⟨by omega, by assumption⟩ | exact ⟨by omega, fun h => absurd h.1 (by assumption)⟩ | exact ⟨by omega, fun h => absurd h.1.1 (by assumption)⟩ | exact ⟨by omega, fun h => by first | (have h2 := h.1; have h3 := h.2; omega) | (have h2 := h; dsimp only at h2; omega)⟩ | first | omega | exact fun h => h | exact ⟨by omega, fun h => h⟩ | (intro h; first | (have := hD_script _ h; omega)) | (refine ⟨by omega, ?_⟩; intro h; first | (have := hD_script _ h; omega))) | clear F136 | skip
            replace HG := HG.new1 G143 (by first | (refine Or.inr ?_; omega) | (refine Or.inl ?_; simp; done))
            clear G143
            refine V.bN ?_
            refine V.tN ?_
            refine V.seq ?_
            obtain ⟨-, hnwX, a154, c158, a155, c159, a156, c160, a157, c161, F166, F162, F163, F164, F165⟩ := F142.ex
            refine V.drawGT 28 (V.sel [(4, (fun v wz => ∃ (ra5 : Option Addr) (rc5 : Nat), v = .slice ra5 (dSet d x25.2.2.1).nf.length rc5 ∧ V.Row V.Cod.byte 5 wz V.None' w148.heap.size wz.heap.size ra5 rc5 (dSet d x25.2.2.1).nf)), (15, (fun v wz => ∃ (ra6 : Option Addr) (rc6 : Nat), v = .slice ra6 (dSet d x25.2.2.1).nc.length rc6 ∧ V.Row V.Cod.byte 5 wz V.None' w148.heap.size wz.heap.size ra6 rc6 (dSet d x25.2.2.1).nc)), (26, (fun v wz => v = .bool (dDirty (dSet d x25.2.2.1))))]) mixed (by kernel_rfl) (V.mono_cons (by rintro v wz wz' g ⟨ra5, rc5, rfl, rF5⟩; exact ⟨ra5, rc5, rfl, (by first | exact (rF5.gr g).mono (V.In.sub (Nat.le_refl _) g.size) | exact rF5.gr g | exact (rF5.gr g).mono (fun _ h => h) (Nat.le_refl _) g.size | exact (rF5.gr g).mono (fun k h => ⟨h.1, Nat.lt_of_lt_of_le h.2 g.size⟩))⟩) (V.mono_cons (by rintro v wz wz' g ⟨ra6, rc6, rfl, rF6⟩; exact ⟨ra6, rc6, rfl, (by first | exact (rF6.gr g).mono (V.In.sub (Nat.le_refl _) g.size) | exact rF6.gr g | exact (rF6.gr g).mono (fun _ h => h) (Nat.le_refl _) g.size | exact (rF6.gr g).mono (fun k h => ⟨h.1, Nat.lt_of_lt_of_le h.2 g.size⟩))⟩) (V.mono_cons V.eqV_mono V.mono_nil))) ?_
            refine V.grun T_ok 3 rfl (V.sel_none rfl) ?_
            refine V.gsplitF (j := 2) (t := 91) rfl rfl (by (simp)) ?_
            refine V.grun T_ok 1 rfl (V.sel_none rfl) ?_
            refine V.gyes rfl rfl rfl ?_
            refine V.gcall (fun w' h => (dfile_spec (F136.gr h.1)).mono (by rintro v w'' ⟨ra5, rc5, rfl, rF5, G⟩; exact ⟨⟨ra5, rc5, rfl, (by first | exact rF5.mono (V.In.mono_l h.1.size) | exact rF5 | exact rF5.mono (fun _ h => h) h.1.size (Nat.le_refl _))⟩, G⟩)) rfl rfl rfl rfl ?_
            rintro _ w170 - - ⟨a167, c168, rfl, -⟩
            refine V.gyes rfl rfl rfl ?_
            refine V.gtoStr (fun w' h => by obtain ⟨_, _, he, F0⟩ := (V.Hist.here (h.get (i := 4) rfl)); cases he; exact F0.sl.mono (fun _ _ => trivial)) Try.underlying22 Try.underlying5 Try.underlying9 rfl rfl rfl rfl rfl ?_
            refine V.grun T_ok 3 rfl (V.sel_none rfl) ?_
            refine V.gyes rfl rfl rfl ?_
            refine V.gloadO T_ok (fun w' h => F166.gr h.1) rfl rfl rfl rfl rfl rfl ?_
            refine V.gyes rfl rfl rfl ?_
            refine V.gtoStr (fun w' h => F163.gr h.1) Try.underlying22 Try.underlying5 Try.underlying9 rfl rfl rfl rfl rfl ?_
            refine V.grun T_ok 3 rfl (V.sel_none rfl) ?_
            refine V.gsplitF (j := 13) (t := 102) rfl rfl (by (simp)) ?_
            refine V.grun T_ok 1 rfl (V.sel_none rfl) ?_
            refine V.gyes rfl rfl rfl ?_
            refine V.gcall (fun w' h => (dcell_spec (F136.gr h.1)).mono (by rintro v w'' ⟨ra6, rc6, rfl, rF6, G⟩; exact ⟨⟨ra6, rc6, rfl, (by first | exact rF6.mono (V.In.mono_l h.1.size) | exact rF6 | exact rF6.mono (fun _ h => h) h.1.size (Nat.le_refl _))⟩, G⟩)) rfl rfl rfl rfl ?_
            rintro _ w174 - - ⟨a171, c172, rfl, -⟩
            refine V.gyes rfl rfl rfl ?_
            refine V.gtoStr (fun w' h => by obtain ⟨_, _, he, F0⟩ := (V.Hist.here (h.get (i := 15) rfl)); cases he; exact F0.sl.mono (fun _ _ => trivial)) Try.underlying22 Try.underlying5 Try.underlying9 rfl rfl rfl rfl rfl ?_
            refine V.grun T_ok 3 rfl (V.sel_none rfl) ?_
            refine V.gyes rfl rfl rfl ?_
            refine V.gloadO T_ok (fun w' h => F166.gr h.1) rfl rfl rfl rfl rfl rfl ?_
            refine V.gyes rfl rfl rfl ?_
            refine V.gtoStr (fun w' h => F165.gr h.1) Try.underlying22 Try.underlying5 Try.underlying9 rfl rfl rfl rfl rfl ?_
            refine V.grun T_ok 3 rfl (V.sel_none rfl) ?_
            refine V.gsplitF (j := 24) (t := 113) rfl rfl (by (simp)) ?_
            refine V.grun T_ok 1 rfl (V.sel_none rfl) ?_
            refine V.gyes rfl rfl rfl ?_
            refine V.gcall (fun w' h => (ddirty_spec (F136.gr h.1)).mono (by rintro v w'' ⟨rfl, G⟩; exact ⟨rfl, G⟩)) rfl rfl rfl rfl ?_
            rintro _ w175 - - rfl
            refine V.grun T_ok 1 rfl (V.sel_none rfl) ?_
            refine V.gnil ?_
            rintro w176 G177 hH178
            have z179 := V.Fr.size G177
            try replace F_script := F_script.gr G177
            try replace F28 := F28.gr G177
            try replace Fk31 := Fk31.gr G177
            try replace F136 := F136.gr G177
            try replace F142 := F142.gr G177
            try replace F162 := F162.gr G177
            try replace F163 := F163.gr G177
            try replace F164 := F164.gr G177
            try replace F165 := F165.gr G177
            try replace F166 := F166.gr G177
            replace HG := HG.grow G177
            clear G177
            have F169 : V.Row V.Cod.byte 5 w176 V.None' w148.heap.size w176.heap.size a167 c168 (dSet d x25.2.2.1).nf := by
              obtain ⟨_, _, he, F0⟩ := (V.Hist.here (V.Hist.old (V.Hist.old (hH178 4))))
              cases he
              exact F0
            have F173 : V.Row V.Cod.byte 5 w176 V.None' w148.heap.size w176.heap.size a171 c172 (dSet d x25.2.2.1).nc := by
              obtain ⟨_, _, he, F0⟩ := (V.Hist.here (V.Hist.old (hH178 15)))
              cases he
              exact F0
            clear hH178
            refine V.yes rfl rfl rfl ?_
            refine V.call (rdirty_spec F142) rfl rfl rfl ?_
            rintro _ w180 ⟨rfl, G181⟩
            have z182 := V.Fr.size G181
            try replace F_script := F_script.gr G181
            try replace F28 := F28.gr G181
            try replace Fk31 := Fk31.gr G181
            try replace F136 := F136.gr G181
            try replace F142 := F142.gr G181
            try replace F162 := F162.gr G181
            try replace F163 := F163.gr G181
            try replace F164 := F164.gr G181
            try replace F165 := F165.gr G181
            try replace F166 := F166.gr G181
            try replace F169 := F169.gr G181
            try replace F173 := F173.gr G181
            replace HG := HG.grow G181
            clear G181
            refine V.run T_ok 2 rfl ?_
            refine V.nil ?_
            refine V.tN ?_
            refine V.condN rfl (by (simp)) ?_
            refine V.skip ?_
            refine V.bN ?_
            refine V.tN ?_
            refine V.region ?_
            refine V.run T_ok 1 rfl ?_
            refine V.addN rfl rfl rfl rfl rfl (by first | omega | (simp only [List.length_take, List.length_drop, List.length_append, List.length_cons, List.length_nil, List.length_replicate, List.length_set, V.length_data, V.S_size]; omega)) (by first | omega | (simp only [List.length_take, List.length_drop, List.length_append, List.length_cons, List.length_nil, List.length_replicate, List.length_set, V.length_data, V.S_size]; omega)) ?_
            refine V.run T_ok 1 rfl ?_
            refine V.nil ?_
            refine V.tN ?_
            exact ⟨_, (by omega), HG, (by omega), F_script, (dSet d x25.2.2.1), (kd), (km), ((fun j => Dd j ∧ (j < v17.heap.size ∨ w32.heap.size ≤ j))), ((fun j => Dm j ∧ (j < v17.heap.size ∨ w32.heap.size ≤ j))), (i + 1), rfl, (by omega), (by first | assumption | (intro h; have h1 := h; (try dsimp only at h1); omega) | (intro h; exact absurd h.1 (by assumption)) | (intro h; have h2 := h.2; (try dsimp only at h2); omega) | (intro h; have h2 := h.1.2; (try dsimp only at h2); omega) | (intro h; have h2 := h.1.1.2; (try dsimp only at h2); omega) | (intro h; exact absurd h.1.1 (by assumption))), (by first | assumption | (intro h; have h1 := h; (try dsimp only at h1); omega) | (intro h; exact absurd h.1 (by assumption)) | (intro h; have h2 := h.2; (try dsimp only at h2); omega) | (intro h; have h2 := h.1.2; (try dsimp only at h2); omega) | (intro h; have h2 := h.1.1.2; (try dsimp only at h2); omega) | (intro h; exact absurd h.1.1 (by assumption))), (by omega), (by omega), (by omega), (by omega), (by first | exact F136 | exact F136.mono (fun _ h => h.1) (by intro h; omega)), (by first | exact F142 | exact F142.mono (fun _ h => h.1) (by intro h; omega)), rfl, rfl, rfl, rfl⟩
          ·
            try simp only [decide_eq_true_eq, decide_eq_false_iff_not, Bool.or_eq_true, Bool.and_eq_true, Bool.or_eq_false_iff, Bool.and_eq_false_iff, Bool.not_eq_true', Bool.not_eq_false', Int.not_lt, Int.not_le, Decidable.not_not, V.u8eq, V.S_inj, V.S_lit, V.S_lit2] at h14
            refine V.seq ?_
            refine V.region ?_
            refine V.run T_ok 2 rfl ?_
            refine V.nil ?_
            refine V.tN ?_
            refine V.condT rfl (fun h16 => ?_) (fun h16 => ?_)
            ·
              try simp only [decide_eq_true_eq, decide_eq_false_iff_not, Bool.or_eq_true, Bool.and_eq_true, Bool.or_eq_false_iff, Bool.and_eq_false_iff, Bool.not_eq_true', Bool.not_eq_false', Int.not_lt, Int.not_le, Decidable.not_not, V.u8eq, V.S_inj, V.S_lit, V.S_lit2] at h16
              refine V.seq ?_
              refine V.region ?_
              refine V.run T_ok 1 rfl ?_
              refine V.call (rsync_spec FXm) rfl rfl rfl ?_
              rintro _ w184 ⟨rfl, F183, G185⟩
              have z186 := V.Fr.size G185
              first | replace F_script := F_script.mv1 G185 (by first | exact (fun h => by have := hD_script _ h; omega) | omega) | clear F_script | skip
              first | replace FXd := FXd.mv1 G185 (by first | exact ⟨by omega, by assumption⟩ | exact ⟨by omega, fun h => absurd h.1 (by assumption)⟩ | exact ⟨by omega, fun h => absurd h.1.1 (by assumption)⟩ | exact ⟨by omega, fun h => by first | (have h2 := h.1; have h3 := h.2; omega) | (have h2 := h; dsimp only at h2; omega)⟩ | first | omega | exact fun h => h | exact ⟨by omega, fun h => h⟩ | (intro h; first | (have := hD_script _ h; omega)) | (refine ⟨by omega, ?_⟩; intro h; first | (have := hD_script _ h; omega))) | clear FXd | skip
              first | replace FXm := FXm.mv1 G185 (by first | exact ⟨by omega, by assumption⟩ | exact ⟨by omega, fun h => absurd h.1 (by assumption)⟩ | exact ⟨by omega, fun h => absurd h.1.1 (by assumption)⟩ | exact ⟨by omega, fun h => by first | (have h2 := h.1; have h3 := h.2; omega) | (have h2 := h; dsimp only at h2; omega)⟩ | first | omega | exact fun h => h | exact ⟨by omega, fun h => h⟩ | (intro h; first | (have := hD_script _ h; omega)) | (refine ⟨by omega, ?_⟩; intro h; first | (have := hD_script _ h; omega))) | clear FXm | skip
              first | replace F28 := F28.mv1 G185 (by first | exact (fun h => by have := hD_script _ h; omega) | omega) | clear F28 | skip
              first | replace Fk31 := Fk31.mv1 G185 (by omega) | clear Fk31 | skip
              replace HG := HG.new1 G185 (by first | (refine Or.inr ?_; omega) | (refine Or.inl ?_; simp; done))
              clear G185
              refine V.nil ?_
              refine V.tN ?_
              refine V.region ?_
              refine V.run T_ok 1 rfl ?_
              refine V.call (dsync_spec FXd) rfl rfl rfl ?_
              rintro _ w188 ⟨rfl, F187, G189⟩
              have z190 := V.Fr.size G189
              first | replace F_script := F_script.mv1 G189 (by first | exact (fun h => by have := hD_script _ h; omega) | omega) | clear F_script | skip
              first | replace FXd := FXd.mv1 G189 (by first | exact ⟨by omega, by assumption⟩ | exact ⟨by omega, fun h => absurd h.1 (by assumption)⟩ | exact ⟨by omega, fun h => absurd h.1.1 (by assumption)⟩ | exact ⟨by omega, fun h => by first | (have h2 := h.1; have h3 := h.2; omega) | (have h2 := h; dsimp only at h2; omega)⟩ | first | omega | exact fun h => h | exact ⟨by omega, fun h => h⟩ | (intro h; first | (have := hD_script _ h; omega)) | (refine ⟨by omega, ?_⟩; intro h; first | (have := hD_script _ h; omega))) | clear FXd | skip
              first | replace F28 := F28.mv1 G189 (by first | exact (fun h => by have := hD_script _ h; omega) | omega) | clear F28 | skip
              first | replace Fk31 := Fk31.mv1 G189 (by omega) | clear Fk31 | skip
              first | replace F183 := F183.mv1 G189 (by first | exact ⟨by omega, by assumption⟩ | exact ⟨by omega, fun h => absurd h.1 (by assumption)⟩ | exact ⟨by omega, fun h => absurd h.1.1 (by assumption)⟩ | exact ⟨by omega, fun h => by first | (have h2 := h.1; have h3 := h.2; omega) | (have h2 := h; dsimp only at h2; omega)⟩ | first | omega | exact fun h => h | exact ⟨by omega, fun h => h⟩ | (intro h; first | (have := hD_script _ h; omega)) | (refine ⟨by omega, ?_⟩; intro h; first | (have := hD_script _ h; omega))) | clear F183 | skip
              replace HG := HG.new1 G189 (by first | (refine Or.inr ?_; omega) | (refine Or.inl ?_; simp; done))
              clear G189
              refine V.run T_ok 2 rfl ?_
              refine V.nil ?_
              refine V.bN ?_
              refine V.tN ?_
              refine V.seq ?_
              obtain ⟨-, hnwX, a191, c195, a192, c196, a193, c197, a194, c198, F203, F199, F200, F201, F202⟩ := F183.ex
              refine V.drawGT 28 (V.sel [(4, (fun v wz => ∃ (ra5 : Option Addr) (rc5 : Nat), v = .slice ra5 (dSync d).nf.length rc5 ∧ V.Row V.Cod.byte 5 wz V.None' w188.heap.size wz.heap.size ra5 rc5 (dSync d).nf)), (15, (fun v wz => ∃ (ra6 : Option Addr) (rc6 : Nat), v = .slice ra6 (dSync d).nc.length rc6 ∧ V.Row V.Cod.byte 5 wz V.None' w188.heap.size wz.heap.size ra6 rc6 (dSync d).nc)), (26, (fun v wz => v = .bool (dDirty (dSync d))))]) mixed (by kernel_rfl) (V.mono_cons (by rintro v wz wz' g ⟨ra5, rc5, rfl, rF5⟩; exact ⟨ra5, rc5, rfl, (by first | exact (rF5.gr g).mono (V.In.sub (Nat.le_refl _) g.size) | exact rF5.gr g | exact (rF5.gr g).mono (fun _ h => h) (Nat.le_refl _) g.size | exact (rF5.gr g).mono (fun k h => ⟨h.1, Nat.lt_of_lt_of_le h.2 g.size⟩))⟩) (V.mono_cons (by rintro v wz wz' g ⟨ra6, rc6, rfl, rF6⟩; exact ⟨ra6, rc6, rfl, (by first | exact (rF6.gr g).mono (V.In.sub (Nat.le_refl _) g.size) | exact rF6.gr g | exact (rF6.gr g).mono (fun _ h => h) (Nat.le_refl _) g.size | exact (rF6.gr g).mono (fun k h => ⟨h.1, Nat.lt_of_lt_of_le h.2 g.size⟩))⟩) (V.mono_cons V.eqV_mono V.mono_nil))) ?_
              refine V.grun T_ok 4 rfl (V.sel_none rfl) ?_
              refine V.gyes rfl rfl rfl ?_
              refine V.gcall (fun w' h => (dfile_spec (F187.gr h.1)).mono (by rintro v w'' ⟨ra5, rc5, rfl, rF5, G⟩; exact ⟨⟨ra5, rc5, rfl, (by first | exact rF5.mono (V.In.mono_l h.1.size) | exact rF5 | exact rF5.mono (fun _ h => h) h.1.size (Nat.le_refl _))⟩, G⟩)) rfl rfl rfl rfl ?_
              rintro _ w207 - - ⟨a204, c205, rfl, -⟩
              refine V.gyes rfl rfl rfl ?_
              refine V.gtoStr (fun w' h => by obtain ⟨_, _, he, F0⟩ := (V.Hist.here (h.get (i := 4) rfl)); cases he; exact F0.sl.mono (fun _ _ => trivial)) Try.underlying22 Try.underlying5 Try.underlying9 rfl rfl rfl rfl rfl ?_
              refine V.grun T_ok 3 rfl (V.sel_none rfl) ?_
              refine V.gyes rfl rfl rfl ?_
              refine V.gloadO T_ok (fun w' h => F203.gr h.1) rfl rfl rfl rfl rfl rfl ?_
              refine V.gyes rfl rfl rfl ?_
              refine V.gtoStr (fun w' h => F200.gr h.1) Try.underlying22 Try.underlying5 Try.underlying9 rfl rfl rfl rfl rfl ?_
              refine V.grun T_ok 3 rfl (V.sel_none rfl) ?_
              refine V.gsplitF (j := 13) (t := 102) rfl rfl (by (simp)) ?_
              refine V.grun T_ok 1 rfl (V.sel_none rfl) ?_
              refine V.gyes rfl rfl rfl ?_
              refine V.gcall (fun w' h => (dcell_spec (F187.gr h.1)).mono (by rintro v w'' ⟨ra6, rc6, rfl, rF6, G⟩; exact ⟨⟨ra6, rc6, rfl, (by first | exact rF6.mono (V.In.mono_l h.1.size) | exact rF6 | exact rF6.mono (fun _ h => h) h.1.size (Nat.le_refl _))⟩, G⟩)) rfl rfl rfl rfl ?_
              rintro _ w211 - - ⟨a208, c209, rfl, -⟩
              refine V.gyes rfl rfl rfl ?_
              refine V.gtoStr (fun w' h => by obtain ⟨_, _, he, F0⟩ := (V.Hist.here (h.get (i := 15) rfl)); cases he; exact F0.sl.mono (fun _ _ => trivial)) Try.underlying22 Try.underlying5 Try.underlying9 rfl rfl rfl rfl rfl ?_
              refine V.grun T_ok 3 rfl (V.sel_none rfl) ?_
              refine V.gyes rfl rfl rfl ?_
              refine V.gloadO T_ok (fun w' h => F203.gr h.1) rfl rfl rfl rfl rfl rfl ?_
              refine V.gyes rfl rfl rfl ?_
              refine V.gtoStr (fun w' h => F202.gr h.1) Try.underlying22 Try.underlying5 Try.underlying9 rfl rfl rfl rfl rfl ?_
              refine V.grun T_ok 3 rfl (V.sel_none rfl) ?_
              refine V.gsplitF (j := 24) (t := 113) rfl rfl (by (simp)) ?_
              refine V.grun T_ok 1 rfl (V.sel_none rfl) ?_
              refine V.gyes rfl rfl rfl ?_
              refine V.gcall (fun w' h => (ddirty_spec (F187.gr h.1)).mono (by rintro v w'' ⟨rfl, G⟩; exact ⟨rfl, G⟩)) rfl rfl rfl rfl ?_
              rintro _ w212 - - rfl
              refine V.grun T_ok 1 rfl (V.sel_none rfl) ?_
              refine V.gnil ?_
              rintro w213 G214 hH215
              have z216 := V.Fr.size G214
              try replace F_script := F_script.gr G214
              try replace F28 := F28.gr G214
              try replace Fk31 := Fk31.gr G214
              try replace F183 := F183.gr G214
              try replace F187 := F187.gr G214
              try replace F199 := F199.gr G214
              try replace F200 := F200.gr G214
              try replace F201 := F201.gr G214
              try replace F202 := F202.gr G214
              try replace F203 := F203.gr G214
              replace HG := HG.grow G214
              clear G214
              have F206 : V.Row V.Cod.byte 5 w213 V.None' w188.heap.size w213.heap.size a204 c205 (dSync d).nf := by
                obtain ⟨_, _, he, F0⟩ := (V.Hist.here (V.Hist.old (V.Hist.old (hH215 4))))
                cases he
                exact F0
              have F210 : V.Row V.Cod.byte 5 w213 V.None' w188.heap.size w213.heap.size a208 c209 (dSync d).nc := by
                obtain ⟨_, _, he, F0⟩ := (V.Hist.here (V.Hist.old (hH215 15)))
                cases he
                exact F0
              clear hH215
              refine V.yes rfl rfl rfl ?_
              refine V.call (rdirty_spec F183) rfl rfl rfl ?_
              rintro _ w217 ⟨rfl, G218⟩
              have z219 := V.Fr.size G218
              try replace F_script := F_script.gr G218
              try replace F28 := F28.gr G218
              try replace Fk31 := Fk31.gr G218
              try replace F183 := F183.gr G218
              try replace F187 := F187.gr G218
              try replace F199 := F199.gr G218
              try replace F200 := F200.gr G218
              try replace F201 := F201.gr G218
              try replace F202 := F202.gr G218
              try replace F203 := F203.gr G218
              try replace F206 := F206.gr G218
              try replace F210 := F210.gr G218
              replace HG := HG.grow G218
              clear G218
              refine V.run T_ok 2 rfl ?_
              refine V.nil ?_
              refine V.tN ?_
              refine V.condN rfl (by (simp)) ?_
              refine V.skip ?_
              refine V.bN ?_
              refine V.tN ?_
              refine V.region ?_
              refine V.run T_ok 1 rfl ?_
              refine V.addN rfl rfl rfl rfl rfl (by first | omega | (simp only [List.length_take, List.length_drop, List.length_append, List.length_cons, List.length_nil, List.length_replicate, List.length_set, V.length_data, V.S_size]; omega)) (by first | omega | (simp only [List.length_take, List.length_drop, List.length_append, List.length_cons, List.length_nil, List.length_replicate, List.length_set, V.length_data, V.S_size]; omega)) ?_
              refine V.run T_ok 1 rfl ?_
              refine V.nil ?_
              refine V.tN ?_
              exact ⟨_, (by omega), HG, (by omega), F_script, (dSync d), (kd), (km), ((fun j => Dd j ∧ (j < v17.heap.size ∨ w32.heap.size ≤ j))), ((fun j => Dm j ∧ (j < v17.heap.size ∨ w32.heap.size ≤ j))), (i + 1), rfl, (by omega), (by first | assumption | (intro h; have h1 := h; (try dsimp only at h1); omega) | (intro h; exact absurd h.1 (by assumption)) | (intro h; have h2 := h.2; (try dsimp only at h2); omega) | (intro h; have h2 := h.1.2; (try dsimp only at h2); omega) | (intro h; have h2 := h.1.1.2; (try dsimp only at h2); omega) | (intro h; exact absurd h.1.1 (by assumption))), (by first | assumption | (intro h; have h1 := h; (try dsimp only at h1); omega) | (intro h; exact absurd h.1 (by assumption)) | (intro h; have h2 := h.2; (try dsimp only at h2); omega) | (intro h; have h2 := h.1.2; (try dsimp only at h2); omega) | (intro h; have h2 := h.1.1.2; (try dsimp only at h2); omega) | (intro h; exact absurd h.1.1 (by assumption))), (by omega), (by omega), (by omega), (by omega), (by first | exact F187 | exact F187.mono (fun _ h => h.1) (by intro h; omega)), (by first | exact F183 | exact F183.mono (fun _ h => h.1) (by intro h; omega)), rfl, rfl, rfl, rfl⟩
            ·
              try simp only [decide_eq_true_eq, decide_eq_false_iff_not, Bool.or_eq_true, Bool.and_eq_true, Bool.or_eq_false_iff, Bool.and_eq_false_iff, Bool.not_eq_true', Bool.not_eq_false', Int.not_lt, Int.not_le, Decidable.not_not, V.u8eq, V.S_inj, V.S_lit, V.S_lit2] at h16
              refine V.seq ?_
              refine V.region ?_
              refine V.run T_ok 2 rfl ?_
              refine V.nil ?_
              refine V.tN ?_
              refine V.condT rfl (fun h19 => ?_) (fun h19 => ?_)
              ·
                try simp only [decide_eq_true_eq, decide_eq_false_iff_not, Bool.or_eq_true, Bool.and_eq_true, Bool.or_eq_false_iff, Bool.and_eq_false_iff, Bool.not_eq_true', Bool.not_eq_false', Int.not_lt, Int.not_le, Decidable.not_not, V.u8eq, V.S_inj, V.S_lit, V.S_lit2] at h19
                refine V.seq ?_
                refine V.region ?_
                refine V.run T_ok 2 rfl ?_
                refine V.loadO T_ok Fk31 rfl rfl rfl rfl rfl ?_
                refine V.run T_ok 1 rfl ?_
                refine V.loadO T_ok Fk31 rfl rfl rfl rfl rfl ?_
                refine V.run T_ok 1 rfl ?_
                refine V.loadO T_ok Fk31 rfl rfl rfl rfl rfl ?_
                have FDs4 := FXm
                have GX := V.Fr.refl [] w37
                refine V.call (dcrash_spec (keep := x25.2.1) (torn := x25.2.2.2.1) (cell := x25.2.2.2.2) FXd) rfl rfl rfl ?_
                rintro _ w223 ⟨k220, rfl, ⟨h221l, h221u⟩, F222, G224⟩
                have z225 := V.Fr.size G224
                try replace F_script := F_script.gr G224
                try replace FXd := FXd.gr G224
                try replace FXm := FXm.gr G224
                try replace F28 := F28.gr G224
                try replace Fk31 := Fk31.gr G224
                try replace GX := GX.gr G224
                replace HG := HG.grow G224
                clear G224
                refine V.run T_ok 1 rfl ?_
                refine V.nil ?_
                refine V.tN ?_
                refine V.region ?_
                refine V.run T_ok 2 rfl ?_
                replace FXm := FDs4.cut GX
                clear GX
                have FDs3 := F222
                have GX := V.Fr.refl [] w223
                refine V.loadO T_ok Fk31 rfl rfl rfl rfl rfl ?_
                refine V.run T_ok 1 rfl ?_
                refine V.loadO T_ok Fk31 rfl rfl rfl rfl rfl ?_
                refine V.run T_ok 1 rfl ?_
                refine V.loadO T_ok Fk31 rfl rfl rfl rfl rfl ?_
                refine V.call (rcrash_spec (keep := x25.2.1) (torn := x25.2.2.2.1) (cell := x25.2.2.2.2) FXm) rfl rfl rfl ?_
                rintro _ w229 ⟨k226, rfl, ⟨h227l, h227u⟩, F228, G230⟩
                have z231 := V.Fr.size G230
                try replace F_script := F_script.gr G230
                try replace FXd := FXd.gr G230
                try replace FXm := FXm.gr G230
                try replace F28 := F28.gr G230
                try replace Fk31 := Fk31.gr G230
                try replace F222 := F222.gr G230
                try replace GX := GX.gr G230
                replace HG := HG.grow G230
                clear G230
                refine V.run T_ok 1 rfl ?_
                refine V.nil ?_
                refine V.bN ?_
                refine V.tN ?_
                refine V.seq ?_
                replace F222 := FDs3.cut GX
                clear GX
                obtain ⟨-, hnwX, a232, c236, a233, c237, a234, c238, a235, c239, F244, F240, F241, F242, F243⟩ := F228.ex
                refine V.drawGT 28 (V.sel [(4, (fun v wz => ∃ (ra5 : Option Addr) (rc5 : Nat), v = .slice ra5 (dCrash d x25.2.1 x25.2.2.2.1 x25.2.2.2.2).nf.length rc5 ∧ V.Row V.Cod.byte 5 wz V.None' w229.heap.size wz.heap.size ra5 rc5 (dCrash d x25.2.1 x25.2.2.2.1 x25.2.2.2.2).nf)), (15, (fun v wz => ∃ (ra6 : Option Addr) (rc6 : Nat), v = .slice ra6 (dCrash d x25.2.1 x25.2.2.2.1 x25.2.2.2.2).nc.length rc6 ∧ V.Row V.Cod.byte 5 wz V.None' w229.heap.size wz.heap.size ra6 rc6 (dCrash d x25.2.1 x25.2.2.2.1 x25.2.2.2.2).nc)), (26, (fun v wz => v = .bool (dDirty (dCrash d x25.2.1 x25.2.2.2.1 x25.2.2.2.2))))]) mixed (by kernel_rfl) (V.mono_cons (by rintro v wz wz' g ⟨ra5, rc5, rfl, rF5⟩; exact ⟨ra5, rc5, rfl, (by first | exact (rF5.gr g).mono (V.In.sub (Nat.le_refl _) g.size) | exact rF5.gr g | exact (rF5.gr g).mono (fun _ h => h) (Nat.le_refl _) g.size | exact (rF5.gr g).mono (fun k h => ⟨h.1, Nat.lt_of_lt_of_le h.2 g.size⟩))⟩) (V.mono_cons (by rintro v wz wz' g ⟨ra6, rc6, rfl, rF6⟩; exact ⟨ra6, rc6, rfl, (by first | exact (rF6.gr g).mono (V.In.sub (Nat.le_refl _) g.size) | exact rF6.gr g | exact (rF6.gr g).mono (fun _ h => h) (Nat.le_refl _) g.size | exact (rF6.gr g).mono (fun k h => ⟨h.1, Nat.lt_of_lt_of_le h.2 g.size⟩))⟩) (V.mono_cons V.eqV_mono V.mono_nil))) ?_
                refine V.grun T_ok 4 rfl (V.sel_none rfl) ?_
                refine V.gyes rfl rfl rfl ?_
                refine V.gcall (fun w' h => (dfile_spec (F222.gr h.1)).mono (by rintro v w'' ⟨ra5, rc5, rfl, rF5, G⟩; exact ⟨⟨ra5, rc5, rfl, (by first | exact rF5.mono (V.In.mono_l h.1.size) | exact rF5 | exact rF5.mono (fun _ h => h) h.1.size (Nat.le_refl _))⟩, G⟩)) rfl rfl rfl rfl ?_
                rintro _ w248 - - ⟨a245, c246, rfl, -⟩
                refine V.gyes rfl rfl rfl ?_
                refine V.gtoStr (fun w' h => by obtain ⟨_, _, he, F0⟩ := (V.Hist.here (h.get (i := 4) rfl)); cases he; exact F0.sl.mono (fun _ _ => trivial)) Try.underlying22 Try.underlying5 Try.underlying9 rfl rfl rfl rfl rfl ?_
                refine V.grun T_ok 3 rfl (V.sel_none rfl) ?_
                refine V.gyes rfl rfl rfl ?_
                refine V.gloadO T_ok (fun w' h => F244.gr h.1) rfl rfl rfl rfl rfl rfl ?_
                refine V.gyes rfl rfl rfl ?_
                refine V.gtoStr (fun w' h => F241.gr h.1) Try.underlying22 Try.underlying5 Try.underlying9 rfl rfl rfl rfl rfl ?_
                refine V.grun T_ok 3 rfl (V.sel_none rfl) ?_
                refine V.gsplitF (j := 13) (t := 102) rfl rfl (by (simp)) ?_
                refine V.grun T_ok 1 rfl (V.sel_none rfl) ?_
                refine V.gyes rfl rfl rfl ?_
                refine V.gcall (fun w' h => (dcell_spec (F222.gr h.1)).mono (by rintro v w'' ⟨ra6, rc6, rfl, rF6, G⟩; exact ⟨⟨ra6, rc6, rfl, (by first | exact rF6.mono (V.In.mono_l h.1.size) | exact rF6 | exact rF6.mono (fun _ h => h) h.1.size (Nat.le_refl _))⟩, G⟩)) rfl rfl rfl rfl ?_
                rintro _ w252 - - ⟨a249, c250, rfl, -⟩
                refine V.gyes rfl rfl rfl ?_
                refine V.gtoStr (fun w' h => by obtain ⟨_, _, he, F0⟩ := (V.Hist.here (h.get (i := 15) rfl)); cases he; exact F0.sl.mono (fun _ _ => trivial)) Try.underlying22 Try.underlying5 Try.underlying9 rfl rfl rfl rfl rfl ?_
                refine V.grun T_ok 3 rfl (V.sel_none rfl) ?_
                refine V.gyes rfl rfl rfl ?_
                refine V.gloadO T_ok (fun w' h => F244.gr h.1) rfl rfl rfl rfl rfl rfl ?_
                refine V.gyes rfl rfl rfl ?_
                refine V.gtoStr (fun w' h => F243.gr h.1) Try.underlying22 Try.underlying5 Try.underlying9 rfl rfl rfl rfl rfl ?_
                refine V.grun T_ok 3 rfl (V.sel_none rfl) ?_
                refine V.gsplitF (j := 24) (t := 113) rfl rfl (by (simp)) ?_
                refine V.grun T_ok 1 rfl (V.sel_none rfl) ?_
                refine V.gyes rfl rfl rfl ?_
                refine V.gcall (fun w' h => (ddirty_spec (F222.gr h.1)).mono (by rintro v w'' ⟨rfl, G⟩; exact ⟨rfl, G⟩)) rfl rfl rfl rfl ?_
                rintro _ w253 - - rfl
                refine V.grun T_ok 1 rfl (V.sel_none rfl) ?_
                refine V.gnil ?_
                rintro w254 G255 hH256
                have z257 := V.Fr.size G255
                try replace F_script := F_script.gr G255
                try replace FXd := FXd.gr G255
                try replace FXm := FXm.gr G255
                try replace F28 := F28.gr G255
                try replace Fk31 := Fk31.gr G255
                try replace F222 := F222.gr G255
                try replace F228 := F228.gr G255
                try replace F240 := F240.gr G255
                try replace F241 := F241.gr G255
                try replace F242 := F242.gr G255
                try replace F243 := F243.gr G255
                try replace F244 := F244.gr G255
                replace HG := HG.grow G255
                clear G255
                have F247 : V.Row V.Cod.byte 5 w254 V.None' w229.heap.size w254.heap.size a245 c246 (dCrash d x25.2.1 x25.2.2.2.1 x25.2.2.2.2).nf := by
                  obtain ⟨_, _, he, F0⟩ := (V.Hist.here (V.Hist.old (V.Hist.old (hH256 4))))
                  cases he
                  exact F0
                have F251 : V.Row V.Cod.byte 5 w254 V.None' w229.heap.size w254.heap.size a249 c250 (dCrash d x25.2.1 x25.2.2.2.1 x25.2.2.2.2).nc := by
                  obtain ⟨_, _, he, F0⟩ := (V.Hist.here (V.Hist.old (hH256 15)))
                  cases he
                  exact F0
                clear hH256
                refine V.yes rfl rfl rfl ?_
                refine V.call (rdirty_spec F228) rfl rfl rfl ?_
                rintro _ w258 ⟨rfl, G259⟩
                have z260 := V.Fr.size G259
                try replace F_script := F_script.gr G259
                try replace FXd := FXd.gr G259
                try replace FXm := FXm.gr G259
                try replace F28 := F28.gr G259
                try replace Fk31 := Fk31.gr G259
                try replace F222 := F222.gr G259
                try replace F228 := F228.gr G259
                try replace F240 := F240.gr G259
                try replace F241 := F241.gr G259
                try replace F242 := F242.gr G259
                try replace F243 := F243.gr G259
                try replace F244 := F244.gr G259
                try replace F247 := F247.gr G259
                try replace F251 := F251.gr G259
                replace HG := HG.grow G259
                clear G259
                refine V.run T_ok 2 rfl ?_
                refine V.nil ?_
                refine V.tN ?_
                refine V.condN rfl (by (simp)) ?_
                refine V.skip ?_
                refine V.bN ?_
                refine V.tN ?_
                refine V.region ?_
                refine V.run T_ok 1 rfl ?_
                refine V.addN rfl rfl rfl rfl rfl (by first | omega | (simp only [List.length_take, List.length_drop, List.length_append, List.length_cons, List.length_nil, List.length_replicate, List.length_set, V.length_data, V.S_size]; omega)) (by first | omega | (simp only [List.length_take, List.length_drop, List.length_append, List.length_cons, List.length_nil, List.length_replicate, List.length_set, V.length_data, V.S_size]; omega)) ?_
                refine V.run T_ok 1 rfl ?_
                refine V.nil ?_
                refine V.tN ?_
                exact ⟨_, (by omega), HG, (by omega), F_script, (dCrash d x25.2.1 x25.2.2.2.1 x25.2.2.2.2), (k220), (k226), ((fun j => (fun j => w37.heap.size ≤ j ∧ j ≠ k220) j ∧ (j < w223.heap.size ∨ w229.heap.size ≤ j))), ((fun j => (fun j => (fun j => Dm j ∧ (j < v17.heap.size ∨ w32.heap.size ≤ j)) j ∧ (j < w37.heap.size ∨ w223.heap.size ≤ j)) j ∧ j ≠ k226)), (i + 1), rfl, (by omega), (by first | assumption | (intro h; have h1 := h; (try dsimp only at h1); omega) | (intro h; exact absurd h.1 (by assumption)) | (intro h; have h2 := h.2; (try dsimp only at h2); omega) | (intro h; have h2 := h.1.2; (try dsimp only at h2); omega) | (intro h; have h2 := h.1.1.2; (try dsimp only at h2); omega) | (intro h; exact absurd h.1.1 (by assumption))), (by first | assumption | (intro h; have h1 := h; (try dsimp only at h1); omega) | (intro h; exact absurd h.1 (by assumption)) | (intro h; have h2 := h.2; (try dsimp only at h2); omega) | (intro h; have h2 := h.1.2; (try dsimp only at h2); omega) | (intro h; have h2 := h.1.1.2; (try dsimp only at h2); omega) | (intro h; exact absurd h.1.1 (by assumption))), (by omega), (by omega), (by omega), (by omega), (by first | exact F222 | exact F222.mono (fun _ h => h.1) (by intro h; omega)), (by first | exact F228 | exact F228.mono (fun _ h => h.1) (by intro h; omega)), rfl, rfl, rfl, rfl⟩
              ·
                try simp only [decide_eq_true_eq, decide_eq_false_iff_not, Bool.or_eq_true, Bool.and_eq_true, Bool.or_eq_false_iff, Bool.and_eq_false_iff, Bool.not_eq_true', Bool.not_eq_false', Int.not_lt, Int.not_le, Decidable.not_not, V.u8eq, V.S_inj, V.S_lit, V.S_lit2] at h19
                refine V.skip ?_
                refine V.bN ?_
                refine V.tN ?_
                refine V.seq ?_
                obtain ⟨-, hnwX, a261, c265, a262, c266, a263, c267, a264, c268, F273, F269, F270, F271, F272⟩ := FXm.ex
                refine V.drawGT 28 (V.sel [(4, (fun v wz => ∃ (ra5 : Option Addr) (rc5 : Nat), v = .slice ra5 d.nf.length rc5 ∧ V.Row V.Cod.byte 5 wz V.None' w37.heap.size wz.heap.size ra5 rc5 d.nf)), (15, (fun v wz => ∃ (ra6 : Option Addr) (rc6 : Nat), v = .slice ra6 d.nc.length rc6 ∧ V.Row V.Cod.byte 5 wz V.None' w37.heap.size wz.heap.size ra6 rc6 d.nc)), (26, (fun v wz => v = .bool (dDirty d)))]) mixed (by kernel_rfl) (V.mono_cons (by rintro v wz wz' g ⟨ra5, rc5, rfl, rF5⟩; exact ⟨ra5, rc5, rfl, (by first | exact (rF5.gr g).mono (V.In.sub (Nat.le_refl _) g.size) | exact rF5.gr g | exact (rF5.gr g).mono (fun _ h => h) (Nat.le_refl _) g.size | exact (rF5.gr g).mono (fun k h => ⟨h.1, Nat.lt_of_lt_of_le h.2 g.size⟩))⟩) (V.mono_cons (by rintro v wz wz' g ⟨ra6, rc6, rfl, rF6⟩; exact ⟨ra6, rc6, rfl, (by first | exact (rF6.gr g).mono (V.In.sub (Nat.le_refl _) g.size) | exact rF6.gr g | exact (rF6.gr g).mono (fun _ h => h) (Nat.le_refl _) g.size | exact (rF6.gr g).mono (fun k h => ⟨h.1, Nat.lt_of_lt_of_le h.2 g.size⟩))⟩) (V.mono_cons V.eqV_mono V.mono_nil))) ?_
                refine V.grun T_ok 4 rfl (V.sel_none rfl) ?_
                refine V.gyes rfl rfl rfl ?_
                refine V.gcall (fun w' h => (dfile_spec (FXd.gr h.1)).mono (by rintro v w'' ⟨ra5, rc5, rfl, rF5, G⟩; exact ⟨⟨ra5, rc5, rfl, (by first | exact rF5.mono (V.In.mono_l h.1.size) | exact rF5 | exact rF5.mono (fun _ h => h) h.1.size (Nat.le_refl _))⟩, G⟩)) rfl rfl rfl rfl ?_
                rintro _ w277 - - ⟨a274, c275, rfl, -⟩
                refine V.gyes rfl rfl rfl ?_
                refine V.gtoStr (fun w' h => by obtain ⟨_, _, he, F0⟩ := (V.Hist.here (h.get (i := 4) rfl)); cases he; exact F0.sl.mono (fun _ _ => trivial)) Try.underlying22 Try.underlying5 Try.underlying9 rfl rfl rfl rfl rfl ?_
                refine V.grun T_ok 3 rfl (V.sel_none rfl) ?_
                refine V.gyes rfl rfl rfl ?_
                refine V.gloadO T_ok (fun w' h => F273.gr h.1) rfl rfl rfl rfl rfl rfl ?_
                refine V.gyes rfl rfl rfl ?_
                refine V.gtoStr (fun w' h => F270.gr h.1) Try.underlying22 Try.underlying5 Try.underlying9 rfl rfl rfl rfl rfl ?_
                refine V.grun T_ok 3 rfl (V.sel_none rfl) ?_
                refine V.gsplitF (j := 13) (t := 102) rfl rfl (by (simp)) ?_
                refine V.grun T_ok 1 rfl (V.sel_none rfl) ?_
                refine V.gyes rfl rfl rfl ?_
                refine V.gcall (fun w' h => (dcell_spec (FXd.gr h.1)).mono (by rintro v w'' ⟨ra6, rc6, rfl, rF6, G⟩; exact ⟨⟨ra6, rc6, rfl, (by first | exact rF6.mono (V.In.mono_l h.1.size) | exact rF6 | exact rF6.mono (fun _ h => h) h.1.size (Nat.le_refl _))⟩, G⟩)) rfl rfl rfl rfl ?_
                rintro _ w281 - - ⟨a278, c279, rfl, -⟩
                refine V.gyes rfl rfl rfl ?_
                refine V.gtoStr (fun w' h => by obtain ⟨_, _, he, F0⟩ := (V.Hist.here (h.get (i := 15) rfl)); cases he; exact F0.sl.mono (fun _ _ => trivial)) Try.underlying22 Try.underlying5 Try.underlying9 rfl rfl rfl rfl rfl ?_
                refine V.grun T_ok 3 rfl (V.sel_none rfl) ?_
                refine V.gyes rfl rfl rfl ?_
                refine V.gloadO T_ok (fun w' h => F273.gr h.1) rfl rfl rfl rfl rfl rfl ?_
                refine V.gyes rfl rfl rfl ?_
                refine V.gtoStr (fun w' h => F272.gr h.1) Try.underlying22 Try.underlying5 Try.underlying9 rfl rfl rfl rfl rfl ?_
                refine V.grun T_ok 3 rfl (V.sel_none rfl) ?_
                refine V.gsplitF (j := 24) (t := 113) rfl rfl (by (simp)) ?_
                refine V.grun T_ok 1 rfl (V.sel_none rfl) ?_
                refine V.gyes rfl rfl rfl ?_
                refine V.gcall (fun w' h => (ddirty_spec (FXd.gr h.1)).mono (by rintro v w'' ⟨rfl, G⟩; exact ⟨rfl, G⟩)) rfl rfl rfl rfl ?_
                rintro _ w282 - - rfl
                refine V.grun T_ok 1 rfl (V.sel_none rfl) ?_
                refine V.gnil ?_
                rintro w283 G284 hH285
                have z286 := V.Fr.size G284
                try replace F_script := F_script.gr G284
                try replace FXd := FXd.gr G284
                try replace FXm := FXm.gr G284
                try replace F28 := F28.gr G284
                try replace Fk31 := Fk31.gr G284
                try replace F269 := F269.gr G284
                try replace F270 := F270.gr G284
                try replace F271 := F271.gr G284
                try replace F272 := F272.gr G284
                try replace F273 := F273.gr G284
                replace HG := HG.grow G284
                clear G284
                have F276 : V.Row V.Cod.byte 5 w283 V.None' w37.heap.size w283.heap.size a274 c275 d.nf := by
                  obtain ⟨_, _, he, F0⟩ := (V.Hist.here (V.Hist.old (V.Hist.old (hH285 4))))
                  cases he
                  exact F0
                have F280 : V.Row V.Cod.byte 5 w283 V.None' w37.heap.size w283.heap.size a278 c279 d.nc := by
                  obtain ⟨_, _, he, F0⟩ := (V.Hist.here (V.Hist.old (hH285 15)))
                  cases he
                  exact F0
                clear hH285
                refine V.yes rfl rfl rfl ?_
                refine V.call (rdirty_spec FXm) rfl rfl rfl ?_
                rintro _ w287 ⟨rfl, G288⟩
                have z289 := V.Fr.size G288
                try replace F_script := F_script.gr G288
                try replace FXd := FXd.gr G288
                try replace FXm := FXm.gr G288
                try replace F28 := F28.gr G288
                try replace Fk31 := Fk31.gr G288
                try replace F269 := F269.gr G288
                try replace F270 := F270.gr G288
                try replace F271 := F271.gr G288
                try replace F272 := F272.gr G288
                try replace F273 := F273.gr G288
                try replace F276 := F276.gr G288
                try replace F280 := F280.gr G288
                replace HG := HG.grow G288
                clear G288
                refine V.run T_ok 2 rfl ?_
                refine V.nil ?_
                refine V.tN ?_
                refine V.condN rfl (by (simp)) ?_
                refine V.skip ?_
                refine V.bN ?_
                refine V.tN ?_
                refine V.region ?_
                refine V.run T_ok 1 rfl ?_
                refine V.addN rfl rfl rfl rfl rfl (by first | omega | (simp only [List.length_take, List.length_drop, List.length_append, List.length_cons, List.length_nil, List.length_replicate, List.length_set, V.length_data, V.S_size]; omega)) (by first | omega | (simp only [List.length_take, List.length_drop, List.length_append, List.length_cons, List.length_nil, List.length_replicate, List.length_set, V.length_data, V.S_size]; omega)) ?_
                refine V.run T_ok 1 rfl ?_
                refine V.nil ?_
                refine V.tN ?_
                exact ⟨_, (by omega), HG, (by omega), F_script, (d), (kd), (km), ((fun j => Dd j ∧ (j < v17.heap.size ∨ w32.heap.size ≤ j))), ((fun j => Dm j ∧ (j < v17.heap.size ∨ w32.heap.size ≤ j))), (i + 1), rfl, (by omega), (by first | assumption | (intro h; have h1 := h; (try dsimp only at h1); omega) | (intro h; exact absurd h.1 (by assumption)) | (intro h; have h2 := h.2; (try dsimp only at h2); omega) | (intro h; have h2 := h.1.2; (try dsimp only at h2); omega) | (intro h; have h2 := h.1.1.2; (try dsimp only at h2); omega) | (intro h; exact absurd h.1.1 (by assumption))), (by first | assumption | (intro h; have h1 := h; (try dsimp only at h1); omega) | (intro h; exact absurd h.1 (by assumption)) | (intro h; have h2 := h.2; (try dsimp only at h2); omega) | (intro h; have h2 := h.1.2; (try dsimp only at h2); omega) | (intro h; have h2 := h.1.1.2; (try dsimp only at h2); omega) | (intro h; exact absurd h.1.1 (by assumption))), (by omega), (by omega), (by omega), (by omega), (by first | exact FXd | exact FXd.mono (fun _ h => h.1) (by intro h; omega)), (by first | exact FXm | exact FXm.mono (fun _ h => h.1) (by intro h; omega)), rfl, rfl, rfl, rfl⟩
  ·
    try simp only [decide_eq_true_eq, decide_eq_false_iff_not, Bool.or_eq_true, Bool.and_eq_true, Bool.or_eq_false_iff, Bool.and_eq_false_iff, Bool.not_eq_true', Bool.not_eq_false', Int.not_lt, Int.not_le, Decidable.not_not, V.u8eq, V.S_inj, V.S_lit, V.S_lit2] at h4
    refine V.exit ?_
    refine V.tX ?_
    refine V.tX ?_
    refine V.bE ?_
    refine V.tN ?_
    refine V.seq ?_
    refine V.region ?_
    refine V.call (alive_spec) rfl rfl rfl ?_
    rintro _ w290 ⟨rfl, G291⟩
    have z292 := V.Fr.size G291
    try replace F_script := F_script.gr G291
    try replace FXd := FXd.gr G291
    try replace FXm := FXm.gr G291
    replace HG := HG.grow G291
    clear G291
    refine V.run T_ok 1 rfl ?_
    refine V.nil ?_
    refine V.tN ?_
    refine V.ret ?_
    refine V.done rfl ?_
    exact ⟨(by first | rfl | simp only [List.length_set]), HG⟩

end Go.Proofs.Ytomacafijmngnaa
