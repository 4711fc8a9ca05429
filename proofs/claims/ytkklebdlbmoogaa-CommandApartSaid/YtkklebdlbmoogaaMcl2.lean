/- Proved here: walks: what functions of this seat's program return and what they leave of memory, each as a contract. Conditions: stated at each theorem. -/
import Derived.Test.YtkklebdlbmoogaaMcl
namespace Go.Proofs.Ytkklebdlbmoogaa
set_option linter.unusedVariables false
set_option linter.unusedSimpArgs false
open Go
open V (Bytes Meets Env Sl Own Gr Fr Cells S)

theorem cmd_parts {d : CmdV} (h : cmdB d = true) : nK d.kd = true ∧ fldB d = true ∧ (nS d.kd = true → ¬ d.fr = S []) ∧ (nA d.kd = true → ¬ d.an = S []) := by
  unfold cmdB at h
  simp only [Bool.and_eq_true, Bool.not_eq_true', Bool.and_eq_false_iff, decide_eq_false_iff_not] at h
  obtain ⟨⟨⟨⟨⟨h1, h2⟩, h3⟩, -⟩, h4⟩, -⟩ := h
  exact ⟨h1, h2, fun h => by rcases h3 with h3 | h3; rw [h] at h3; cases h3; exact h3, fun h => by rcases h4 with h4 | h4; rw [h] at h4; cases h4; exact h4⟩
theorem spn_cases {d : CmdV} (h : cmdB d = true) : (spnV d = [(d.fr, d.to)] ∧ rightB d.fr d.to = true ∧ keyV d = d.fr ∧ ¬ d.fr = S [] ∧ 1 < d.kd ∧ d.fr.size ≤ 8 ∧ d.to.size ≤ 8 ∧ isKey d.fr = true) ∨ (spnV d = [(d.an, S [])] ∧ rightB d.an (S []) = true ∧ keyV d = d.an ∧ ¬ d.an = S [] ∧ 1 < d.kd ∧ d.an.size ≤ 8 ∧ (S []).size ≤ 8 ∧ isKey d.an = true) ∨ (spnV d = [] ∧ keyV d = S [] ∧ d.kd ≤ 1 ∧ spnW d = false) := by
  have hs := cmd_small h
  obtain ⟨h1, h2, h3, h4⟩ := cmd_parts h
  unfold fldB at h2
  simp only [Bool.and_eq_true, Bool.or_eq_true, decide_eq_true_eq] at h2
  obtain ⟨⟨⟨⟨⟨-, h5⟩, h6⟩, -⟩, -⟩, -⟩ := h2
  unfold nK at h1
  rw [decide_eq_true_eq] at h1
  unfold spnV keyV spnW
  by_cases hS : nS d.kd = true
  · rw [if_pos hS, if_pos hS]
    have h7 : rightB d.fr d.to = true := by rcases h6 with h6 | h6; exact absurd h6.1 (h3 hS); exact h6
    refine .inl ⟨rfl, h7, rfl, h3 hS, ?_, hs.fr, hs.to, ?_⟩
    · unfold nS at hS; rw [decide_eq_true_eq] at hS; omega
    · unfold rightB at h7; simp only [Bool.and_eq_true] at h7; exact h7.1
  · rw [if_neg hS, if_neg hS]
    by_cases hA : nA d.kd = true
    · rw [if_pos hA, if_pos hA]
      have h7 : isKey d.an = true := by rcases h5 with h5 | h5; exact absurd h5 (h4 hA); exact h5
      refine .inr (.inl ⟨rfl, ?_, rfl, h4 hA, ?_, hs.an, by decide, h7⟩)
      · unfold rightB; rw [h7]; simp
      · unfold nA at hA; rw [decide_eq_true_eq] at hA; omega
    · rw [if_neg hA, if_neg hA, if_neg hS]
      refine .inr (.inr ⟨rfl, rfl, ?_, by simpa using hA⟩)
      unfold nS at hS; unfold nA at hA
      rw [decide_eq_true_eq] at hS hA
      omega
theorem spn_right {d : CmdV} (h : cmdB d = true) : ∀ x ∈ spnV d, rightB x.1 x.2 = true ∧ x.1.size ≤ 8 ∧ x.2.size ≤ 8 := by
  intro x hx
  rcases spn_cases h with ⟨e, h1, -, -, -, h2, h3, -⟩ | ⟨e, h1, -, -, -, h2, h3, -⟩ | ⟨e, -⟩ <;> rw [e] at hx
  · rw [List.mem_singleton.1 hx]; exact ⟨h1, h2, h3⟩
  · rw [List.mem_singleton.1 hx]; exact ⟨h1, h2, h3⟩
  · cases hx
theorem spn_pos {d : CmdV} (h : cmdB d = true) : (0 < ((spnV d).length : Int)) ↔ 1 < d.kd := by
  rcases spn_cases h with ⟨e, h1, -, -, h5, -⟩ | ⟨e, h1, -, -, h5, -⟩ | ⟨e, -, h5, -⟩ <;> rw [e] <;> simp <;> omega
theorem spn_one {d : CmdV} (h : cmdB d = true) (hw : spnW d = true) : (spnV d).length = 1 := by
  rcases spn_cases h with ⟨e, -⟩ | ⟨e, -⟩ | ⟨e, -, h5, h6⟩
  · rw [e]; rfl
  · rw [e]; rfl
  · rw [h6] at hw; cases hw
theorem spn_nil {d : CmdV} (h : cmdB d = true) : (spnV d).length = 0 ↔ keyV d = S [] := by
  rcases spn_cases h with ⟨e, -, h2, h3, -⟩ | ⟨e, -, h2, h3, -⟩ | ⟨e, h2, -⟩ <;> rw [e, h2] <;> simp
  · exact h3
  · exact h3
theorem key_small {d : CmdV} (h : cmdB d = true) : (keyV d).size ≤ 8 := by
  rcases spn_cases h with ⟨-, -, e, -, -, h3, -⟩ | ⟨-, -, e, -, -, h3, -⟩ | ⟨-, e, -⟩ <;> rw [e]
  · exact h3
  · exact h3
  · decide
theorem spn_has {d : CmdV} {x : ByteArray × ByteArray} (h : cmdB d = true) (hx : x ∈ spnV d) : hasB x.1 x.2 (keyV d) = true := by
  have key : ∀ f t : ByteArray, rightB f t = true → hasB f t f = true := by
    intro f t h1
    unfold hasB
    rw [h1]
    unfold rightB at h1
    simp only [Bool.and_eq_true, Bool.or_eq_true, decide_eq_true_eq] at h1
    rw [h1.1]
    by_cases ht : t = S []
    · rw [if_pos ht]; simp
    · rw [if_neg ht]
      have h2 := h1.2.resolve_left ht
      rw [decide_eq_true h2.2, decide_eq_true (by grind : f ≤ f)]; rfl
  rcases spn_cases h with ⟨e, h1, e2, -⟩ | ⟨e, h1, e2, -⟩ | ⟨e, -⟩ <;> rw [e] at hx
  · rw [List.mem_singleton.1 hx, e2]; exact key _ _ h1
  · rw [List.mem_singleton.1 hx, e2]; exact key _ _ h1
  · cases hx
theorem no_span {d : CmdV} (h : cmdB d = true) : cmdB ⟨d.kd, d.id, d.le, d.nd, d.ti, d.te, d.an, d.sw, d.sl, d.sq, S [], S [], d.va, d.go, d.aw, d.al, d.lw, d.ll, d.cm, d.st, d.ws, d.pr⟩ = !nS d.kd := by
  unfold cmdB fldB numsL stsL at *
  generalize d.ws.all wkB = p1 at *; generalize ([d.id, d.le, d.sq, d.pr, d.ti, d.te] : List Int).all nmB = p2 at *; generalize ([(d.sw, d.sl), (d.aw, d.al), (d.lw, d.ll)] : List (Int × Int)).all stB2 = p3 at *
  simp only [Bool.and_eq_true] at h
  obtain ⟨⟨⟨⟨⟨h1, ⟨⟨⟨⟨⟨⟨⟨h2, h3⟩, h4⟩, h5⟩, h6⟩, h7⟩, h8⟩, h9⟩⟩, h10⟩, h11⟩, h12⟩, h13⟩ := h
  first | (simp_all; done) | (simp_all; grind)
theorem no_anchor {d : CmdV} (h : cmdB d = true) : cmdB ⟨d.kd, d.id, d.le, d.nd, d.ti, d.te, S [], d.sw, d.sl, d.sq, d.fr, d.to, d.va, d.go, d.aw, d.al, d.lw, d.ll, d.cm, d.st, d.ws, d.pr⟩ = !nA d.kd := by
  unfold cmdB fldB numsL stsL at *
  generalize d.ws.all wkB = p1 at *; generalize ([d.id, d.le, d.sq, d.pr, d.ti, d.te] : List Int).all nmB = p2 at *; generalize ([(d.sw, d.sl), (d.aw, d.al), (d.lw, d.ll)] : List (Int × Int)).all stB2 = p3 at *
  simp only [Bool.and_eq_true] at h
  obtain ⟨⟨⟨⟨⟨h1, ⟨⟨⟨⟨⟨⟨⟨h2, h3⟩, h4⟩, h5⟩, h6⟩, h7⟩, h8⟩, h9⟩⟩, h10⟩, h11⟩, h12⟩, h13⟩ := h
  first | (simp_all; done) | (simp_all; grind)
theorem no_writes {d : CmdV} (h : cmdB d = true) : cmdB ⟨d.kd, d.id, d.le, d.nd, d.ti, d.te, d.an, d.sw, d.sl, d.sq, d.fr, d.to, d.va, d.go, d.aw, d.al, d.lw, d.ll, d.cm, d.st, [], d.pr⟩ = !nW d.kd := by
  unfold cmdB fldB numsL stsL at *
  generalize d.ws.all wkB = p1 at *; generalize ([d.id, d.le, d.sq, d.pr, d.ti, d.te] : List Int).all nmB = p2 at *; generalize ([(d.sw, d.sl), (d.aw, d.al), (d.lw, d.ll)] : List (Int × Int)).all stB2 = p3 at *
  simp only [Bool.and_eq_true] at h
  obtain ⟨⟨⟨⟨⟨h1, ⟨⟨⟨⟨⟨⟨⟨h2, h3⟩, h4⟩, h5⟩, h6⟩, h7⟩, h8⟩, h9⟩⟩, h10⟩, h11⟩, h12⟩, h13⟩ := h
  first | (simp_all; done) | (simp_all; grind)

set_option maxHeartbeats 900000 in
set_option maxRecDepth 10000 in
theorem commandTouches_walk {w : World} {d : CmdV} {D_o : Nat → Prop} {c_o : Nat} {a_o : Option Addr} (F_o : Sl V.Cod.write w D_o a_o c_o d.ws) (hD_o : ∀ k, D_o k → k < w.heap.size)  (hz : SzOk d) :
    Meets Try.prog 5 [.agg #[.int .i64 d.kd, .int .i64 d.id, .int .i64 d.le, .int .i64 d.nd, .int .i64 d.ti, .int .i64 d.te, .string d.an, .int .i64 d.sw, .int .i64 d.sl, .int .i64 d.sq, .string d.fr, .string d.to, .string d.va, .bool d.go, .int .i64 d.aw, .int .i64 d.al, .int .i64 d.lw, .int .i64 d.ll, .bool d.cm, .bool d.st, .slice a_o d.ws.length c_o, .int .i64 d.pr]] w fun r w' => r = .bool true ∧ Gr w w' := by
 have HG := V.Fr.refl [] w
 refine V.enter (n := 78) Try.func5 rfl rfl (by decide) rfl ?_
 refine V.seq ?_
 refine V.region ?_
 refine V.box rfl rfl rfl rfl ?_
 rintro k1 w3 s5 s6 G4 Fk2
 have z7 := V.Fr.size G4
 try replace F_o := F_o.gr G4
 replace HG := HG.grow G4
 clear G4
 try simp only [V.cellsL, V.spliceL] at Fk2
 refine V.run T_ok 1 rfl ?_
 refine V.nil ?_
 refine V.tN ?_
 refine V.seq ?_
 refine V.region ?_
 refine V.loadO T_ok Fk2 rfl rfl rfl rfl rfl ?_
 refine V.call (fitsC_spec (d := d) F_o (fun k hk => by have := hD_o k hk; omega)) rfl rfl rfl ?_
 rintro _ w8 ⟨rfl, G9⟩
 have z10 := V.Fr.size G9
 try replace F_o := F_o.gr G9
 try replace Fk2 := Fk2.gr G9
 replace HG := HG.grow G9
 clear G9
 refine V.run T_ok 1 rfl ?_
 refine V.nil ?_
 refine V.tN ?_
 refine V.seq ?_
 refine V.region ?_
 refine V.loadO T_ok Fk2 rfl rfl rfl rfl rfl ?_
 refine V.call (spans_spec (d := d) F_o (fun k hk => by have := hD_o k hk; omega)) rfl rfl rfl ?_
 rintro _ w14 ⟨a11, c12, rfl, F13, G15⟩
 have z16 := V.Fr.size G15
 try replace F_o := F_o.gr G15
 try replace Fk2 := Fk2.gr G15
 replace HG := HG.grow G15
 clear G15
 refine V.run T_ok 5 rfl ?_
 refine V.nil ?_
 refine V.tN ?_
 refine V.seq ?_
 refine V.seq ?_
 refine V.region ?_
 refine V.run T_ok 3 rfl ?_
 refine V.split (j := 2) (t := 18) rfl rfl (fun g3_2 => ?_) (fun g3_2 => ?_)
 ·
  try replace g3_2 := V.dec g3_2
  try simp only [V.mk0, V.mk1, V.mk2, V.mk3] at g3_2
  refine V.run T_ok 4 rfl ?_
  refine V.nil ?_
  refine V.tN ?_
  refine V.condY rfl rfl ?_
  refine V.seq ?_
  refine V.region ?_
  refine V.call (alive_spec) rfl rfl rfl ?_
  rintro _ w17 ⟨rfl, G18⟩
  have z19 := V.Fr.size G18
  try replace F_o := F_o.gr G18
  try replace Fk2 := Fk2.gr G18
  try replace F13 := F13.gr G18
  replace HG := HG.grow G18
  clear G18
  refine V.run T_ok 1 rfl ?_
  refine V.nil ?_
  refine V.tN ?_
  refine V.ret ?_
  refine V.tR ?_
  refine V.done rfl ?_
  exact ⟨(congrArg Value.bool (by first | rfl | (first | exact spn_has hcb (by assumption) | grind))), HG⟩
 ·
  try replace g3_2 := V.dec g3_2
  try simp only [V.mk0, V.mk1, V.mk2, V.mk3] at g3_2
  refine V.yes rfl rfl rfl ?_
  refine V.loadO T_ok Fk2 rfl rfl rfl rfl rfl ?_
  refine V.yes rfl rfl rfl ?_
  refine V.call (cright_spec (d := d) F_o (fun k hk => by have := hD_o k hk; omega) (by first | (with_reducible assumption) | exact hz | (constructor <;> first | exact hz.an | exact hz.fr | exact hz.to | exact hz.va | exact hz.ws | exact (by decide : (S []).size ≤ 9223372036854775807) | exact (fun x hx => nomatch (show x ∈ ([] : List (ByteArray × Int)) from hx))))) rfl rfl rfl ?_
  rintro _ w20 ⟨rfl, G21⟩
  have z22 := V.Fr.size G21
  try replace F_o := F_o.gr G21
  try replace Fk2 := Fk2.gr G21
  try replace F13 := F13.gr G21
  replace HG := HG.grow G21
  clear G21
  refine V.run T_ok 2 rfl ?_
  refine V.nil ?_
  refine V.tN ?_
  refine V.condT rfl (fun h3 => ?_) (fun h3 => ?_)
  ·
   try replace h3 := V.dec h3
   try simp only [V.mk0, V.mk1, V.mk2, V.mk3] at h3
   refine V.seq ?_
   refine V.region ?_
   refine V.call (alive_spec) rfl rfl rfl ?_
   rintro _ w23 ⟨rfl, G24⟩
   have z25 := V.Fr.size G24
   try replace F_o := F_o.gr G24
   try replace Fk2 := Fk2.gr G24
   try replace F13 := F13.gr G24
   replace HG := HG.grow G24
   clear G24
   refine V.run T_ok 1 rfl ?_
   refine V.nil ?_
   refine V.tN ?_
   refine V.ret ?_
   refine V.tR ?_
   refine V.done rfl ?_
   exact ⟨(congrArg Value.bool (by first | rfl | (first | exact spn_has hcb (by assumption) | grind))), HG⟩
  ·
   try replace h3 := V.dec h3
   try simp only [V.mk0, V.mk1, V.mk2, V.mk3] at h3
   have hcb : cmdB d = true := by first | exact h3 | exact h3.2
   have hks := key_small hcb
   refine V.skip ?_
   refine V.tN ?_
   refine V.seq ?_
   refine V.seq ?_
   refine V.region ?_
   refine V.run T_ok 1 rfl ?_
   refine V.nil ?_
   refine V.tN ?_
   refine V.block ?_
   have hl63 := F13.len63
   refine V.loopM (fun m e v27 => Fr [] w v27 ∧ w20.heap.size ≤ v27.heap.size ∧ Sl V.Cod.write v27 D_o a_o c_o d.ws ∧ Cells v27 k1 [.int .i64 d.kd, .int .i64 d.id, .int .i64 d.le, .int .i64 d.nd, .int .i64 d.ti, .int .i64 d.te, .string d.an, .int .i64 d.sw, .int .i64 d.sl, .int .i64 d.sq, .string d.fr, .string d.to, .string d.va, .bool d.go, .int .i64 d.aw, .int .i64 d.al, .int .i64 d.lw, .int .i64 d.ll, .bool d.cm, .bool d.st, .slice a_o d.ws.length c_o, .int .i64 d.pr] 33 ∧ Sl (V.Cod.pair V.Cod.str V.Cod.str) v27 (V.In w8.heap.size w14.heap.size) a11 c12 (spnV d) ∧ ∃ (i : Nat) , m = (spnV d).length - i ∧ i ≤ (spnV d).length ∧ e 1 = .pointer (some ⟨k1, 0, none⟩) ∧ e 4 = .slice a11 (spnV d).length c12 ∧ e 5 = .bool (spnW d) ∧ e 6 = .int .i64 (i : Int)) ?_ ?_
   ·
    exact ⟨_, HG, (by omega), F_o, Fk2, F13, (0), rfl, (Nat.zero_le _), rfl, rfl, rfl, rfl⟩
   clear HG F_o Fk2 F13
   rintro _ e v27 ⟨HG, z28, F_o, Fk2, F13, i, rfl, hi, he0_1, he0_4, he0_5, he0_6⟩
   refine V.knownC (t := 1) he0_1 ?_
   refine V.knownC (t := 4) he0_4 ?_
   refine V.knownC (t := 5) he0_5 ?_
   refine V.knownC (t := 6) he0_6 ?_
   refine V.seq ?_
   refine V.seq ?_
   refine V.region ?_
   refine V.run T_ok 4 rfl ?_
   refine V.nil ?_
   refine V.tN ?_
   refine V.condT rfl (fun h6 => ?_) (fun h6 => ?_)
   ·
    try replace h6 := V.dec h6
    try simp only [V.mk0, V.mk1, V.mk2, V.mk3] at h6
    refine V.skip ?_
    refine V.tN ?_
    refine V.seq ?_
    refine V.block ?_
    refine V.seq ?_
    refine V.region ?_
    refine V.run T_ok 2 rfl ?_
    refine V.elem T_ok F13 rfl rfl sz30 rfl rfl rfl rfl (by first | omega | (simp only [List.length_take, List.length_drop, List.length_append, List.length_cons, List.length_nil, List.length_replicate, List.length_set, V.length_data, V.S_size]; omega)) (by first | omega | (simp only [List.length_take, List.length_drop, List.length_append, List.length_cons, List.length_nil, List.length_replicate, List.length_set, V.length_data, V.S_size]; omega)) ?_
    rintro b29 o30 cs31 hx32 hb33 hR36 hA34
    obtain ⟨x35, hx35⟩ : ∃ z', (spnV d)[((i : Int)).toNat] = z' := ⟨_, rfl⟩
    rw [hx35] at hR36
    obtain ⟨_, _, rfl, rfl, rfl⟩ := hR36
    try simp only [Int.toNat_natCast] at hx35 hx32
    refine V.loadA T_ok (o0 := o30) (off := 0) hA34 rfl rfl rfl rfl rfl ?_
    have hsx := spn_right hcb x35 (hx35 ▸ List.getElem_mem _)
    refine V.call (rspright_spec (f := x35.1) (t := x35.2) (by first | omega | decide | (simp only [V.S_size, List.length_cons, List.length_nil]; omega)) (by first | omega | decide | (simp only [V.S_size, List.length_cons, List.length_nil]; omega))) rfl rfl rfl ?_
    rintro _ w37 ⟨rfl, G38⟩
    have z39 := V.Fr.size G38
    try replace F_o := F_o.gr G38
    try replace Fk2 := Fk2.gr G38
    try replace F13 := F13.gr G38
    replace HG := HG.grow G38
    clear G38
    refine V.run T_ok 1 rfl ?_
    refine V.nil ?_
    refine V.tN ?_
    refine V.seq ?_
    refine V.region ?_
    refine V.run T_ok 2 rfl ?_
    refine V.nil ?_
    refine V.tN ?_
    refine V.condN rfl (by (rw [hsx.1]; rfl)) ?_
    refine V.skip ?_
    refine V.bN ?_
    refine V.tN ?_
    refine V.region ?_
    refine V.run T_ok 1 rfl ?_
    refine V.addN rfl rfl rfl rfl rfl (by first | omega | (simp only [List.length_take, List.length_drop, List.length_append, List.length_cons, List.length_nil, List.length_replicate, List.length_set, V.length_data, V.S_size]; omega)) (by first | omega | (simp only [List.length_take, List.length_drop, List.length_append, List.length_cons, List.length_nil, List.length_replicate, List.length_set, V.length_data, V.S_size]; omega)) ?_
    refine V.run T_ok 1 rfl ?_
    refine V.nil ?_
    refine V.tN ?_
    exact ⟨_, (by omega), HG, (by omega), F_o, Fk2, F13, (i + 1), rfl, (by omega), rfl, rfl, rfl, rfl⟩
   ·
    try replace h6 := V.dec h6
    try simp only [V.mk0, V.mk1, V.mk2, V.mk3] at h6
    refine V.exit ?_
    refine V.tX ?_
    refine V.tX ?_
    refine V.bE ?_
    refine V.tN ?_
    refine V.seq ?_
    refine V.region ?_
    refine V.loadO T_ok Fk2 rfl rfl rfl rfl rfl ?_
    refine V.call (ckey_spec (d := d) F_o (fun k hk => by have := hD_o k hk; omega)) rfl rfl rfl ?_
    rintro _ w40 ⟨rfl, G41⟩
    have z42 := V.Fr.size G41
    try replace F_o := F_o.gr G41
    try replace Fk2 := Fk2.gr G41
    try replace F13 := F13.gr G41
    replace HG := HG.grow G41
    clear G41
    refine V.run T_ok 1 rfl ?_
    refine V.nil ?_
    refine V.tN ?_
    refine V.seq ?_
    refine V.region ?_
    refine V.call (alive_spec) rfl rfl rfl ?_
    rintro _ w43 ⟨rfl, G44⟩
    have z45 := V.Fr.size G44
    try replace F_o := F_o.gr G44
    try replace Fk2 := Fk2.gr G44
    try replace F13 := F13.gr G44
    replace HG := HG.grow G44
    clear G44
    refine V.run T_ok 5 rfl ?_
    refine V.yes rfl rfl rfl ?_
    refine V.loadO T_ok Fk2 rfl rfl rfl rfl rfl ?_
    refine V.run T_ok 4 rfl ?_
    refine V.splitT (j := 10) (t := 49) rfl rfl (by (have := spn_pos hcb; grind)) ?_
    refine V.run T_ok 3 rfl ?_
    refine V.split (j := 13) (t := 52) rfl rfl (fun g12_13 => ?_) (fun g12_13 => ?_)
    ·
     try replace g12_13 := V.dec g12_13
     try simp only [V.mk0, V.mk1, V.mk2, V.mk3] at g12_13
     refine V.run T_ok 14 rfl ?_
     refine V.splitT (j := 27) (t := 66) rfl rfl (by (have h := spn_nil hcb; show (decide _ == decide _) = true; rw [beq_iff_eq, decide_eq_decide]; exact Iff.trans (by omega) h)) ?_
     refine V.run T_ok 4 rfl ?_
     refine V.split (j := 31) (t := 70) rfl rfl (fun g12_31 => ?_) (fun g12_31 => ?_)
     ·
      try replace g12_31 := V.dec g12_31
      try simp only [V.mk0, V.mk1, V.mk2, V.mk3] at g12_31
      refine V.run T_ok 8 rfl ?_
      refine V.nil ?_
      refine V.tN ?_
      refine V.ret ?_
      refine V.done rfl ?_
      exact ⟨(congrArg Value.bool (by first | rfl | (first | exact spn_has hcb (by assumption) | grind))), HG⟩
     ·
      try replace g12_31 := V.dec g12_31
      try simp only [V.mk0, V.mk1, V.mk2, V.mk3] at g12_31
      refine V.run T_ok 1 rfl ?_
      refine V.yes rfl rfl rfl ?_
      refine V.elem T_ok F13 rfl rfl sz30 rfl rfl rfl rfl (by first | omega | (simp only [List.length_take, List.length_drop, List.length_append, List.length_cons, List.length_nil, List.length_replicate, List.length_set, V.length_data, V.S_size]; omega)) (by first | omega | (simp only [List.length_take, List.length_drop, List.length_append, List.length_cons, List.length_nil, List.length_replicate, List.length_set, V.length_data, V.S_size]; omega)) ?_
      rintro b46 o47 cs48 hx49 hb50 hR53 hA51
      obtain ⟨x52, hx52⟩ : ∃ z', (spnV d)[(0 : Int).toNat] = z' := ⟨_, rfl⟩
      rw [hx52] at hR53
      obtain ⟨_, _, rfl, rfl, rfl⟩ := hR53
      try simp only [Int.toNat_natCast] at hx52 hx49
      refine V.yes rfl rfl rfl ?_
      refine V.loadA T_ok (o0 := o47) (off := 0) hA51 rfl rfl rfl rfl rfl ?_
      refine V.run T_ok 1 rfl ?_
      refine V.yes rfl rfl rfl ?_
      have hx0 : x52 ∈ spnV d := hx52 ▸ List.getElem_mem _
      have hsx := spn_right hcb _ hx0
      refine V.call (rhas_spec (f := x52.1) (t := x52.2) (k := (keyV d)) (by first | omega | decide | (simp only [V.S_size, List.length_cons, List.length_nil]; omega)) (by first | omega | decide | (simp only [V.S_size, List.length_cons, List.length_nil]; omega)) (by first | omega | decide | (simp only [V.S_size, List.length_cons, List.length_nil]; omega))) rfl rfl rfl ?_
      rintro _ w54 ⟨rfl, G55⟩
      have z56 := V.Fr.size G55
      try replace F_o := F_o.gr G55
      try replace Fk2 := Fk2.gr G55
      try replace F13 := F13.gr G55
      replace HG := HG.grow G55
      clear G55
      refine V.run T_ok 3 rfl ?_
      refine V.nil ?_
      refine V.tN ?_
      refine V.ret ?_
      refine V.done rfl ?_
      exact ⟨(congrArg Value.bool (by first | rfl | (first | exact spn_has hcb (by assumption) | grind))), HG⟩
    ·
     try replace g12_13 := V.dec g12_13
     try simp only [V.mk0, V.mk1, V.mk2, V.mk3] at g12_13
     refine V.run T_ok 6 rfl ?_
     refine V.splitT (j := 19) (t := 58) rfl rfl (by (have := spn_one hcb; grind)) ?_
     refine V.run T_ok 8 rfl ?_
     refine V.splitT (j := 27) (t := 66) rfl rfl (by (have h := spn_nil hcb; show (decide _ == decide _) = true; rw [beq_iff_eq, decide_eq_decide]; exact Iff.trans (by omega) h)) ?_
     refine V.run T_ok 4 rfl ?_
     refine V.split (j := 31) (t := 70) rfl rfl (fun g12_31 => ?_) (fun g12_31 => ?_)
     ·
      try replace g12_31 := V.dec g12_31
      try simp only [V.mk0, V.mk1, V.mk2, V.mk3] at g12_31
      refine V.run T_ok 8 rfl ?_
      refine V.nil ?_
      refine V.tN ?_
      refine V.ret ?_
      refine V.done rfl ?_
      exact ⟨(congrArg Value.bool (by first | rfl | (first | exact spn_has hcb (by assumption) | grind))), HG⟩
     ·
      try replace g12_31 := V.dec g12_31
      try simp only [V.mk0, V.mk1, V.mk2, V.mk3] at g12_31
      refine V.run T_ok 1 rfl ?_
      refine V.yes rfl rfl rfl ?_
      refine V.elem T_ok F13 rfl rfl sz30 rfl rfl rfl rfl (by first | omega | (simp only [List.length_take, List.length_drop, List.length_append, List.length_cons, List.length_nil, List.length_replicate, List.length_set, V.length_data, V.S_size]; omega)) (by first | omega | (simp only [List.length_take, List.length_drop, List.length_append, List.length_cons, List.length_nil, List.length_replicate, List.length_set, V.length_data, V.S_size]; omega)) ?_
      rintro b57 o58 cs59 hx60 hb61 hR64 hA62
      obtain ⟨x63, hx63⟩ : ∃ z', (spnV d)[(0 : Int).toNat] = z' := ⟨_, rfl⟩
      rw [hx63] at hR64
      obtain ⟨_, _, rfl, rfl, rfl⟩ := hR64
      try simp only [Int.toNat_natCast] at hx63 hx60
      refine V.yes rfl rfl rfl ?_
      refine V.loadA T_ok (o0 := o58) (off := 0) hA62 rfl rfl rfl rfl rfl ?_
      refine V.run T_ok 1 rfl ?_
      refine V.yes rfl rfl rfl ?_
      have hx0 : x63 ∈ spnV d := hx63 ▸ List.getElem_mem _
      have hsx := spn_right hcb _ hx0
      refine V.call (rhas_spec (f := x63.1) (t := x63.2) (k := (keyV d)) (by first | omega | decide | (simp only [V.S_size, List.length_cons, List.length_nil]; omega)) (by first | omega | decide | (simp only [V.S_size, List.length_cons, List.length_nil]; omega)) (by first | omega | decide | (simp only [V.S_size, List.length_cons, List.length_nil]; omega))) rfl rfl rfl ?_
      rintro _ w65 ⟨rfl, G66⟩
      have z67 := V.Fr.size G66
      try replace F_o := F_o.gr G66
      try replace Fk2 := Fk2.gr G66
      try replace F13 := F13.gr G66
      replace HG := HG.grow G66
      clear G66
      refine V.run T_ok 3 rfl ?_
      refine V.nil ?_
      refine V.tN ?_
      refine V.ret ?_
      refine V.done rfl ?_
      exact ⟨(congrArg Value.bool (by first | rfl | (first | exact spn_has hcb (by assumption) | grind))), HG⟩

set_option maxHeartbeats 900000 in
set_option maxRecDepth 10000 in
theorem commandNeeds_walk {w : World} {d : CmdV} {D_o : Nat → Prop} {c_o : Nat} {a_o : Option Addr} (F_o : Sl V.Cod.write w D_o a_o c_o d.ws) (hD_o : ∀ k, D_o k → k < w.heap.size)  (hz : SzOk d) :
    Meets Try.prog 7 [.agg #[.int .i64 d.kd, .int .i64 d.id, .int .i64 d.le, .int .i64 d.nd, .int .i64 d.ti, .int .i64 d.te, .string d.an, .int .i64 d.sw, .int .i64 d.sl, .int .i64 d.sq, .string d.fr, .string d.to, .string d.va, .bool d.go, .int .i64 d.aw, .int .i64 d.al, .int .i64 d.lw, .int .i64 d.ll, .bool d.cm, .bool d.st, .slice a_o d.ws.length c_o, .int .i64 d.pr]] w fun r w' => r = .bool true ∧ Gr w w' := by
 have HG := V.Fr.refl [] w
 refine V.enter (n := 92) Try.func7 rfl rfl (by decide) rfl ?_
 refine V.seq ?_
 refine V.region ?_
 refine V.box rfl rfl rfl rfl ?_
 rintro k1 w3 s5 s6 G4 Fk2
 have z7 := V.Fr.size G4
 try replace F_o := F_o.gr G4
 replace HG := HG.grow G4
 clear G4
 try simp only [V.cellsL, V.spliceL] at Fk2
 refine V.run T_ok 1 rfl ?_
 refine V.nil ?_
 refine V.tN ?_
 refine V.seq ?_
 refine V.region ?_
 refine V.loadO T_ok Fk2 rfl rfl rfl rfl rfl ?_
 refine V.call (fitsC_spec (d := d) F_o (fun k hk => by have := hD_o k hk; omega)) rfl rfl rfl ?_
 rintro _ w8 ⟨rfl, G9⟩
 have z10 := V.Fr.size G9
 try replace F_o := F_o.gr G9
 try replace Fk2 := Fk2.gr G9
 replace HG := HG.grow G9
 clear G9
 refine V.run T_ok 1 rfl ?_
 refine V.nil ?_
 refine V.tN ?_
 refine V.seq ?_
 refine V.seq ?_
 refine V.region ?_
 refine V.run T_ok 3 rfl ?_
 refine V.split (j := 2) (t := 14) rfl rfl (fun g2_2 => ?_) (fun g2_2 => ?_)
 ·
  try replace g2_2 := V.dec g2_2
  try simp only [V.mk0, V.mk1, V.mk2, V.mk3] at g2_2
  refine V.run T_ok 4 rfl ?_
  refine V.nil ?_
  refine V.tN ?_
  refine V.condY rfl rfl ?_
  refine V.seq ?_
  refine V.region ?_
  refine V.call (alive_spec) rfl rfl rfl ?_
  rintro _ w11 ⟨rfl, G12⟩
  have z13 := V.Fr.size G12
  try replace F_o := F_o.gr G12
  try replace Fk2 := Fk2.gr G12
  replace HG := HG.grow G12
  clear G12
  refine V.run T_ok 1 rfl ?_
  refine V.nil ?_
  refine V.tN ?_
  refine V.ret ?_
  refine V.tR ?_
  refine V.done rfl ?_
  exact ⟨(congrArg Value.bool (by first | rfl | (rw [no_writes hcb]; unfold nW; grind))), HG⟩
 ·
  try replace g2_2 := V.dec g2_2
  try simp only [V.mk0, V.mk1, V.mk2, V.mk3] at g2_2
  refine V.yes rfl rfl rfl ?_
  refine V.loadO T_ok Fk2 rfl rfl rfl rfl rfl ?_
  refine V.yes rfl rfl rfl ?_
  refine V.call (cright_spec (d := d) F_o (fun k hk => by have := hD_o k hk; omega) (by first | (with_reducible assumption) | exact hz | (constructor <;> first | exact hz.an | exact hz.fr | exact hz.to | exact hz.va | exact hz.ws | exact (by decide : (S []).size ≤ 9223372036854775807) | exact (fun x hx => nomatch (show x ∈ ([] : List (ByteArray × Int)) from hx))))) rfl rfl rfl ?_
  rintro _ w14 ⟨rfl, G15⟩
  have z16 := V.Fr.size G15
  try replace F_o := F_o.gr G15
  try replace Fk2 := Fk2.gr G15
  replace HG := HG.grow G15
  clear G15
  refine V.run T_ok 2 rfl ?_
  refine V.nil ?_
  refine V.tN ?_
  refine V.condT rfl (fun h2 => ?_) (fun h2 => ?_)
  ·
   try replace h2 := V.dec h2
   try simp only [V.mk0, V.mk1, V.mk2, V.mk3] at h2
   refine V.seq ?_
   refine V.region ?_
   refine V.call (alive_spec) rfl rfl rfl ?_
   rintro _ w17 ⟨rfl, G18⟩
   have z19 := V.Fr.size G18
   try replace F_o := F_o.gr G18
   try replace Fk2 := Fk2.gr G18
   replace HG := HG.grow G18
   clear G18
   refine V.run T_ok 1 rfl ?_
   refine V.nil ?_
   refine V.tN ?_
   refine V.ret ?_
   refine V.tR ?_
   refine V.done rfl ?_
   exact ⟨(congrArg Value.bool (by first | rfl | (rw [no_writes hcb]; unfold nW; grind))), HG⟩
  ·
   try replace h2 := V.dec h2
   try simp only [V.mk0, V.mk1, V.mk2, V.mk3] at h2
   have hcb : cmdB d = true := by first | exact h2 | exact h2.2
   refine V.skip ?_
   refine V.tN ?_
   refine V.seq ?_
   refine V.region ?_
   refine V.loadO T_ok Fk2 rfl rfl rfl rfl rfl ?_
   refine V.alloc zero33 rfl rfl rfl ?_
   rintro k20 w22 s24 s25 G23 Fk21
   have z26 := V.Fr.size G23
   try replace F_o := F_o.gr G23
   try replace Fk2 := Fk2.gr G23
   replace HG := HG.grow G23
   clear G23
   try simp only [V.cellsL, V.spliceL] at Fk21
   refine V.storeO Fk21 rfl rfl rfl rfl sz33 rfl rfl rfl rfl ?_
   rintro w27 G28 z30 Fs29
   clear Fk21
   have z31 := V.Fr.size G28
   first | replace F_o := F_o.mb G28 hD_o | clear F_o | skip
   first | replace Fk2 := Fk2.mv1 G28 (by omega) | clear Fk2 | skip
   replace HG := HG.n1 G28
   clear G28
   have Fk21 := Fs29; clear Fs29
   simp only [V.spliceL, V.cellsL] at Fk21
   refine V.nil ?_
   refine V.tN ?_
   refine V.seq ?_
   refine V.region ?_
   refine V.mkStruct T_ok zero30 rfl rfl rfl rfl rfl ?_
   refine V.run T_ok 1 rfl ?_
   refine V.storeO Fk21 rfl rfl rfl rfl sz30 rfl rfl rfl rfl ?_
   rintro w32 G33 z35 Fs34
   clear Fk21
   have z36 := V.Fr.size G33
   first | replace F_o := F_o.mb G33 hD_o | clear F_o | skip
   first | replace Fk2 := Fk2.mv1 G33 (by omega) | clear Fk2 | skip
   replace HG := HG.n1 G33
   clear G33
   have Fk21 := Fs34; clear Fs34
   simp only [V.spliceL, V.cellsL] at Fk21
   refine V.nil ?_
   refine V.tN ?_
   refine V.seq ?_
   refine V.region ?_
   refine V.loadO T_ok Fk2 rfl rfl rfl rfl rfl ?_
   refine V.alloc zero33 rfl rfl rfl ?_
   rintro k37 w39 s41 s42 G40 Fk38
   have z43 := V.Fr.size G40
   try replace F_o := F_o.gr G40
   try replace Fk2 := Fk2.gr G40
   try replace Fk21 := Fk21.gr G40
   replace HG := HG.grow G40
   clear G40
   try simp only [V.cellsL, V.spliceL] at Fk38
   refine V.storeO Fk38 rfl rfl rfl rfl sz33 rfl rfl rfl rfl ?_
   rintro w44 G45 z47 Fs46
   clear Fk38
   have z48 := V.Fr.size G45
   first | replace F_o := F_o.mb G45 hD_o | clear F_o | skip
   first | replace Fk2 := Fk2.mv1 G45 (by omega) | clear Fk2 | skip
   first | replace Fk21 := Fk21.mv1 G45 (by omega) | clear Fk21 | skip
   replace HG := HG.n1 G45
   clear G45
   have Fk38 := Fs46; clear Fs46
   simp only [V.spliceL, V.cellsL] at Fk38
   refine V.nil ?_
   refine V.tN ?_
   refine V.seq ?_
   refine V.region ?_
   refine V.run T_ok 2 rfl ?_
   refine V.storeO Fk38 rfl rfl rfl rfl sz9 rfl rfl rfl rfl ?_
   rintro w49 G50 z52 Fs51
   clear Fk38
   have z53 := V.Fr.size G50
   first | replace F_o := F_o.mb G50 hD_o | clear F_o | skip
   first | replace Fk2 := Fk2.mv1 G50 (by omega) | clear Fk2 | skip
   first | replace Fk21 := Fk21.mv1 G50 (by omega) | clear Fk21 | skip
   replace HG := HG.n1 G50
   clear G50
   have Fk38 := Fs51; clear Fs51
   simp only [V.spliceL, V.cellsL] at Fk38
   refine V.nil ?_
   refine V.tN ?_
   refine V.seq ?_
   refine V.region ?_
   refine V.loadO T_ok Fk2 rfl rfl rfl rfl rfl ?_
   refine V.alloc zero33 rfl rfl rfl ?_
   rintro k54 w56 s58 s59 G57 Fk55
   have z60 := V.Fr.size G57
   try replace F_o := F_o.gr G57
   try replace Fk2 := Fk2.gr G57
   try replace Fk21 := Fk21.gr G57
   try replace Fk38 := Fk38.gr G57
   replace HG := HG.grow G57
   clear G57
   try simp only [V.cellsL, V.spliceL] at Fk55
   refine V.storeO Fk55 rfl rfl rfl rfl sz33 rfl rfl rfl rfl ?_
   rintro w61 G62 z64 Fs63
   clear Fk55
   have z65 := V.Fr.size G62
   first | replace F_o := F_o.mb G62 hD_o | clear F_o | skip
   first | replace Fk2 := Fk2.mv1 G62 (by omega) | clear Fk2 | skip
   first | replace Fk21 := Fk21.mv1 G62 (by omega) | clear Fk21 | skip
   first | replace Fk38 := Fk38.mv1 G62 (by omega) | clear Fk38 | skip
   replace HG := HG.n1 G62
   clear G62
   have Fk55 := Fs63; clear Fs63
   simp only [V.spliceL, V.cellsL] at Fk55
   refine V.nil ?_
   refine V.tN ?_
   refine V.seq ?_
   refine V.region ?_
   refine V.run T_ok 1 rfl ?_
   refine V.storeO Fk55 rfl rfl rfl rfl sz31 rfl rfl rfl rfl ?_
   rintro w66 G67 z69 Fs68
   clear Fk55
   have z70 := V.Fr.size G67
   first | replace F_o := F_o.mb G67 hD_o | clear F_o | skip
   first | replace Fk2 := Fk2.mv1 G67 (by omega) | clear Fk2 | skip
   first | replace Fk21 := Fk21.mv1 G67 (by omega) | clear Fk21 | skip
   first | replace Fk38 := Fk38.mv1 G67 (by omega) | clear Fk38 | skip
   replace HG := HG.n1 G67
   clear G67
   have Fk55 := Fs68; clear Fs68
   simp only [V.spliceL, V.cellsL] at Fk55
   refine V.nil ?_
   refine V.tN ?_
   refine V.seq ?_
   refine V.region ?_
   refine V.run T_ok 1 rfl ?_
   refine V.loadO T_ok Fk2 rfl rfl rfl rfl rfl ?_
   refine V.run T_ok 1 rfl ?_
   refine V.nil ?_
   refine V.tN ?_
   refine V.seq ?_
   refine V.region ?_
   refine V.run T_ok 3 rfl ?_
   refine V.orG T_ok 2 2 32 rfl rfl rfl rfl rfl rfl rfl rfl ?_
   refine V.run T_ok 1 rfl ?_
   refine V.orG T_ok 2 6 36 rfl rfl rfl rfl rfl rfl rfl rfl ?_
   refine V.run T_ok 1 rfl ?_
   refine V.orG T_ok 2 10 40 rfl rfl rfl rfl rfl rfl rfl rfl ?_
   refine V.run T_ok 1 rfl ?_
   refine V.orG T_ok 2 14 44 rfl rfl rfl rfl rfl rfl rfl rfl ?_
   refine V.run T_ok 1 rfl ?_
   refine V.nil ?_
   refine V.tN ?_
   refine V.seq ?_
   refine V.region ?_
   refine V.run T_ok 3 rfl ?_
   refine V.orG T_ok 2 2 50 rfl rfl rfl rfl rfl rfl rfl rfl ?_
   refine V.run T_ok 1 rfl ?_
   refine V.orG T_ok 2 6 54 rfl rfl rfl rfl rfl rfl rfl rfl ?_
   refine V.run T_ok 1 rfl ?_
   refine V.orG T_ok 2 10 58 rfl rfl rfl rfl rfl rfl rfl rfl ?_
   refine V.run T_ok 1 rfl ?_
   refine V.orG T_ok 2 14 62 rfl rfl rfl rfl rfl rfl rfl rfl ?_
   refine V.run T_ok 1 rfl ?_
   refine V.orG T_ok 2 18 66 rfl rfl rfl rfl rfl rfl rfl rfl ?_
   refine V.run T_ok 1 rfl ?_
   refine V.nil ?_
   refine V.tN ?_
   refine V.seq ?_
   refine V.region ?_
   refine V.call (alive_spec) rfl rfl rfl ?_
   rintro _ w71 ⟨rfl, G72⟩
   have z73 := V.Fr.size G72
   try replace F_o := F_o.gr G72
   try replace Fk2 := Fk2.gr G72
   try replace Fk21 := Fk21.gr G72
   try replace Fk38 := Fk38.gr G72
   try replace Fk55 := Fk55.gr G72
   replace HG := HG.grow G72
   clear G72
   refine V.run T_ok 1 rfl ?_
   refine V.yes rfl rfl rfl ?_
   refine V.loadO T_ok Fk21 rfl rfl rfl rfl rfl ?_
   refine V.yes rfl rfl rfl ?_
   refine V.call (cright_spec (d := (⟨d.kd, d.id, d.le, d.nd, d.ti, d.te, d.an, d.sw, d.sl, d.sq, ByteArray.empty, ByteArray.empty, d.va, d.go, d.aw, d.al, d.lw, d.ll, d.cm, d.st, d.ws, d.pr⟩ : CmdV)) F_o (fun k hk => by have := hD_o k hk; omega) (by first | (with_reducible assumption) | exact hz | (constructor <;> first | exact hz.an | exact hz.fr | exact hz.to | exact hz.va | exact hz.ws | exact (by decide : (S []).size ≤ 9223372036854775807) | exact (fun x hx => nomatch (show x ∈ ([] : List (ByteArray × Int)) from hx))))) rfl rfl rfl ?_
   rintro _ w74 ⟨rfl, G75⟩
   have z76 := V.Fr.size G75
   try replace F_o := F_o.gr G75
   try replace Fk2 := Fk2.gr G75
   try replace Fk21 := Fk21.gr G75
   try replace Fk38 := Fk38.gr G75
   try replace Fk55 := Fk55.gr G75
   replace HG := HG.grow G75
   clear G75
   refine V.run T_ok 5 rfl ?_
   refine V.splitT (j := 8) (t := 78) rfl rfl (by (have e1 : ByteArray.empty = S [] := rfl; try simp only [e1]; rw [no_span hcb]; unfold nS; grind)) ?_
   refine V.yes rfl rfl rfl ?_
   refine V.loadO T_ok Fk38 rfl rfl rfl rfl rfl ?_
   refine V.yes rfl rfl rfl ?_
   refine V.call (cright_spec (d := (⟨d.kd, d.id, d.le, d.nd, d.ti, d.te, (V.S []), d.sw, d.sl, d.sq, d.fr, d.to, d.va, d.go, d.aw, d.al, d.lw, d.ll, d.cm, d.st, d.ws, d.pr⟩ : CmdV)) F_o (fun k hk => by have := hD_o k hk; omega) (by first | (with_reducible assumption) | exact hz | (constructor <;> first | exact hz.an | exact hz.fr | exact hz.to | exact hz.va | exact hz.ws | exact (by decide : (S []).size ≤ 9223372036854775807) | exact (fun x hx => nomatch (show x ∈ ([] : List (ByteArray × Int)) from hx))))) rfl rfl rfl ?_
   rintro _ w77 ⟨rfl, G78⟩
   have z79 := V.Fr.size G78
   try replace F_o := F_o.gr G78
   try replace Fk2 := Fk2.gr G78
   try replace Fk21 := Fk21.gr G78
   try replace Fk38 := Fk38.gr G78
   try replace Fk55 := Fk55.gr G78
   replace HG := HG.grow G78
   clear G78
   refine V.run T_ok 5 rfl ?_
   refine V.splitT (j := 15) (t := 85) rfl rfl (by (rw [no_anchor hcb]; unfold nA; grind)) ?_
   refine V.yes rfl rfl rfl ?_
   refine V.loadO T_ok Fk55 rfl rfl rfl rfl rfl ?_
   refine V.yes rfl rfl rfl ?_
   refine V.call (cright_spec (d := (⟨d.kd, d.id, d.le, d.nd, d.ti, d.te, d.an, d.sw, d.sl, d.sq, d.fr, d.to, d.va, d.go, d.aw, d.al, d.lw, d.ll, d.cm, d.st, [], d.pr⟩ : CmdV)) (Sl.nil _ _ V.None' _ _ (Nat.zero_le _)) (fun _ h => h.elim) (by first | (with_reducible assumption) | exact hz | (constructor <;> first | exact hz.an | exact hz.fr | exact hz.to | exact hz.va | exact hz.ws | exact (by decide : (S []).size ≤ 9223372036854775807) | exact (fun x hx => nomatch (show x ∈ ([] : List (ByteArray × Int)) from hx))))) rfl rfl rfl ?_
   rintro _ w80 ⟨rfl, G81⟩
   have z82 := V.Fr.size G81
   try replace F_o := F_o.gr G81
   try replace Fk2 := Fk2.gr G81
   try replace Fk21 := Fk21.gr G81
   try replace Fk38 := Fk38.gr G81
   try replace Fk55 := Fk55.gr G81
   replace HG := HG.grow G81
   clear G81
   refine V.run T_ok 5 rfl ?_
   refine V.nil ?_
   refine V.tN ?_
   refine V.ret ?_
   refine V.done rfl ?_
   exact ⟨(congrArg Value.bool (by first | rfl | (rw [no_writes hcb]; unfold nW; grind))), HG⟩

end Go.Proofs.Ytkklebdlbmoogaa
