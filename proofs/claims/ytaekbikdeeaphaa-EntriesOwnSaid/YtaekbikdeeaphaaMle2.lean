/- Proved here: walks: what functions of this seat's program return and what they leave of memory, each as a contract. Conditions: stated at each theorem. -/
import Derived.Test.YtaekbikdeeaphaaMle
namespace Go.Proofs.Ytaekbikdeeaphaa
set_option linter.unusedVariables false
set_option linter.unusedSimpArgs false
open Go
open V (Bytes Meets Env Sl Own Gr Fr Cells S)

theorem app_base (d : LogV) (t : Int) (x : List UInt8) : (appV d t x).base = d.base := by unfold appV; split <;> rfl
theorem app_len (d : LogV) (t : Int) (x : List UInt8) : (appV d t x).l.length ≤ d.l.length + 1 := by unfold appV; split <;> simp
theorem app_lastT {d : LogV} {t : Int} {x : List UInt8} (h : lastT d ≤ 1099511627776) : lastT (appV d t x) ≤ 1099511627776 := by
  unfold appV; split
  · rename_i h2; unfold appOk at h2; unfold lastT; rw [if_neg (by simp)]; simp; omega
  · exact h


theorem newer_all {p q : Bool} {i t j u : Int} {d d2 : LogV} (hp : p = behV d j u) (hq : q = behV d2 i t) (h1 : lastI d = i) (h2 : lastT d = t) (h3 : lastI d2 = j) (h4 : lastT d2 = u) : ¬ ((p = false ∧ q = false) ∨ ¬ ((p && q) = (decide (i = j) && decide (t = u)))) := by
  subst hp hq h1 h2 h3 h4
  unfold behV
  intro h
  rcases h with ⟨h, h2⟩ | h
  · simp at h h2; omega
  · apply h
    rw [Bool.eq_iff_iff]
    simp
    omega
theorem app_same {d : LogV} (h : lastT d ≤ 1099511627776) (hi : lastI d < 1099511627776) : appOk d (lastT d) [] := ⟨Int.le_refl _, h, by simp, hi⟩
theorem app_newer {d : LogV} (h : lastT d ≤ 1099511627776) (hi : lastI d < 1099511627776) : behV (appV d (lastT d) []) (lastI d) (lastT d) = false := by
  have := app_same h hi
  unfold appV; rw [if_pos this]; unfold behV lastI lastT
  simp; omega

set_option maxHeartbeats 300000 in
set_option maxRecDepth 10000 in
theorem entriesNewer_walk {w : World}  {D_a : Nat → Prop} {c_a : Nat} {a_a : Option Addr} {a : List (Int × List UInt8)} (F_a : Sl V.Cod.ent w D_a a_a c_a a) (hD_a : ∀ k, D_a k → k < w.heap.size) {D_b : Nat → Prop} {c_b : Nat} {a_b : Option Addr} {b : List (Int × List UInt8)} (F_b : Sl V.Cod.ent w D_b a_b c_b b) (hD_b : ∀ k, D_b k → k < w.heap.size)  :
    Meets Try.prog 3 [.slice a_a a.length c_a, .slice a_b b.length c_b] w fun r w' => r = .bool true ∧ Gr w w' := by
 have HG := V.Fr.refl [] w
 refine V.enter (n := 145) Try.func3 rfl rfl (by decide) rfl ?_
 refine V.seq ?_
 refine V.region ?_
 refine V.run T_ok 1 rfl ?_
 refine V.nil ?_
 refine V.tN ?_
 refine V.seq ?_
 refine V.region ?_
 refine V.call (new_spec (b := 0) (t := 0) (by decide)) rfl rfl rfl ?_
 rintro _ w8 ⟨k1, g2, B3, rfl, ⟨h4l, h4u⟩, F5, h6, h7, G9⟩
 have z10 := V.Fr.size G9
 try replace F_a := F_a.gr G9
 try replace F_b := F_b.gr G9
 replace HG := HG.grow G9
 clear G9
 refine V.run T_ok 5 rfl ?_
 refine V.nil ?_
 refine V.tN ?_
 refine V.seq ?_
 have hg1 := F5.gl
 have hB1 := F5.bl
 have hk1 := F5.lt
 refine V.region ?_
 refine V.call (new_spec (b := 0) (t := 0) (by decide)) rfl rfl rfl ?_
 rintro _ w18 ⟨k11, g12, B13, rfl, ⟨h14l, h14u⟩, F15, h16, h17, G19⟩
 have z20 := V.Fr.size G19
 try replace F_a := F_a.gr G19
 try replace F_b := F_b.gr G19
 try replace F5 := F5.gr G19
 replace HG := HG.grow G19
 clear G19
 refine V.run T_ok 5 rfl ?_
 refine V.nil ?_
 refine V.tN ?_
 refine V.seq ?_
 refine V.seq ?_
 refine V.region ?_
 refine V.run T_ok 14 rfl ?_
 refine V.nil ?_
 refine V.tN ?_
 refine V.condN rfl rfl ?_
 refine V.skip ?_
 refine V.tN ?_
 refine V.seq ?_
 refine V.seq ?_
 have hg2 := F15.gl
 have hB2 := F15.bl
 have hk2 := F15.lt
 refine V.region ?_
 refine V.run T_ok 1 rfl ?_
 refine V.nil ?_
 refine V.tN ?_
 refine V.block ?_
 have hl63p := F_a.len63
 refine V.loopM (fun m e v22 => Fr [] w v22 ∧ w18.heap.size ≤ v22.heap.size ∧ Sl V.Cod.ent v22 D_a a_a c_a a ∧ Sl V.Cod.ent v22 D_b a_b c_b b ∧ Lg v22 k11 g12 B13 (⟨0, 0, []⟩) ∧ ∃ (ip : Nat) (curp : LogV) (gp : Nat) (Bp : Nat → Prop) , m = a.length - ip ∧ ip ≤ a.length ∧ ip ≤ 20 ∧ curp.l.length ≤ ip ∧ curp.base = 0 ∧ lastT curp ≤ 1099511627776 ∧ (w.heap.size ≤ gp ∧ (gp < w8.heap.size ∨ w18.heap.size ≤ gp)) ∧ (∀ j, Bp j → (w.heap.size ≤ j ∧ (j < w8.heap.size ∨ w18.heap.size ≤ j))) ∧ Lg v22 k1 gp Bp curp ∧ e 0 = .slice a_a a.length c_a ∧ e 1 = .slice a_b b.length c_b ∧ e 5 = .pointer (some ⟨k1, 0, none⟩) ∧ e 7 = .pointer (some ⟨k11, 0, none⟩) ∧ e 9 = .int .i64 (ip : Int)) ?_ ?_
 ·
  exact ⟨_, HG, (by omega), F_a, F_b, F15, (0), (⟨0, 0, []⟩), (g2), (B3), rfl, (Nat.zero_le _), ((by omega)), ((by simp)), (rfl), ((by decide)), ((by omega)), ((by intro j h; grind)), F5, rfl, rfl, rfl, rfl, rfl⟩
 clear HG F_a F_b F15 F5
 rintro _ e v22 ⟨HG, z23, F_a, F_b, F15, ip, curp, gp, Bp, rfl, hip, hi2p, hclp, hcbp, hltp, hglp, hBlp, F5, he0_0, he0_1, he0_5, he0_7, he0_9⟩
 refine V.knownC (t := 0) he0_0 ?_
 refine V.knownC (t := 1) he0_1 ?_
 refine V.knownC (t := 5) he0_5 ?_
 refine V.knownC (t := 7) he0_7 ?_
 refine V.knownC (t := 9) he0_9 ?_
 refine V.seq ?_
 refine V.seq ?_
 refine V.region ?_
 refine V.run T_ok 5 rfl ?_
 refine V.andG T_ok 2 4 45 rfl rfl rfl rfl rfl rfl rfl rfl ?_
 refine V.nil ?_
 refine V.tN ?_
 refine V.condT rfl (fun h6 => ?_) (fun h6 => ?_)
 ·
  try replace h6 := V.dec h6
  try simp only [V.mk0, V.mk1, V.mk2, V.mk3] at h6
  refine V.skip ?_
  refine V.tN ?_
  refine V.seq ?_
  refine V.block ?_
  refine V.seq ?_
  refine V.region ?_
  refine V.run T_ok 2 rfl ?_
  refine V.elem T_ok F_a rfl rfl sz29 rfl rfl rfl rfl (by first | omega | (simp only [List.length_take, List.length_drop, List.length_append, List.length_cons, List.length_nil, List.length_replicate, List.length_set, V.length_data, V.S_size]; omega)) (by first | omega | (simp only [List.length_take, List.length_drop, List.length_append, List.length_cons, List.length_nil, List.length_replicate, List.length_set, V.length_data, V.S_size]; omega)) ?_
  rintro b24 o25 cs26 hx27 hb28 hR34 hA29
  obtain ⟨x30, hx30⟩ : ∃ z', a[((ip : Int)).toNat] = z' := ⟨_, rfl⟩
  rw [hx30] at hR34
  obtain ⟨_, _, rfl, rfl, ⟨a31, c32, rfl, F33⟩⟩ := hR34
  try simp only [Int.toNat_natCast] at hx30 hx27
  refine V.run T_ok 1 rfl ?_
  refine V.loadA T_ok (o0 := o25) (off := 1) hA29 rfl rfl rfl rfl rfl ?_
  refine V.run T_ok 2 rfl ?_
  refine V.nil ?_
  refine V.tN ?_
  refine V.condT rfl (fun h8 => ?_) (fun h8 => ?_)
  ·
   try replace h8 := V.dec h8
   try simp only [V.mk0, V.mk1, V.mk2, V.mk3] at h8
   refine V.region ?_
   refine V.run T_ok 3 rfl ?_
   refine V.elem T_ok F_a rfl rfl sz29 rfl rfl rfl rfl (by first | omega | (simp only [List.length_take, List.length_drop, List.length_append, List.length_cons, List.length_nil, List.length_replicate, List.length_set, V.length_data, V.S_size]; omega)) (by first | omega | (simp only [List.length_take, List.length_drop, List.length_append, List.length_cons, List.length_nil, List.length_replicate, List.length_set, V.length_data, V.S_size]; omega)) ?_
   rintro b35 o36 cs37 hx38 hb39 hR45 hA40
   obtain ⟨x41, hx41⟩ : ∃ z', a[((ip : Int)).toNat] = z' := ⟨_, rfl⟩
   rw [hx41] at hR45
   obtain ⟨_, _, rfl, rfl, ⟨a42, c43, rfl, F44⟩⟩ := hR45
   try simp only [Int.toNat_natCast] at hx41 hx38
   obtain rfl : x30 = x41 := hx30.symm.trans hx41
   refine V.loadA T_ok (o0 := o36) (off := 0) hA40 rfl rfl rfl rfl rfl ?_
   refine V.call (append_spec (t := x30.1) F5 F44 (fun k hk => by have := hD_a k hk; omega) (by first | omega | simp | decide)) rfl rfl rfl ?_
   rintro _ w51 ⟨g46, B47, rfl, F48, h49, h50, G52⟩
   obtain ⟨w53, G54, G55⟩ := V.Fr.two G52
   clear G52
   have z56 := V.Fr.size G54
   first | replace F_a := F_a.mb G54 hD_a | clear F_a | skip
   first | replace F_b := F_b.mb G54 hD_b | clear F_b | skip
   first | replace F5 := F5.mv1 G54 (by (try dsimp only [V.In]); first | omega | grind) | clear F5 | skip
   first | replace F15 := F15.mv1 G54 (by (try dsimp only [V.In]); first | omega | grind) | clear F15 | skip
   first | replace F33 := F33.mb G54 hD_a | clear F33 | skip
   first | replace F44 := F44.mb G54 hD_a | clear F44 | skip
   replace HG := HG.n1 G54
   clear G54
   have z57 := V.Fr.size G55
   first | replace F_a := F_a.mb G55 hD_a | clear F_a | skip
   first | replace F_b := F_b.mb G55 hD_b | clear F_b | skip
   first | replace F5 := F5.mv1 G55 (by (try dsimp only [V.In]); first | omega | grind) | clear F5 | skip
   first | replace F15 := F15.mv1 G55 (by (try dsimp only [V.In]); first | omega | grind) | clear F15 | skip
   first | replace F33 := F33.mb G55 hD_a | clear F33 | skip
   first | replace F44 := F44.mb G55 hD_a | clear F44 | skip
   replace HG := HG.n1 G55
   clear G55
   refine V.nil ?_
   refine V.bN ?_
   refine V.tN ?_
   refine V.region ?_
   refine V.run T_ok 1 rfl ?_
   refine V.addN rfl rfl rfl rfl rfl (by first | omega | (simp only [List.length_take, List.length_drop, List.length_append, List.length_cons, List.length_nil, List.length_replicate, List.length_set, V.length_data, V.S_size]; omega)) (by first | omega | (simp only [List.length_take, List.length_drop, List.length_append, List.length_cons, List.length_nil, List.length_replicate, List.length_set, V.length_data, V.S_size]; omega)) ?_
   refine V.run T_ok 1 rfl ?_
   refine V.nil ?_
   refine V.tN ?_
   have hab := app_base curp x30.1 x30.2
   have hal := app_len curp x30.1 x30.2
   have hat := app_lastT (t := x30.1) (x := x30.2) hltp
   exact ⟨_, (by omega), HG, (by omega), F_a, F_b, F15, (ip + 1), (appV curp x30.1 x30.2), (g46), (B47), rfl, (by omega), (by omega), ((by omega)), ((by omega)), ((by omega)), ((by omega)), ((by intro j h; grind)), F48, rfl, rfl, rfl, rfl, rfl⟩
  ·
   try replace h8 := V.dec h8
   try simp only [V.mk0, V.mk1, V.mk2, V.mk3] at h8
   refine V.skip ?_
   refine V.bN ?_
   refine V.tN ?_
   refine V.region ?_
   refine V.run T_ok 1 rfl ?_
   refine V.addN rfl rfl rfl rfl rfl (by first | omega | (simp only [List.length_take, List.length_drop, List.length_append, List.length_cons, List.length_nil, List.length_replicate, List.length_set, V.length_data, V.S_size]; omega)) (by first | omega | (simp only [List.length_take, List.length_drop, List.length_append, List.length_cons, List.length_nil, List.length_replicate, List.length_set, V.length_data, V.S_size]; omega)) ?_
   refine V.run T_ok 1 rfl ?_
   refine V.nil ?_
   refine V.tN ?_
   exact ⟨_, (by omega), HG, (by omega), F_a, F_b, F15, (ip + 1), (curp), (gp), (Bp), rfl, (by omega), (by omega), ((by omega)), ((by omega)), ((by omega)), ((by omega)), ((by intro j h; grind)), F5, rfl, rfl, rfl, rfl, rfl⟩
 ·
  try replace h6 := V.dec h6
  try simp only [V.mk0, V.mk1, V.mk2, V.mk3] at h6
  refine V.exit ?_
  refine V.tX ?_
  refine V.tX ?_
  refine V.bE ?_
  refine V.tN ?_
  refine V.seq ?_
  refine V.seq ?_
  have hg3 := F5.gl
  have hB3 := F5.bl
  refine V.region ?_
  refine V.run T_ok 1 rfl ?_
  refine V.nil ?_
  refine V.tN ?_
  refine V.block ?_
  have hl63q := F_b.len63
  refine V.loopM (fun m e v59 => Fr [] w v59 ∧ v22.heap.size ≤ v59.heap.size ∧ Sl V.Cod.ent v59 D_a a_a c_a a ∧ Sl V.Cod.ent v59 D_b a_b c_b b ∧ Lg v59 k1 gp Bp curp ∧ ∃ (iq : Nat) (curq : LogV) (gq : Nat) (Bq : Nat → Prop) , m = b.length - iq ∧ iq ≤ b.length ∧ iq ≤ 20 ∧ curq.l.length ≤ iq ∧ curq.base = 0 ∧ lastT curq ≤ 1099511627776 ∧ ((w8.heap.size ≤ gq ∧ gq < w18.heap.size) ∨ v22.heap.size ≤ gq) ∧ (∀ j, Bq j → ((w8.heap.size ≤ j ∧ j < w18.heap.size) ∨ v22.heap.size ≤ j)) ∧ Lg v59 k11 gq Bq curq ∧ e 1 = .slice a_b b.length c_b ∧ e 5 = .pointer (some ⟨k1, 0, none⟩) ∧ e 7 = .pointer (some ⟨k11, 0, none⟩) ∧ e 10 = .int .i64 (iq : Int)) ?_ ?_
  ·
   exact ⟨_, HG, (by omega), F_a, F_b, F5, (0), (⟨0, 0, []⟩), (g12), (B13), rfl, (Nat.zero_le _), ((by omega)), ((by simp)), (rfl), ((by decide)), ((by omega)), ((by intro j h; grind)), F15, rfl, rfl, rfl, rfl⟩
  clear HG F_a F_b F5 F15
  rintro _ e v59 ⟨HG, z60, F_a, F_b, F5, iq, curq, gq, Bq, rfl, hiq, hi2q, hclq, hcbq, hltq, hglq, hBlq, F15, he1_1, he1_5, he1_7, he1_10⟩
  refine V.knownC (t := 1) he1_1 ?_
  refine V.knownC (t := 5) he1_5 ?_
  refine V.knownC (t := 7) he1_7 ?_
  refine V.knownC (t := 10) he1_10 ?_
  refine V.seq ?_
  refine V.seq ?_
  refine V.region ?_
  refine V.run T_ok 5 rfl ?_
  refine V.andG T_ok 2 4 68 rfl rfl rfl rfl rfl rfl rfl rfl ?_
  refine V.nil ?_
  refine V.tN ?_
  refine V.condT rfl (fun h11 => ?_) (fun h11 => ?_)
  ·
   try replace h11 := V.dec h11
   try simp only [V.mk0, V.mk1, V.mk2, V.mk3] at h11
   refine V.skip ?_
   refine V.tN ?_
   refine V.seq ?_
   refine V.block ?_
   refine V.seq ?_
   refine V.region ?_
   refine V.run T_ok 2 rfl ?_
   refine V.elem T_ok F_b rfl rfl sz29 rfl rfl rfl rfl (by first | omega | (simp only [List.length_take, List.length_drop, List.length_append, List.length_cons, List.length_nil, List.length_replicate, List.length_set, V.length_data, V.S_size]; omega)) (by first | omega | (simp only [List.length_take, List.length_drop, List.length_append, List.length_cons, List.length_nil, List.length_replicate, List.length_set, V.length_data, V.S_size]; omega)) ?_
   rintro b61 o62 cs63 hx64 hb65 hR71 hA66
   obtain ⟨x67, hx67⟩ : ∃ z', b[((iq : Int)).toNat] = z' := ⟨_, rfl⟩
   rw [hx67] at hR71
   obtain ⟨_, _, rfl, rfl, ⟨a68, c69, rfl, F70⟩⟩ := hR71
   try simp only [Int.toNat_natCast] at hx67 hx64
   refine V.run T_ok 1 rfl ?_
   refine V.loadA T_ok (o0 := o62) (off := 1) hA66 rfl rfl rfl rfl rfl ?_
   refine V.run T_ok 2 rfl ?_
   refine V.nil ?_
   refine V.tN ?_
   refine V.condT rfl (fun h13 => ?_) (fun h13 => ?_)
   ·
    try replace h13 := V.dec h13
    try simp only [V.mk0, V.mk1, V.mk2, V.mk3] at h13
    refine V.region ?_
    refine V.run T_ok 3 rfl ?_
    refine V.elem T_ok F_b rfl rfl sz29 rfl rfl rfl rfl (by first | omega | (simp only [List.length_take, List.length_drop, List.length_append, List.length_cons, List.length_nil, List.length_replicate, List.length_set, V.length_data, V.S_size]; omega)) (by first | omega | (simp only [List.length_take, List.length_drop, List.length_append, List.length_cons, List.length_nil, List.length_replicate, List.length_set, V.length_data, V.S_size]; omega)) ?_
    rintro b72 o73 cs74 hx75 hb76 hR82 hA77
    obtain ⟨x78, hx78⟩ : ∃ z', b[((iq : Int)).toNat] = z' := ⟨_, rfl⟩
    rw [hx78] at hR82
    obtain ⟨_, _, rfl, rfl, ⟨a79, c80, rfl, F81⟩⟩ := hR82
    try simp only [Int.toNat_natCast] at hx78 hx75
    obtain rfl : x67 = x78 := hx67.symm.trans hx78
    refine V.loadA T_ok (o0 := o73) (off := 0) hA77 rfl rfl rfl rfl rfl ?_
    refine V.call (append_spec (t := x67.1) F15 F81 (fun k hk => by have := hD_b k hk; omega) (by first | omega | simp | decide)) rfl rfl rfl ?_
    rintro _ w88 ⟨g83, B84, rfl, F85, h86, h87, G89⟩
    obtain ⟨w90, G91, G92⟩ := V.Fr.two G89
    clear G89
    have z93 := V.Fr.size G91
    first | replace F_a := F_a.mb G91 hD_a | clear F_a | skip
    first | replace F_b := F_b.mb G91 hD_b | clear F_b | skip
    first | replace F5 := F5.mv1 G91 (by (try dsimp only [V.In]); first | omega | grind) | clear F5 | skip
    first | replace F15 := F15.mv1 G91 (by (try dsimp only [V.In]); first | omega | grind) | clear F15 | skip
    first | replace F70 := F70.mb G91 hD_b | clear F70 | skip
    first | replace F81 := F81.mb G91 hD_b | clear F81 | skip
    replace HG := HG.n1 G91
    clear G91
    have z94 := V.Fr.size G92
    first | replace F_a := F_a.mb G92 hD_a | clear F_a | skip
    first | replace F_b := F_b.mb G92 hD_b | clear F_b | skip
    first | replace F5 := F5.mv1 G92 (by (try dsimp only [V.In]); first | omega | grind) | clear F5 | skip
    first | replace F15 := F15.mv1 G92 (by (try dsimp only [V.In]); first | omega | grind) | clear F15 | skip
    first | replace F70 := F70.mb G92 hD_b | clear F70 | skip
    first | replace F81 := F81.mb G92 hD_b | clear F81 | skip
    replace HG := HG.n1 G92
    clear G92
    refine V.nil ?_
    refine V.bN ?_
    refine V.tN ?_
    refine V.region ?_
    refine V.run T_ok 1 rfl ?_
    refine V.addN rfl rfl rfl rfl rfl (by first | omega | (simp only [List.length_take, List.length_drop, List.length_append, List.length_cons, List.length_nil, List.length_replicate, List.length_set, V.length_data, V.S_size]; omega)) (by first | omega | (simp only [List.length_take, List.length_drop, List.length_append, List.length_cons, List.length_nil, List.length_replicate, List.length_set, V.length_data, V.S_size]; omega)) ?_
    refine V.run T_ok 1 rfl ?_
    refine V.nil ?_
    refine V.tN ?_
    have hab := app_base curq x67.1 x67.2
    have hal := app_len curq x67.1 x67.2
    have hat := app_lastT (t := x67.1) (x := x67.2) hltq
    exact ⟨_, (by omega), HG, (by omega), F_a, F_b, F5, (iq + 1), (appV curq x67.1 x67.2), (g83), (B84), rfl, (by omega), (by omega), ((by omega)), ((by omega)), ((by omega)), ((by omega)), ((by intro j h; grind)), F85, rfl, rfl, rfl, rfl⟩
   ·
    try replace h13 := V.dec h13
    try simp only [V.mk0, V.mk1, V.mk2, V.mk3] at h13
    refine V.skip ?_
    refine V.bN ?_
    refine V.tN ?_
    refine V.region ?_
    refine V.run T_ok 1 rfl ?_
    refine V.addN rfl rfl rfl rfl rfl (by first | omega | (simp only [List.length_take, List.length_drop, List.length_append, List.length_cons, List.length_nil, List.length_replicate, List.length_set, V.length_data, V.S_size]; omega)) (by first | omega | (simp only [List.length_take, List.length_drop, List.length_append, List.length_cons, List.length_nil, List.length_replicate, List.length_set, V.length_data, V.S_size]; omega)) ?_
    refine V.run T_ok 1 rfl ?_
    refine V.nil ?_
    refine V.tN ?_
    exact ⟨_, (by omega), HG, (by omega), F_a, F_b, F5, (iq + 1), (curq), (gq), (Bq), rfl, (by omega), (by omega), ((by omega)), ((by omega)), ((by omega)), ((by omega)), ((by intro j h; grind)), F15, rfl, rfl, rfl, rfl⟩
  ·
   try replace h11 := V.dec h11
   try simp only [V.mk0, V.mk1, V.mk2, V.mk3] at h11
   refine V.exit ?_
   refine V.tX ?_
   refine V.tX ?_
   refine V.bE ?_
   refine V.tN ?_
   refine V.seq ?_
   refine V.region ?_
   refine V.run T_ok 1 rfl ?_
   refine V.call (last_spec F5) rfl rfl rfl ?_
   rintro _ w95 ⟨rfl, G96⟩
   have z97 := V.Fr.size G96
   try replace F_a := F_a.gr G96
   try replace F_b := F_b.gr G96
   try replace F5 := F5.gr G96
   try replace F15 := F15.gr G96
   replace HG := HG.grow G96
   clear G96
   refine V.run T_ok 5 rfl ?_
   refine V.nil ?_
   refine V.tN ?_
   refine V.seq ?_
   refine V.region ?_
   refine V.run T_ok 1 rfl ?_
   refine V.call (last_spec F15) rfl rfl rfl ?_
   rintro _ w98 ⟨rfl, G99⟩
   have z100 := V.Fr.size G99
   try replace F_a := F_a.gr G99
   try replace F_b := F_b.gr G99
   try replace F5 := F5.gr G99
   try replace F15 := F15.gr G99
   replace HG := HG.grow G99
   clear G99
   refine V.run T_ok 5 rfl ?_
   refine V.nil ?_
   refine V.tN ?_
   refine V.seq ?_
   refine V.region ?_
   refine V.run T_ok 3 rfl ?_
   refine V.call (behind_spec (i := (lastI curq)) (t := (lastT curq)) F5) rfl rfl rfl ?_
   rintro _ w101 ⟨rfl, G102⟩
   have z103 := V.Fr.size G102
   try replace F_a := F_a.gr G102
   try replace F_b := F_b.gr G102
   try replace F5 := F5.gr G102
   try replace F15 := F15.gr G102
   replace HG := HG.grow G102
   clear G102
   refine V.run T_ok 1 rfl ?_
   refine V.nil ?_
   refine V.tN ?_
   refine V.seq ?_
   refine V.region ?_
   refine V.run T_ok 3 rfl ?_
   refine V.call (behind_spec (i := (lastI curp)) (t := (lastT curp)) F15) rfl rfl rfl ?_
   rintro _ w104 ⟨rfl, G105⟩
   have z106 := V.Fr.size G105
   try replace F_a := F_a.gr G105
   try replace F_b := F_b.gr G105
   try replace F5 := F5.gr G105
   try replace F15 := F15.gr G105
   replace HG := HG.grow G105
   clear G105
   refine V.run T_ok 1 rfl ?_
   refine V.nil ?_
   refine V.tN ?_
   refine V.seq ?_
   refine V.seq ?_
   have hna := newer_all (d := curp) (d2 := curq) rfl rfl rfl rfl rfl rfl
   have hal0 : lastI curp < 1099511627776 := by unfold lastI; omega
   refine V.region ?_
   refine V.run T_ok 3 rfl ?_
   refine V.andG T_ok 2 2 107 rfl rfl rfl rfl rfl rfl rfl rfl ?_
   refine V.run T_ok 1 rfl ?_
   refine V.split (j := 6) (t := 111) rfl rfl (fun g19_6 => ?_) (fun g19_6 => ?_)
   ·
    try replace g19_6 := V.dec g19_6
    try simp only [V.mk0, V.mk1, V.mk2, V.mk3] at g19_6
    refine V.run T_ok 14 rfl ?_
    refine V.nil ?_
    refine V.tN ?_
    refine V.condY rfl rfl ?_
    refine V.seq ?_
    refine V.region ?_
    refine V.run T_ok 1 rfl ?_
    refine V.nil ?_
    refine V.tN ?_
    refine V.ret ?_
    refine V.tR ?_
    refine V.done rfl ?_
    exact (hna (by simp_all)).elim
   ·
    try replace g19_6 := V.dec g19_6
    try simp only [V.mk0, V.mk1, V.mk2, V.mk3] at g19_6
    refine V.run T_ok 2 rfl ?_
    refine V.split (j := 8) (t := 113) rfl rfl (fun g19_8 => ?_) (fun g19_8 => ?_)
    ·
     try replace g19_8 := V.dec g19_8
     try simp only [V.mk0, V.mk1, V.mk2, V.mk3] at g19_8
     refine V.run T_ok 6 rfl ?_
     refine V.split (j := 14) (t := 119) rfl rfl (fun g19_14 => ?_) (fun g19_14 => ?_)
     ·
      try replace g19_14 := V.dec g19_14
      try simp only [V.mk0, V.mk1, V.mk2, V.mk3] at g19_14
      refine V.run T_ok 6 rfl ?_
      refine V.nil ?_
      refine V.tN ?_
      refine V.condT rfl (fun h19 => ?_) (fun h19 => ?_)
      ·
       try replace h19 := V.dec h19
       try simp only [V.mk0, V.mk1, V.mk2, V.mk3] at h19
       refine V.seq ?_
       refine V.region ?_
       refine V.run T_ok 1 rfl ?_
       refine V.nil ?_
       refine V.tN ?_
       refine V.ret ?_
       refine V.tR ?_
       refine V.done rfl ?_
       exact (hna (by simp_all)).elim
      ·
       try replace h19 := V.dec h19
       try simp only [V.mk0, V.mk1, V.mk2, V.mk3] at h19
       refine V.skip ?_
       refine V.tN ?_
       refine V.seq ?_
       refine V.region ?_
       refine V.run T_ok 2 rfl ?_
       refine V.mkStruct T_ok zero29 rfl rfl rfl rfl rfl ?_
       refine V.call (append_spec (t := (lastT curp)) F5 (Sl.nil _ _ V.None' _ _ (Nat.zero_le _)) (fun _ h => h.elim) (by first | omega | simp | decide)) rfl rfl rfl ?_
       rintro _ w112 ⟨g107, B108, rfl, F109, h110, h111, G113⟩
       obtain ⟨w114, G115, G116⟩ := V.Fr.two G113
       clear G113
       have z117 := V.Fr.size G115
       first | replace F_a := F_a.mb G115 hD_a | clear F_a | skip
       first | replace F_b := F_b.mb G115 hD_b | clear F_b | skip
       first | replace F5 := F5.mv1 G115 (by (try dsimp only [V.In]); first | omega | grind) | clear F5 | skip
       first | replace F15 := F15.mv1 G115 (by (try dsimp only [V.In]); first | omega | grind) | clear F15 | skip
       replace HG := HG.n1 G115
       clear G115
       have z118 := V.Fr.size G116
       first | replace F_a := F_a.mb G116 hD_a | clear F_a | skip
       first | replace F_b := F_b.mb G116 hD_b | clear F_b | skip
       first | replace F5 := F5.mv1 G116 (by (try dsimp only [V.In]); first | omega | grind) | clear F5 | skip
       first | replace F15 := F15.mv1 G116 (by (try dsimp only [V.In]); first | omega | grind) | clear F15 | skip
       replace HG := HG.n1 G116
       clear G116
       refine V.run T_ok 5 rfl ?_
       refine V.nil ?_
       refine V.tN ?_
       refine V.seq ?_
       refine V.region ?_
       refine V.call (alive_spec) rfl rfl rfl ?_
       rintro _ w119 ⟨rfl, G120⟩
       have z121 := V.Fr.size G120
       try replace F_a := F_a.gr G120
       try replace F_b := F_b.gr G120
       try replace F15 := F15.gr G120
       try replace F109 := F109.gr G120
       replace HG := HG.grow G120
       clear G120
       refine V.run T_ok 5 rfl ?_
       refine V.splitT (j := 5) (t := 138) rfl rfl (by (unfold appE; rw [if_pos (app_same hltp hal0)]; rfl)) ?_
       refine V.run T_ok 3 rfl ?_
       refine V.yes rfl rfl rfl ?_
       refine V.call (behind_spec (i := (lastI curp)) (t := (lastT curp)) F109) rfl rfl rfl ?_
       rintro _ w122 ⟨rfl, G123⟩
       have z124 := V.Fr.size G123
       try replace F_a := F_a.gr G123
       try replace F_b := F_b.gr G123
       try replace F15 := F15.gr G123
       try replace F109 := F109.gr G123
       replace HG := HG.grow G123
       clear G123
       refine V.run T_ok 3 rfl ?_
       refine V.nil ?_
       refine V.tN ?_
       refine V.ret ?_
       refine V.done rfl ?_
       exact ⟨congrArg Value.bool (by rw [app_newer hltp hal0]; rfl), HG⟩
     ·
      try replace g19_14 := V.dec g19_14
      try simp only [V.mk0, V.mk1, V.mk2, V.mk3] at g19_14
      refine V.run T_ok 6 rfl ?_
      refine V.nil ?_
      refine V.tN ?_
      refine V.condT rfl (fun h19 => ?_) (fun h19 => ?_)
      ·
       try replace h19 := V.dec h19
       try simp only [V.mk0, V.mk1, V.mk2, V.mk3] at h19
       refine V.seq ?_
       refine V.region ?_
       refine V.run T_ok 1 rfl ?_
       refine V.nil ?_
       refine V.tN ?_
       refine V.ret ?_
       refine V.tR ?_
       refine V.done rfl ?_
       exact (hna (by simp_all)).elim
      ·
       try replace h19 := V.dec h19
       try simp only [V.mk0, V.mk1, V.mk2, V.mk3] at h19
       refine V.skip ?_
       refine V.tN ?_
       refine V.seq ?_
       refine V.region ?_
       refine V.run T_ok 2 rfl ?_
       refine V.mkStruct T_ok zero29 rfl rfl rfl rfl rfl ?_
       refine V.call (append_spec (t := (lastT curp)) F5 (Sl.nil _ _ V.None' _ _ (Nat.zero_le _)) (fun _ h => h.elim) (by first | omega | simp | decide)) rfl rfl rfl ?_
       rintro _ w130 ⟨g125, B126, rfl, F127, h128, h129, G131⟩
       obtain ⟨w132, G133, G134⟩ := V.Fr.two G131
       clear G131
       have z135 := V.Fr.size G133
       first | replace F_a := F_a.mb G133 hD_a | clear F_a | skip
       first | replace F_b := F_b.mb G133 hD_b | clear F_b | skip
       first | replace F5 := F5.mv1 G133 (by (try dsimp only [V.In]); first | omega | grind) | clear F5 | skip
       first | replace F15 := F15.mv1 G133 (by (try dsimp only [V.In]); first | omega | grind) | clear F15 | skip
       replace HG := HG.n1 G133
       clear G133
       have z136 := V.Fr.size G134
       first | replace F_a := F_a.mb G134 hD_a | clear F_a | skip
       first | replace F_b := F_b.mb G134 hD_b | clear F_b | skip
       first | replace F5 := F5.mv1 G134 (by (try dsimp only [V.In]); first | omega | grind) | clear F5 | skip
       first | replace F15 := F15.mv1 G134 (by (try dsimp only [V.In]); first | omega | grind) | clear F15 | skip
       replace HG := HG.n1 G134
       clear G134
       refine V.run T_ok 5 rfl ?_
       refine V.nil ?_
       refine V.tN ?_
       refine V.seq ?_
       refine V.region ?_
       refine V.call (alive_spec) rfl rfl rfl ?_
       rintro _ w137 ⟨rfl, G138⟩
       have z139 := V.Fr.size G138
       try replace F_a := F_a.gr G138
       try replace F_b := F_b.gr G138
       try replace F15 := F15.gr G138
       try replace F127 := F127.gr G138
       replace HG := HG.grow G138
       clear G138
       refine V.run T_ok 5 rfl ?_
       refine V.splitT (j := 5) (t := 138) rfl rfl (by (unfold appE; rw [if_pos (app_same hltp hal0)]; rfl)) ?_
       refine V.run T_ok 3 rfl ?_
       refine V.yes rfl rfl rfl ?_
       refine V.call (behind_spec (i := (lastI curp)) (t := (lastT curp)) F127) rfl rfl rfl ?_
       rintro _ w140 ⟨rfl, G141⟩
       have z142 := V.Fr.size G141
       try replace F_a := F_a.gr G141
       try replace F_b := F_b.gr G141
       try replace F15 := F15.gr G141
       try replace F127 := F127.gr G141
       replace HG := HG.grow G141
       clear G141
       refine V.run T_ok 3 rfl ?_
       refine V.nil ?_
       refine V.tN ?_
       refine V.ret ?_
       refine V.done rfl ?_
       exact ⟨congrArg Value.bool (by rw [app_newer hltp hal0]; rfl), HG⟩
    ·
     try replace g19_8 := V.dec g19_8
     try simp only [V.mk0, V.mk1, V.mk2, V.mk3] at g19_8
     refine V.run T_ok 6 rfl ?_
     refine V.split (j := 14) (t := 119) rfl rfl (fun g19_14 => ?_) (fun g19_14 => ?_)
     ·
      try replace g19_14 := V.dec g19_14
      try simp only [V.mk0, V.mk1, V.mk2, V.mk3] at g19_14
      refine V.run T_ok 6 rfl ?_
      refine V.nil ?_
      refine V.tN ?_
      refine V.condT rfl (fun h19 => ?_) (fun h19 => ?_)
      ·
       try replace h19 := V.dec h19
       try simp only [V.mk0, V.mk1, V.mk2, V.mk3] at h19
       refine V.seq ?_
       refine V.region ?_
       refine V.run T_ok 1 rfl ?_
       refine V.nil ?_
       refine V.tN ?_
       refine V.ret ?_
       refine V.tR ?_
       refine V.done rfl ?_
       exact (hna (by simp_all)).elim
      ·
       try replace h19 := V.dec h19
       try simp only [V.mk0, V.mk1, V.mk2, V.mk3] at h19
       refine V.skip ?_
       refine V.tN ?_
       refine V.seq ?_
       refine V.region ?_
       refine V.run T_ok 2 rfl ?_
       refine V.mkStruct T_ok zero29 rfl rfl rfl rfl rfl ?_
       refine V.call (append_spec (t := (lastT curp)) F5 (Sl.nil _ _ V.None' _ _ (Nat.zero_le _)) (fun _ h => h.elim) (by first | omega | simp | decide)) rfl rfl rfl ?_
       rintro _ w148 ⟨g143, B144, rfl, F145, h146, h147, G149⟩
       obtain ⟨w150, G151, G152⟩ := V.Fr.two G149
       clear G149
       have z153 := V.Fr.size G151
       first | replace F_a := F_a.mb G151 hD_a | clear F_a | skip
       first | replace F_b := F_b.mb G151 hD_b | clear F_b | skip
       first | replace F5 := F5.mv1 G151 (by (try dsimp only [V.In]); first | omega | grind) | clear F5 | skip
       first | replace F15 := F15.mv1 G151 (by (try dsimp only [V.In]); first | omega | grind) | clear F15 | skip
       replace HG := HG.n1 G151
       clear G151
       have z154 := V.Fr.size G152
       first | replace F_a := F_a.mb G152 hD_a | clear F_a | skip
       first | replace F_b := F_b.mb G152 hD_b | clear F_b | skip
       first | replace F5 := F5.mv1 G152 (by (try dsimp only [V.In]); first | omega | grind) | clear F5 | skip
       first | replace F15 := F15.mv1 G152 (by (try dsimp only [V.In]); first | omega | grind) | clear F15 | skip
       replace HG := HG.n1 G152
       clear G152
       refine V.run T_ok 5 rfl ?_
       refine V.nil ?_
       refine V.tN ?_
       refine V.seq ?_
       refine V.region ?_
       refine V.call (alive_spec) rfl rfl rfl ?_
       rintro _ w155 ⟨rfl, G156⟩
       have z157 := V.Fr.size G156
       try replace F_a := F_a.gr G156
       try replace F_b := F_b.gr G156
       try replace F15 := F15.gr G156
       try replace F145 := F145.gr G156
       replace HG := HG.grow G156
       clear G156
       refine V.run T_ok 5 rfl ?_
       refine V.splitT (j := 5) (t := 138) rfl rfl (by (unfold appE; rw [if_pos (app_same hltp hal0)]; rfl)) ?_
       refine V.run T_ok 3 rfl ?_
       refine V.yes rfl rfl rfl ?_
       refine V.call (behind_spec (i := (lastI curp)) (t := (lastT curp)) F145) rfl rfl rfl ?_
       rintro _ w158 ⟨rfl, G159⟩
       have z160 := V.Fr.size G159
       try replace F_a := F_a.gr G159
       try replace F_b := F_b.gr G159
       try replace F15 := F15.gr G159
       try replace F145 := F145.gr G159
       replace HG := HG.grow G159
       clear G159
       refine V.run T_ok 3 rfl ?_
       refine V.nil ?_
       refine V.tN ?_
       refine V.ret ?_
       refine V.done rfl ?_
       exact ⟨congrArg Value.bool (by rw [app_newer hltp hal0]; rfl), HG⟩
     ·
      try replace g19_14 := V.dec g19_14
      try simp only [V.mk0, V.mk1, V.mk2, V.mk3] at g19_14
      refine V.run T_ok 6 rfl ?_
      refine V.nil ?_
      refine V.tN ?_
      refine V.condT rfl (fun h19 => ?_) (fun h19 => ?_)
      ·
       try replace h19 := V.dec h19
       try simp only [V.mk0, V.mk1, V.mk2, V.mk3] at h19
       refine V.seq ?_
       refine V.region ?_
       refine V.run T_ok 1 rfl ?_
       refine V.nil ?_
       refine V.tN ?_
       refine V.ret ?_
       refine V.tR ?_
       refine V.done rfl ?_
       exact (hna (by simp_all)).elim
      ·
       try replace h19 := V.dec h19
       try simp only [V.mk0, V.mk1, V.mk2, V.mk3] at h19
       refine V.skip ?_
       refine V.tN ?_
       refine V.seq ?_
       refine V.region ?_
       refine V.run T_ok 2 rfl ?_
       refine V.mkStruct T_ok zero29 rfl rfl rfl rfl rfl ?_
       refine V.call (append_spec (t := (lastT curp)) F5 (Sl.nil _ _ V.None' _ _ (Nat.zero_le _)) (fun _ h => h.elim) (by first | omega | simp | decide)) rfl rfl rfl ?_
       rintro _ w166 ⟨g161, B162, rfl, F163, h164, h165, G167⟩
       obtain ⟨w168, G169, G170⟩ := V.Fr.two G167
       clear G167
       have z171 := V.Fr.size G169
       first | replace F_a := F_a.mb G169 hD_a | clear F_a | skip
       first | replace F_b := F_b.mb G169 hD_b | clear F_b | skip
       first | replace F5 := F5.mv1 G169 (by (try dsimp only [V.In]); first | omega | grind) | clear F5 | skip
       first | replace F15 := F15.mv1 G169 (by (try dsimp only [V.In]); first | omega | grind) | clear F15 | skip
       replace HG := HG.n1 G169
       clear G169
       have z172 := V.Fr.size G170
       first | replace F_a := F_a.mb G170 hD_a | clear F_a | skip
       first | replace F_b := F_b.mb G170 hD_b | clear F_b | skip
       first | replace F5 := F5.mv1 G170 (by (try dsimp only [V.In]); first | omega | grind) | clear F5 | skip
       first | replace F15 := F15.mv1 G170 (by (try dsimp only [V.In]); first | omega | grind) | clear F15 | skip
       replace HG := HG.n1 G170
       clear G170
       refine V.run T_ok 5 rfl ?_
       refine V.nil ?_
       refine V.tN ?_
       refine V.seq ?_
       refine V.region ?_
       refine V.call (alive_spec) rfl rfl rfl ?_
       rintro _ w173 ⟨rfl, G174⟩
       have z175 := V.Fr.size G174
       try replace F_a := F_a.gr G174
       try replace F_b := F_b.gr G174
       try replace F15 := F15.gr G174
       try replace F163 := F163.gr G174
       replace HG := HG.grow G174
       clear G174
       refine V.run T_ok 5 rfl ?_
       refine V.splitT (j := 5) (t := 138) rfl rfl (by (unfold appE; rw [if_pos (app_same hltp hal0)]; rfl)) ?_
       refine V.run T_ok 3 rfl ?_
       refine V.yes rfl rfl rfl ?_
       refine V.call (behind_spec (i := (lastI curp)) (t := (lastT curp)) F163) rfl rfl rfl ?_
       rintro _ w176 ⟨rfl, G177⟩
       have z178 := V.Fr.size G177
       try replace F_a := F_a.gr G177
       try replace F_b := F_b.gr G177
       try replace F15 := F15.gr G177
       try replace F163 := F163.gr G177
       replace HG := HG.grow G177
       clear G177
       refine V.run T_ok 3 rfl ?_
       refine V.nil ?_
       refine V.tN ?_
       refine V.ret ?_
       refine V.done rfl ?_
       exact ⟨congrArg Value.bool (by rw [app_newer hltp hal0]; rfl), HG⟩

end Go.Proofs.Ytaekbikdeeaphaa
