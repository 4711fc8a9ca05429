/- Proved here: walks: what functions of this seat's program return and what they leave of memory, each as a contract. Conditions: stated at each theorem. -/
import Derived.Test.YtmmgmkklakkooaaGreatMlmsg
namespace Go.Proofs.YtmmgmkklakkooaaGreat
set_option linter.unusedVariables false
set_option linter.unusedSimpArgs false
open Go
open V (Bytes Meets Env Sl Own Gr Fr Cells S)

/-- a bag: its block k, its row's block g (k itself while it is nothing), what its messages' bytes lie in -/
structure Bg (w : World) (k g : Nat) (B : Nat → Prop) (l : List (List UInt8)) : Prop where
  nk : ¬ B k
  ng : ¬ B g
  ok : l.length ≤ 300 ∧ ∀ x ∈ l, 8 ≤ x.length ∧ x.length ≤ 1000000
  gl : g < w.heap.size
  bl : ∀ j, B j → j < w.heap.size
  ex : ∃ a c, Cells w k [.slice a l.length c] 72 ∧ V.RowE V.Cod.byte.sl 31 w B (fun j => j = g ∧ j ≠ k) a c l
section
variable {w w' : World} {k g : Nat} {B X : Nat → Prop} {l : List (List UInt8)}
theorem Bg.gr (h : Bg w k g B l) (f : Gr w w') : Bg w' k g B l :=
  let ⟨a, c, h1, h2⟩ := h.ex; ⟨h.nk, h.ng, h.ok, Nat.lt_of_lt_of_le h.gl f.size, fun j hj => Nat.lt_of_lt_of_le (h.bl j hj) f.size, ⟨a, c, h1.gr f, h2.gr f⟩⟩
theorem Bg.mvE (h : Bg w k g B l) (f : V.FrE X w w') (hn : ∀ j, X j → ¬ (j = k ∨ j = g ∨ B j)) : Bg w' k g B l :=
  let ⟨a, c, h1, h2⟩ := h.ex; ⟨h.nk, h.ng, h.ok, Nat.lt_of_lt_of_le h.gl f.size, fun j hj => Nat.lt_of_lt_of_le (h.bl j hj) f.size, ⟨a, c, h1.mvE f (fun hX => hn k hX (.inl rfl)), h2.mvE f (fun j hj hB => hn j hj (hB.elim (fun h => .inr (.inr h)) (fun h => .inr (.inl h.1))))⟩⟩
theorem Bg.mv1 {i : Nat} (h : Bg w k g B l) (f : Fr [i] w w') (hn : ¬ (i = k ∨ i = g ∨ B i)) : Bg w' k g B l := h.mvE (X := fun j => j = i) (V.FrE.of1 f rfl) (fun j hj => hj ▸ hn)
theorem Bg.bl1 {b : Nat} (h : Bg w k g B l) (f : V.Bl b w w') (hn : ∀ j, (j = k ∨ j = g ∨ B j) → j < b) : Bg w' k g B l :=
  let ⟨a, c, h1, h2⟩ := h.ex; ⟨h.nk, h.ng, h.ok, Nat.lt_of_lt_of_le h.gl f.size, fun j hj => Nat.lt_of_lt_of_le (h.bl j hj) f.size, ⟨a, c, h1.bl f (hn k (.inl rfl)), h2.bl f (fun j hj => hn j (hj.elim (fun h => .inr (.inr h)) (fun h => .inr (.inl h.1))))⟩⟩
theorem Bg.lt (h : Bg w k g B l) : k < w.heap.size := let ⟨a, c, h1, h2⟩ := h.ex; h1.lt
/-- a bag that has something: its row is its own -/
theorem Bg.own (hng : ¬ B g) {a : Option Addr} {c t : Nat} (h : V.RowE V.Cod.byte.sl t w B (fun j => j = g ∧ j ≠ k) a c l) (hl : 0 < l.length) : g ≠ k ∧ Own V.Cod.byte.sl t w B g a c l := by
  rcases h.ex with ⟨_, _, rfl⟩ | ⟨r, D, ⟨rfl, h2⟩, h3, h4, h5⟩
  · simp at hl
  · exact ⟨h2, h5.mono fun j hj => (h4 j hj).elim id fun e => absurd (e.1 ▸ hj) h3⟩
theorem Bg.back {a : Option Addr} {c t : Nat} (hgk : g ≠ k) (hng : ¬ B g) (h : Own V.Cod.byte.sl t w B g a c l) : V.RowE V.Cod.byte.sl t w B (fun j => j = g ∧ j ≠ k) a c l :=
  ⟨.inr ⟨g, B, ⟨rfl, hgk⟩, hng, fun j h => .inl h, h⟩⟩
theorem Bg.mk2 {z c : Nat} {a : Option Addr} {B2 E2 : Nat → Prop} (Fk : Cells w k [.slice a l.length c] 72) (F : V.RowE V.Cod.byte.sl 31 w B2 E2 a c l)
    (hok : l.length ≤ 300 ∧ ∀ x ∈ l, 8 ≤ x.length ∧ x.length ≤ 1000000) (hE : ∀ j, E2 j → (j = g ∧ j ≠ k) ∨ z ≤ j) (hB : ∀ j, B2 j → B j ∨ (j = g ∧ j ≠ k) ∨ z ≤ j) (hk2 : ∀ j, B2 j ∨ E2 j → j ≠ k) (hgz : g < w.heap.size) (hl : ∀ j, B2 j ∨ E2 j → j < w.heap.size) :
    ∃ g' B', Bg w k g' B' l ∧ (g' = g ∨ z ≤ g') ∧ (∀ j, B' j → B j ∨ j = g ∨ z ≤ j) := by
  rcases F.ex with ⟨h1, h2, h3⟩ | ⟨r, D, h1, h2, h3, h4⟩
  · exact ⟨g, V.None', ⟨fun h => h, fun h => h, hok, hgz, fun j h => h.elim, ⟨a, c, Fk, ⟨.inl ⟨h1, h2, h3⟩⟩⟩⟩, .inl rfl, fun j h => h.elim⟩
  · have hr := hE r h1
    have hD : ∀ j, D j → B j ∨ (j = g ∧ j ≠ k) ∨ z ≤ j := fun j hj => (h3 j hj).elim (hB j) (fun h => .inr (hE j h))
    refine ⟨r, D, ⟨fun h => ?_, h2, hok, hl r (.inr h1), fun j hj => hl j (h3 j hj), ⟨a, c, Fk, ⟨.inr ⟨r, D, ⟨rfl, ?_⟩, h2, fun j h => .inl h, h4⟩⟩⟩⟩, hr.imp And.left id, fun j hj => (hD j hj).imp id (Or.imp And.left id)⟩
    · exact hk2 k (h3 k h) rfl
    · exact hk2 r (.inr h1)
end
/-- one taken out; one doubled; what is put behind -/
def delL (l : List (List UInt8)) (i : Int) : List (List UInt8) := if 0 ≤ i ∧ i < l.length then l.take i.toNat ++ l.drop (i + 1).toNat else l
def okL (l : List (List UInt8)) : Prop := l.length ≤ 300 ∧ ∀ x ∈ l, 8 ≤ x.length ∧ x.length ≤ 1000000
def twcL (l : List (List UInt8)) (i : Int) : List (List UInt8) := if (0 ≤ i ∧ i < l.length) ∧ l.length < 300 then l ++ [l.getD i.toNat []] else l
theorem okL_put {l : List (List UInt8)} {x : List UInt8} (h : okL l) (hl : l.length < 300) (hx : 8 ≤ x.length ∧ x.length ≤ 1000000) : okL (l ++ [x]) := by
  refine ⟨by rw [List.length_append]; simp; omega, fun y hy => ?_⟩
  rcases List.mem_append.1 hy with h1 | h1
  · exact h.2 y h1
  · rw [List.mem_singleton.1 h1]; exact hx
theorem okL_del {l : List (List UInt8)} {a b : Nat} (h : okL l) (hab : a ≤ b) : okL (l.take a ++ l.drop b) := by
  refine ⟨?_, fun x hx => h.2 x ?_⟩
  · have := h.1
    rw [List.length_append, List.length_take, List.length_drop]; omega
  · rcases List.mem_append.1 hx with h | h
    · exact List.mem_of_mem_take h
    · exact List.mem_of_mem_drop h

set_option maxHeartbeats 900000 in
set_option maxRecDepth 10000 in
theorem bhas_spec {w : World} {k g : Nat} {B : Nat → Prop} {l : List (List UInt8)} (FX : Bg w k g B l) {i : Int}  :
    Meets Tryz.prog 30 [.pointer (some ⟨k, 0, none⟩), .int .i64 i] w fun r w' => r = .bool (decide (0 ≤ i ∧ i < l.length)) ∧ Gr w w' := by
 obtain ⟨ao, co, Fk, Fo⟩ := FX.ex
 have hok := FX.ok
 have hkl := Fk.lt
 have hgl := FX.gl
 have hBl := FX.bl
 have hnk := FX.nk
 have hng := FX.ng
 have hFo : ∀ j, (B j ∨ (j = g ∧ j ≠ k)) → j < w.heap.size := fun j h => h.elim (hBl j) (fun h => h.1 ▸ hgl)
 have hl63 := Fo.slB.len63
 have HG := V.Fr.refl [] w
 refine V.enter (n := 20) Tryz.func30 rfl rfl (by decide) rfl ?_
 refine V.sr ?_
 refine V.ru 1 ?_
 refine V.nt ?_
 refine V.sr ?_
 refine V.ru 7 ?_
 refine V.split (j := 6) (t := 11) rfl rfl (fun g1_6 => ?_) (fun g1_6 => ?_)
 ·
  try replace g1_6 := V.dec g1_6
  try simp only [V.mk] at g1_6
  refine V.ru 4 ?_
  refine V.yes rfl rfl rfl ?_
  refine V.loadO T_ok Fk rfl rfl rfl rfl rfl ?_
  refine V.ru 4 ?_
  refine V.nt ?_
  refine V.ret ?_
  refine V.done rfl ?_
  exact ⟨(congrArg Value.bool (by first | rfl | grind)), HG⟩
 ·
  try replace g1_6 := V.dec g1_6
  try simp only [V.mk] at g1_6
  refine V.ru 9 ?_
  refine V.nt ?_
  refine V.ret ?_
  refine V.done rfl ?_
  exact ⟨(congrArg Value.bool (by first | rfl | grind)), HG⟩

set_option maxHeartbeats 900000 in
set_option maxRecDepth 10000 in
theorem blen_spec {w : World} {k g : Nat} {B : Nat → Prop} {l : List (List UInt8)} (FX : Bg w k g B l)   :
    Meets Tryz.prog 23 [.pointer (some ⟨k, 0, none⟩)] w fun r w' => r = .int .i64 (l.length : Int) ∧ Gr w w' := by
 obtain ⟨ao, co, Fk, Fo⟩ := FX.ex
 have hok := FX.ok
 have hkl := Fk.lt
 have hgl := FX.gl
 have hBl := FX.bl
 have hnk := FX.nk
 have hng := FX.ng
 have hFo : ∀ j, (B j ∨ (j = g ∧ j ≠ k)) → j < w.heap.size := fun j h => h.elim (hBl j) (fun h => h.1 ▸ hgl)
 have hl63 := Fo.slB.len63
 have HG := V.Fr.refl [] w
 refine V.enter (n := 10) Tryz.func23 rfl rfl (by decide) rfl ?_
 refine V.sr ?_
 refine V.ru 1 ?_
 refine V.nt ?_
 refine V.seq ?_
 refine V.sr ?_
 refine V.ru 2 ?_
 refine V.nt ?_
 refine V.condN rfl rfl ?_
 refine V.skip ?_
 refine V.tN ?_
 refine V.sr ?_
 refine V.ru 3 ?_
 refine V.loadO T_ok Fk rfl rfl rfl rfl rfl ?_
 refine V.ru 2 ?_
 refine V.nt ?_
 refine V.ret ?_
 refine V.done rfl ?_
 exact ⟨(by first | rfl | simp only [List.length_set]), HG⟩

set_option maxHeartbeats 900000 in
set_option maxRecDepth 10000 in
theorem bnew_spec {w : World}    :
    Meets Tryz.prog 8 [] w fun r w' => ∃ (rk110 : Nat) (rg110 : Nat) (rB110 : Nat → Prop), r = .pointer (some ⟨rk110, 0, none⟩) ∧ (w.heap.size ≤ rk110 ∧ rk110 < w'.heap.size) ∧ Bg w' rk110 rg110 rB110 ([]) ∧ w.heap.size ≤ rg110 ∧ (∀ j, rB110 j → w.heap.size ≤ j) ∧ Gr w w' := by
 have HG := V.Fr.refl [] w
 refine V.enter (n := 3) Tryz.func8 rfl rfl (by decide) rfl ?_
 refine V.sr ?_
 refine V.ru 1 ?_
 refine V.nt ?_
 refine V.sr ?_
 refine V.mkStruct T_ok zero72 rfl rfl rfl rfl rfl ?_
 refine V.box rfl rfl rfl rfl ?_
 rintro k1 w3 s5 s6 G4 Fk2
 have z7 := V.Fr.size G4
 try simp only [V.cellsL, V.spliceL] at Fk2
 refine V.ru 1 ?_
 refine V.nt ?_
 refine V.ret ?_
 obtain ⟨g0, B0, FX0, hg0, hB0⟩ := Bg.mk2 (l := []) (g := k1) (B := V.None') (z := k1 + 1) Fk2 (V.RowE.nil (B := V.None') (E := V.None')) (by simp) (fun j h => h.elim) (fun j h => h.elim) (fun j h => h.elim (fun h => h.elim) (fun h => h.elim)) (by omega) (fun j h => h.elim (fun h => h.elim) (fun h => h.elim))
 refine V.done rfl ?_
 replace HG := HG.grow G4
 exact ⟨k1, _, _, (by first | rfl | simp only [List.length_set]), ⟨by omega, by omega⟩, FX0, (by omega), (by intro j h; grind), HG⟩

set_option maxHeartbeats 900000 in
set_option maxRecDepth 10000 in
theorem bdel_spec {w : World} {g c : Nat} {a : Option Addr} {B : Nat → Prop} {l : List (List UInt8)} (Fo : Own V.Cod.byte.sl 31 w B g a c l) {i : Int} {j : Int} (hgn : ¬ B g) (h0 : 0 ≤ i) (hij : i < j) (hj : j ≤ l.length) :
    Meets Tryz.prog 31 [.slice a l.length c, .int .i64 i, .int .i64 j] w fun r w' => r = .slice a (l.take i.toNat ++ l.drop j.toNat).length c ∧ Own V.Cod.byte.sl 31 w' B g a c (l.take i.toNat ++ l.drop j.toNat) ∧ Fr [g] w w' := by
 have hcap := Fo.cap
 have hmx := Fo.max
 have HG := V.Fr.refl [g] w
 refine V.enter (n := 33) Tryz.func31 rfl rfl (by decide) rfl ?_
 refine V.sr ?_
 refine V.ru 1 ?_
 refine V.nt ?_
 refine V.sr ?_
 refine V.ru 5 ?_
 refine V.step rfl rfl (V.cutB_runC (sz := V.Cod.byte.sl.sz) T_ok rfl rfl sz31 rfl rfl rfl rfl (by omega) (by omega) (by omega) (by omega) _) ?_
 refine V.nt ?_
 refine V.seq ?_
 refine V.sr ?_
 refine V.ru 3 ?_
 refine V.nt ?_
 refine V.condN rfl (by exact decide_eq_false (by omega)) ?_
 refine V.skip ?_
 refine V.tN ?_
 refine V.sr ?_
 refine V.ru 3 ?_
 refine V.nt ?_
 refine V.seq ?_
 refine V.drawT 6 mixed (by kernel_rfl) ?_
 rintro w1 G2 s3
 have z4 := V.Fr.size G2
 refine V.qrun T_ok 2 rfl ?_
 refine V.qstep rfl rfl (fun w_ _ => V.cutA_runC (i := 0) (j := i) (sz := V.Cod.byte.sl.sz) T_ok rfl rfl sz31 rfl rfl rfl rfl rfl (by omega) (by omega) (by omega) w_) ?_
 refine V.qrun T_ok 2 rfl ?_
 refine V.qstep rfl rfl (fun w_ _ => V.cutA_runC (i := j) (j := (l.length : Int)) (sz := V.Cod.byte.sl.sz) T_ok rfl rfl sz31 rfl rfl rfl rfl rfl (by omega) (by omega) (by omega) w_) ?_
 refine V.qnil ?_
 replace Fo := Fo.gr G2
 refine V.appendSelf (i := i.toNat) (j := j.toNat) Fo hgn (by omega) (by omega) elT26_26 rfl rfl rfl rfl rfl ?_
 rintro w5 G6 z7 F1
 clear Fo
 have z8 := V.Fr.size G6
 refine V.ru 1 ?_
 refine V.nt ?_
 refine V.sr ?_
 refine V.ru 4 ?_
 refine V.step rfl rfl (V.cutA_runC (i := ((l.take i.toNat ++ l.drop j.toNat).length : Int)) (j := (l.length : Int)) (sz := V.Cod.byte.sl.sz) T_ok rfl rfl sz31 rfl rfl rfl rfl rfl (by omega) (by simp; omega) (by omega) _) ?_
 have hlt : (l.take i.toNat ++ l.drop j.toNat).length = i.toNat + (l.length - j.toNat) := by rw [List.length_append, List.length_take, List.length_drop]; omega
 refine V.clearTail (m := l.length) F1 hgn (by omega) (by omega) rfl rfl rfl elT26_26.sl (fun _ => V.run_zero zero31) rfl rfl rfl rfl ?_
 rintro w9 G10 z11 F2
 clear F1
 have z12 := V.Fr.size G10
 refine V.nt ?_
 refine V.sr ?_
 refine V.ru 2 ?_
 refine V.nt ?_
 refine V.ret ?_
 refine V.done rfl ?_
 replace HG := HG.grow G2
 replace HG := HG.n1 G6
 replace HG := HG.n1 G10
 exact ⟨(by first | rfl | simp only [List.length_set]), F2, HG⟩

set_option maxHeartbeats 900000 in
set_option maxRecDepth 10000 in
theorem btwice_spec {w : World} {k g : Nat} {B : Nat → Prop} {l : List (List UInt8)} (FX : Bg w k g B l) {i : Int}  :
    Meets Tryz.prog 15 [.pointer (some ⟨k, 0, none⟩), .int .i64 i] w fun r w' => ∃ (rg112 : Nat) (rB112 : Nat → Prop), r = .int .i64 (if 0 ≤ i ∧ i < (l.length : Int) then (if 300 ≤ l.length then 191 else 0) else 1) ∧ Bg w' k rg112 rB112 (twcL l i) ∧ (rg112 = g ∨ w.heap.size ≤ rg112) ∧ (∀ j, rB112 j → B j ∨ j = g ∨ w.heap.size ≤ j) ∧ Fr [k, g] w w' := by
 obtain ⟨ao, co, Fk, Fo⟩ := FX.ex
 have hok := FX.ok
 have hkl := Fk.lt
 have hgl := FX.gl
 have hBl := FX.bl
 have hnk := FX.nk
 have hng := FX.ng
 have hFo : ∀ j, (B j ∨ (j = g ∧ j ≠ k)) → j < w.heap.size := fun j h => h.elim (hBl j) (fun h => h.1 ▸ hgl)
 have hl63 := Fo.slB.len63
 have HG := V.Fr.refl [k, g] w
 refine V.enter (n := 33) Tryz.func15 rfl rfl (by decide) rfl ?_
 refine V.sr ?_
 refine V.ru 1 ?_
 refine V.nt ?_
 refine V.seq ?_
 refine V.block ?_
 refine V.sr ?_
 refine V.ru 2 ?_
 refine V.call (bhas_spec (i := i) FX) rfl rfl rfl ?_
 rintro _ w1 ⟨rfl, G2⟩
 have z3 := V.Fr.size G2
 refine V.ru 2 ?_
 refine V.nt ?_
 refine V.condT rfl (fun h1 => ?_) (fun h1 => ?_)
 ·
  try replace h1 := V.dec h1
  try simp only [V.mk] at h1
  have hh : ¬ (0 ≤ i ∧ i < (l.length : Int)) := by simpa using h1
  refine V.sr ?_
  refine V.ru 1 ?_
  refine V.nt ?_
  refine V.ret ?_
  refine V.bR ?_
  refine V.tR ?_
  rw [show twcL l i = l from if_neg (by omega), if_neg hh]
  replace FX := FX.gr G2
  have FX9 := FX
  refine V.done rfl ?_
  replace HG := HG.grow G2
  exact ⟨_, _, (by first | rfl | simp only [List.length_set]), FX9, (by omega), (by intro j h; first | exact .inl h | (rcases h with h | h; exact .inl h; exact .inr (.inr (by have := h.1; omega)))), HG⟩
 ·
  try replace h1 := V.dec h1
  try simp only [V.mk] at h1
  have hh : 0 ≤ i ∧ i < (l.length : Int) := by simpa using h1
  refine V.sr ?_
  refine V.ru 3 ?_
  replace Fk := Fk.gr G2
  refine V.loadO T_ok Fk rfl rfl rfl rfl rfl ?_
  refine V.ru 3 ?_
  refine V.nt ?_
  refine V.condT rfl (fun h3 => ?_) (fun h3 => ?_)
  ·
   try replace h3 := V.dec h3
   try simp only [V.mk] at h3
   refine V.sr ?_
   refine V.ru 1 ?_
   refine V.nt ?_
   refine V.ret ?_
   refine V.bR ?_
   refine V.tR ?_
   rw [show twcL l i = l from if_neg (by omega), if_pos hh, if_pos (by omega)]
   replace FX := FX.gr G2
   have FX9 := FX
   refine V.done rfl ?_
   replace HG := HG.grow G2
   exact ⟨_, _, (by first | rfl | simp only [List.length_set]), FX9, (by omega), (by intro j h; first | exact .inl h | (rcases h with h | h; exact .inl h; exact .inr (.inr (by have := h.1; omega)))), HG⟩
  ·
   try replace h3 := V.dec h3
   try simp only [V.mk] at h3
   refine V.skip ?_
   refine V.bN ?_
   refine V.tN ?_
   refine V.seq ?_
   replace Fo := Fo.gr G2
   obtain ⟨hgk, FO⟩ := Bg.own hng Fo (by omega)
   clear Fo FX
   obtain ⟨cs0, hR0, hA0⟩ := V.Own.el FO (i := i.toNat) (by omega)
   have hao := V.Own.addr FO (by omega)
   obtain ⟨x0, hx0⟩ : ∃ z', l[i.toNat]'(by omega) = z' := ⟨_, rfl⟩
   rw [hx0] at hR0
   obtain ⟨ax, cx, rfl, Fx⟩ := hR0
   have hmx := FO.max
   have hcp := FO.cap
   have hxl := hok.2 x0 (hx0 ▸ List.getElem_mem _)
   replace HG := HG.grow G2
   refine V.drawMT 16 (fun w_ => V.Fr [g] w1 w_ ∧ V.At w_ g (i.toNat * V.Cod.byte.sl.sz) [.slice ax x0.length cx]) (fun i => Nat.beq i 12 || Nat.beq i 13) (fun _ g_ => ⟨g_.mono (by simp), hA0.mv g_ (by simp)⟩) mixed (by kernel_rfl) (by kernel_rfl) ?_
   refine V.mrun T_ok 4 rfl rfl ?_
   refine V.mloadO T_ok (fun w' g_ => V.Cells.mv1 Fk g_.1 (by omega)) rfl rfl rfl rfl rfl rfl ?_
   refine V.mrun T_ok 3 rfl rfl ?_
   refine V.mloadO T_ok (fun w' g_ => V.Cells.mv1 Fk g_.1 (by omega)) rfl rfl rfl rfl rfl rfl ?_
   refine V.mrun T_ok 1 rfl rfl ?_
   refine V.mstep rfl rfl rfl (fun w_ _ => V.elemK (C := V.Cod.byte.sl) T_ok rfl rfl sz31 hao rfl rfl (by omega) (by omega) w_) ?_
   refine V.mloadA T_ok (o0 := i.toNat * V.Cod.byte.sl.sz) (off := 0) (fun w_ g_ => g_.2) rfl rfl rfl rfl rfl rfl ?_
   refine V.mop (fun w1_ v_ w2_ => ∃ k_, v_ = .slice (some ⟨k_, 0, none⟩) 1 1 ∧ Gr w1_ w2_ ∧ Sl V.Cod.byte.sl w2_ (fun j => B j ∨ V.In w1.heap.size w2_.heap.size j) (some ⟨k_, 0, none⟩) 1 [x0]) rfl rfl rfl rfl (fun w' g_ h_ => ?_) ?_
   ·
    have z0_ := V.Fr.size h_
    refine V.mkSlice T_ok zero31 rfl rfl sz31 rfl rfl rfl rfl rfl rfl ?_
    rintro k2_ w2_ s1_ s2_ G2_ Fk_
    have z2_ := V.Fr.size G2_
    refine V.nil ?_
    exact ⟨rfl, ⟨(V.Fr.trans g_.1 G2_).mono (by simp), g_.2.mv G2_ (by simp)⟩, k2_, rfl, G2_, V.Cells.sl (xs := [x0]) Fk_ (V.reps_cons (x := x0) ⟨_, _, rfl, ((Fx.gr h_).gr G2_).mono (fun k h => .inl h)⟩ rfl rfl) (.inr ⟨by omega, by omega⟩) (by simp [maxLen])⟩
   rintro _ _ _ _ _ ⟨k4, rfl, -, -⟩
   refine V.mop (fun w1_ v_ w2_ => ∃ g1_ a_ c_, v_ = .slice a_ (l ++ [x0]).length c_ ∧ Fr [g] w1_ w2_ ∧ (g1_ = g ∨ g1_ = w1_.heap.size) ∧ g1_ < w2_.heap.size ∧ Own V.Cod.byte.sl 31 w2_ (fun j => B j ∨ V.In w1.heap.size w1_.heap.size j) g1_ a_ c_ (l ++ [x0])) rfl rfl rfl rfl (fun w' g_ h_ => ?_) ?_
   ·
    obtain ⟨w1_, c1_, g0_, k2_, hk_, G2_, FS_⟩ := h_
    cases hk_
    have z0_ := V.Fr.size g0_
    have z2_ := V.Fr.size G2_
    refine V.appendK (((FO.gr g0_).gr G2_).mono (fun j h => .inl h)) (FS_.from Tryz.underlying26) elT26_26 rfl rfl rfl rfl rfl (by simp only [List.length_cons, List.length_nil]; omega) (by unfold maxLen; simp only [List.length_cons, List.length_nil]; omega) (fun h => h.elim hng (fun h => by have := h.1; omega)) (by omega) ?_
    rintro g1_ a3_ c3_ w3_ G3_ z3_ hg1_ hl1_ hK_ F3_
    refine V.nil ?_
    exact ⟨rfl, ⟨V.Fr.dup g_.1 G3_, hK_ _ _ (by show i.toNat * 1 + 1 ≤ l.length * 1; omega) g_.2⟩, g1_, a3_, c3_, rfl, G3_, hg1_, hl1_, F3_⟩
   rintro _ _ _ _ _ ⟨g5, a6, c7, rfl, -, -⟩
   refine V.mrun T_ok 2 rfl rfl ?_
   refine V.mnil ?_
   rintro w10 - ⟨w9, -, ⟨w8, -, g0_, k2_, hk_, G2_, FS_⟩, g1_, a3_, c3_, hv_, G3_, hg1_, hl1_, F3_⟩
   cases hk_; cases hv_
   clear FS_ hA0
   have z11 := V.Fr.size g0_
   have z12 := V.Fr.size G2_
   clear FO
   have z13 := V.Fr.size G3_
   replace Fk := Fk.gr (g0_.trans G2_)
   replace Fk := Fk.ma G3_
   refine V.storeO Fk rfl rfl rfl rfl sz26 rfl rfl rfl rfl ?_
   rintro w14 G15 z17 Fs16
   clear Fk
   have z18 := V.Fr.size G15
   have Fk := Fs16; clear Fs16
   simp only [V.spliceL, V.cellsL] at Fk
   refine V.nt ?_
   refine V.sr ?_
   refine V.ru 1 ?_
   refine V.nt ?_
   refine V.ret ?_
   have htw : twcL l i = l ++ [x0] := (if_pos (by omega)).trans (by rw [List.getD_eq_getElem?_getD, List.getElem?_eq_getElem (by omega), hx0]; rfl)
   rw [htw, if_pos hh, if_neg (by omega)]
   replace HG := HG.grow (g0_.trans G2_)
   replace HG := HG.n1 G3_
   replace HG := HG.n1 G15
   have hb9 : ∀ j, (B j ∨ V.In w1.heap.size w9.heap.size j) → j < w14.heap.size := fun j h => h.elim (fun h => Nat.lt_of_lt_of_le (hBl j h) (V.Fr.size HG)) (fun h => by have := h.2; omega)
   have hn9 : ¬ (B g1_ ∨ V.In w1.heap.size w9.heap.size g1_) := fun h => h.elim (fun h => hg1_.elim (fun e => hng (e ▸ h)) (fun e => by have := hBl _ h; omega)) (fun h => by have := h.1; have := h.2; omega)
   replace F3_ := F3_.mv1 G15 (by exact ⟨by omega, fun h => h.elim hnk (fun h => by have := h.1; omega)⟩)
   have FX9 : Bg _ k g1_ (fun j => B j ∨ V.In w1.heap.size w9.heap.size j) _ := ⟨fun h => h.elim hnk (fun h => by have := h.1; omega), hn9, (okL_put hok (by omega) (by omega)), by omega, hb9, _, _, Fk, Bg.back (by omega) hn9 F3_⟩
   refine V.done rfl ?_
   exact ⟨_, _, (by first | rfl | simp only [List.length_set]), FX9, (by omega), (by intro j h; first | exact .inl h | (rcases h with h | h; exact .inl h; exact .inr (.inr (by have := h.1; omega)))), HG⟩

end Go.Proofs.YtmmgmkklakkooaaGreat
