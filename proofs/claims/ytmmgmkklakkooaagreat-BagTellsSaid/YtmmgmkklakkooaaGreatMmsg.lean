/- Proved here: walks: what functions of this seat's program return and what they leave of memory, each as a contract. Conditions: stated at each theorem. -/
import Derived.Test.YtmmgmkklakkooaaGreatMcmd6
namespace Go.Proofs.YtmmgmkklakkooaaGreat
set_option linter.unusedVariables false
set_option linter.unusedSimpArgs false
open Go
open V (Bytes Meets Env Sl Own Gr Fr Cells S)

theorem V.flat_kv : V.Flat (V.Cod.pair V.Cod.str V.Cod.str) := (V.flat_pair (V.flat_str) (V.flat_str))

abbrev V.Cod.ent : V.Cod (Int × List UInt8) := V.Cod.pair (V.Cod.int .i64) V.Cod.byte.sl

theorem eqG76 : Tryz.prog.eqGuardType Tryz.prog.depth 76 = false := by kernel_rfl
theorem eqD76 (d : Nat) (w : World) {x0 y0 : ByteArray} {x1 y1 : ByteArray} : (Op.equalIn (d + 2) 76 (.agg #[.string x0, .string x1]) (.agg #[.string y0, .string y1])).run Tryz.prog w = .ok ((decide (x0 = y0)) && ((decide (x1 = y1)) && (true))) w :=
  V.eqIn_struct _ Tryz.underlying76 (by kernel_rfl) (V.eqF_cons (agg := false) (by decide) sz9 (by kernel_rfl) (by kernel_rfl) rfl rfl (V.eqIn_str _ Tryz.underlying9) (V.eqF_cons (agg := false) (by decide) sz9 (by kernel_rfl) (by kernel_rfl) rfl rfl (V.eqIn_str _ Tryz.underlying9) V.eqF_nil))
theorem eqS76 (w : World) {x0 y0 : ByteArray} {x1 y1 : ByteArray} : (Op.equalIn 10000 76 (.agg #[.string x0, .string x1]) (.agg #[.string y0, .string y1])).run Tryz.prog w = .ok ((decide (x0 = y0)) && ((decide (x1 = y1)) && (true))) w := eqD76 9998 w


/-- a result; a message -/
structure ResV where
  er : Int
  aw : Int
  al : Int
  ps : List (ByteArray × ByteArray)
  fo : Bool
  ti : Int
  te : Int
  an : ByteArray
  sw : Int
  sl : Int
  rc : RecV
structure MsgV where
  kd : Int
  fr : Int
  to : Int
  rg : Int
  te : Int
  ix : Int
  lt : Int
  co : Int
  ok : Bool
  es : List (Int × List UInt8)
  da : List UInt8
  nw : Int
  nl : Int
  c : CmdV
  r : ResV
def kvOk (ps : List (ByteArray × ByteArray)) : Prop := ∀ x ∈ ps, x.1.size ≤ 9223372036854775807 ∧ x.2.size ≤ 9223372036854775807
structure SzR (r : ResV) : Prop where
  ps : kvOk r.ps
  an : r.an.size ≤ 9223372036854775807
  ws : keysOk r.rc.ws
structure SzM (m : MsgV) : Prop where
  c : SzOk m.c
  r : SzR m.r
def pairB (x : ByteArray × ByteArray) : Bool := isKey x.1 && okB x.2.data.toList && decide (x.2.size ≤ 16)
def resB (r : ResV) : Bool := (nmB r.ti && nmB r.te && decide (0 ≤ r.er) && decide (r.er ≤ 999) && decide (r.ps.length ≤ 50)) && (stB2 (r.aw, r.al) && stB2 (r.sw, r.sl)) && (decide (r.an = S []) || isKey r.an) && recB r.rc && r.ps.all pairB
def smR (a b : ResV) : Bool := decide (a.er = b.er ∧ (a.aw = b.aw ∧ a.al = b.al) ∧ a.fo = b.fo ∧ (a.ti = b.ti ∧ a.te = b.te ∧ a.an = b.an ∧ a.sw = b.sw ∧ a.sl = b.sl)) && decide (a.ps = b.ps) && sameR a.rc b.rc
def recZ0 : RecV := ⟨0, 0, 0, 0, 0, 0, 0, []⟩
def resZ : ResV := ⟨0, 0, 0, [], false, 0, 0, S [], 0, 0, recZ0⟩
def askB (m : MsgV) : Bool := (if m.kd = 6 then cmdB m.c else smB m.c cmdZ) && (if m.kd = 7 then resB m.r else smR m.r resZ)
def entB (x : Int × List UInt8) : Bool := nmB x.1 && decide (x.2.length ≤ 32768)
def numM (m : MsgV) : List Int := [m.te, m.ix, m.lt, m.co]
def msgB (m : MsgV) : Bool := (numM m).all nmB && m.es.all entB && (decide (0 ≤ min m.fr m.to) && decide (max m.fr m.to < 3) && decide (0 ≤ m.rg) && decide (m.rg < 4)) && (decide (m.es.length ≤ 8) && decide (m.da.length ≤ 32768)) && decide (1 ≤ m.kd) && decide (m.kd ≤ 7) && stB2 (m.nw, m.nl) && askB m
theorem any_no {α : Type} {p : α → Bool} {l : List α} (h : ∀ j (hj : j < l.length), p l[j] = false) : l.any p = false := by
  rw [List.any_eq_false]
  intro x hx
  obtain ⟨j, hj, rfl⟩ := List.mem_iff_getElem.1 hx
  simp [h j hj]
theorem all_any {α : Type} {p : α → Bool} {l : List α} : l.all p = !l.any (fun x => !p x) := by
  induction l with
  | nil => rfl
  | cons x l ih => simp only [List.all_cons, List.any_cons, Bool.not_or, Bool.not_not, ih]

set_option maxHeartbeats 900000 in
set_option maxRecDepth 10000 in
theorem mnumber_spec {w : World}  {n : Int}  :
    Meets Tryz.prog 37 [.int .i64 n] w fun r w' => r = .bool (nmB n) ∧ w = w' := by
 refine V.enter (n := 9) Tryz.func37 rfl rfl (by decide) rfl ?_
 refine V.sr ?_
 refine V.ru 1 ?_
 refine V.nt ?_
 refine V.sr ?_
 refine V.ru 3 ?_
 refine V.andG T_ok 2 2 5 rfl rfl rfl rfl rfl rfl rfl rfl ?_
 refine V.ru 1 ?_
 refine V.nt ?_
 refine V.ret ?_
 refine V.done rfl ?_
 exact ⟨(congrArg Value.bool (by first | rfl | (unfold nmB; grind))), rfl⟩

set_option maxHeartbeats 900000 in
set_option maxRecDepth 10000 in
theorem mpv_spec {w : World}  {q : Int} (h0 : 0 ≤ q) :
    Meets Tryz.prog 165 [.int .i32 q] w fun r w' => r = .bool (pV q.toNat) ∧ w = w' := by
 refine V.enter (n := 9) Tryz.func165 rfl rfl (by decide) rfl ?_
 refine V.sr ?_
 refine V.ru 1 ?_
 refine V.nt ?_
 refine V.sr ?_
 refine V.ru 3 ?_
 refine V.orG T_ok 2 2 5 rfl rfl rfl rfl rfl rfl rfl rfl ?_
 refine V.ru 1 ?_
 refine V.nt ?_
 refine V.ret ?_
 refine V.done rfl ?_
 exact ⟨(congrArg Value.bool (by first | rfl | (unfold pV; grind))), rfl⟩


theorem mixf_spec {w : World} {s : ByteArray} : Meets Tryz.prog 171 [.string s, .func (.func 165) #[] #[], .bool true] w fun r w' => r = .int .i64 (Go.Lib.idxFunc pV true s) ∧ Gr w w' :=
  ⟨V.callable Tryz.func171 rfl (by decide), (Any.strings_indexFunc_grows laysIxf 165 #[] (fun a w => enters_of Tryz.func165 (by kernel_rfl) rfl a w) pV true s w (fun W x hx hb => by
    have h := (mpv_spec (w := W) (q := (x : Int)) (by omega)).2
    refine h.mono ?_
    rintro e w' ⟨v, rfl, rfl, rfl⟩
    exact ⟨by simp, Go.RowKit.Below.refl _ _⟩)).mono (by rintro e w' ⟨rfl, hb⟩; exact ⟨_, rfl, rfl, ⟨hb.os, hb.tape, hb.output, hb.size, fun k hk _ => hb.block k hk⟩⟩)⟩

set_option maxHeartbeats 900000 in
set_option maxRecDepth 10000 in
theorem mixf2_spec {w : World}  {s : ByteArray}  :
    Meets Tryz.prog 170 [.string s, .func (.func 165) #[] #[]] w fun r w' => r = .int .i64 (Go.Lib.idxFunc pV true s) ∧ Gr w w' := by
 have HG := V.Fr.refl [] w
 refine V.enter (n := 8) Tryz.func170 rfl rfl (by decide) rfl ?_
 refine V.sr ?_
 refine V.ru 1 ?_
 refine V.nt ?_
 refine V.sr ?_
 refine V.ru 2 ?_
 refine V.call (mixf_spec (s := s)) rfl rfl rfl ?_
 rintro _ w1 ⟨rfl, G2⟩
 have z3 := V.Fr.size G2
 refine V.ru 1 ?_
 refine V.nt ?_
 refine V.ret ?_
 refine V.done rfl ?_
 replace HG := HG.grow G2
 exact ⟨(by first | rfl | simp only [List.length_set]), HG⟩

set_option maxHeartbeats 900000 in
set_option maxRecDepth 10000 in
theorem mcf_spec {w : World}  {s : ByteArray}  :
    Meets Tryz.prog 164 [.string s, .func (.func 165) #[] #[]] w fun r w' => r = .bool (!okB s.data.toList) ∧ Gr w w' := by
 have HG := V.Fr.refl [] w
 refine V.enter (n := 9) Tryz.func164 rfl rfl (by decide) rfl ?_
 refine V.sr ?_
 refine V.ru 1 ?_
 refine V.nt ?_
 refine V.sr ?_
 refine V.ru 2 ?_
 refine V.call (mixf2_spec (s := s)) rfl rfl rfl ?_
 rintro _ w1 ⟨rfl, G2⟩
 have z3 := V.Fr.size G2
 refine V.ru 2 ?_
 refine V.nt ?_
 refine V.ret ?_
 refine V.done rfl ?_
 replace HG := HG.grow G2
 exact ⟨(congrArg Value.bool (by first | rfl | (have h := ixf_all s s.size 0 (by omega); rw [List.drop_zero] at h; rw [Bool.eq_iff_iff]; simp; exact h))), HG⟩

set_option maxHeartbeats 900000 in
set_option maxRecDepth 10000 in
theorem paired_spec {w : World}  {k : ByteArray} {v : ByteArray} (hk : k.size ≤ 9223372036854775807) (hv : v.size ≤ 9223372036854775807) :
    Meets Tryz.prog 132 [.agg #[.string k, .string v]] w fun r w' => r = .bool (pairB (k, v)) ∧ Gr w w' := by
 have HG := V.Fr.refl [] w
 refine V.enter (n := 20) Tryz.func132 rfl rfl (by decide) rfl ?_
 refine V.sr ?_
 refine V.box rfl rfl rfl rfl ?_
 rintro k1 w3 s5 s6 G4 Fk2
 have z7 := V.Fr.size G4
 try simp only [V.cellsL, V.spliceL] at Fk2
 refine V.ru 1 ?_
 refine V.nt ?_
 refine V.sr ?_
 refine V.ru 1 ?_
 refine V.loadO T_ok Fk2 rfl rfl rfl rfl rfl ?_
 refine V.call (mcf_spec (s := v)) rfl rfl rfl ?_
 rintro _ w8 ⟨rfl, G9⟩
 have z10 := V.Fr.size G9
 refine V.ru 1 ?_
 refine V.nt ?_
 refine V.sr ?_
 refine V.ru 1 ?_
 replace Fk2 := Fk2.gr G9
 refine V.loadO T_ok Fk2 rfl rfl rfl rfl rfl ?_
 refine V.call (key_spec (s := k) (by first | omega | decide | (simp only [V.S_size, List.length_cons, List.length_nil]; omega))) rfl rfl rfl ?_
 rintro _ w8_ ⟨rfl, rfl⟩
 refine V.ru 1 ?_
 refine V.andG T_ok 2 3 10 rfl rfl rfl rfl rfl rfl rfl rfl ?_
 refine V.ru 1 ?_
 refine V.split (j := 7) (t := 14) rfl rfl (fun g2_7 => ?_) (fun g2_7 => ?_)
 ·
  try replace g2_7 := V.dec g2_7
  try simp only [V.mk] at g2_7
  refine V.ru 1 ?_
  refine V.yes rfl rfl rfl ?_
  refine V.loadO T_ok Fk2 rfl rfl rfl rfl rfl ?_
  refine V.ru 4 ?_
  refine V.nt ?_
  refine V.ret ?_
  refine V.done rfl ?_
  replace HG := HG.grow (G4.trans G9)
  exact ⟨(congrArg Value.bool (by first | rfl | (unfold pairB; grind))), HG⟩
 ·
  try replace g2_7 := V.dec g2_7
  try simp only [V.mk] at g2_7
  refine V.ru 6 ?_
  refine V.nt ?_
  refine V.ret ?_
  refine V.done rfl ?_
  replace HG := HG.grow (G4.trans G9)
  exact ⟨(congrArg Value.bool (by first | rfl | (unfold pairB; grind))), HG⟩

set_option maxHeartbeats 900000 in
set_option maxRecDepth 10000 in
theorem res1_spec {w : World}  {k : ByteArray} {v : ByteArray} (hk : k.size ≤ 9223372036854775807) (hv : v.size ≤ 9223372036854775807) :
    Meets Tryz.prog 131 [.agg #[.string k, .string v]] w fun r w' => r = .bool (!pairB (k, v)) ∧ Gr w w' := by
 have HG := V.Fr.refl [] w
 refine V.enter (n := 6) Tryz.func131 rfl rfl (by decide) rfl ?_
 refine V.sr ?_
 refine V.box rfl rfl rfl rfl ?_
 rintro k1 w3 s5 s6 G4 Fk2
 have z7 := V.Fr.size G4
 try simp only [V.cellsL, V.spliceL] at Fk2
 refine V.ru 1 ?_
 refine V.nt ?_
 refine V.sr ?_
 refine V.loadO T_ok Fk2 rfl rfl rfl rfl rfl ?_
 refine V.call (paired_spec (k := k) (v := v) (by omega) (by omega)) rfl rfl rfl ?_
 rintro _ w8 ⟨rfl, G9⟩
 have z10 := V.Fr.size G9
 refine V.ru 2 ?_
 refine V.nt ?_
 refine V.ret ?_
 refine V.done rfl ?_
 replace HG := HG.grow (G4.trans G9)
 exact ⟨(by first | rfl | simp only [List.length_set]), HG⟩


def ixN (l : List (ByteArray × ByteArray)) : Int := if l.any (fun x => !pairB x) = true then (l.findIdx (fun x => !pairB x) : Int) else -1
theorem ixN_at {l : List (ByteArray × ByteArray)} {i : Nat} (h : ∀ j (hj : j < l.length), j < i → (!pairB l[j]) = false) (hi : i < l.length) (hk : (!pairB l[i]) = true) : ixN l = i := by
  unfold ixN
  rw [if_pos (List.any_eq_true.2 ⟨l[i], List.getElem_mem hi, hk⟩)]
  congr 1
  refine (List.findIdx_eq hi).2 ⟨hk, fun j hj => h j (by omega) hj⟩
theorem ixN_no {l : List (ByteArray × ByteArray)} (h : ∀ j (hj : j < l.length), (!pairB l[j]) = false) : ixN l = -1 := by
  unfold ixN; rw [if_neg (by rw [any_no h]; decide)]
theorem ixN_any (l : List (ByteArray × ByteArray)) : decide (0 ≤ ixN l) = l.any (fun x => !pairB x) := by
  unfold ixN
  cases l.any (fun x => !pairB x)
  · rfl
  · exact decide_eq_true (Int.natCast_nonneg _)

set_option maxHeartbeats 900000 in
set_option maxRecDepth 10000 in
theorem ixn_spec {w : World}  {D_l : Nat → Prop} {c_l : Nat} {a_l : Option Addr} {l : List (ByteArray × ByteArray)} (F_l : Sl (V.Cod.pair V.Cod.str V.Cod.str) w D_l a_l c_l l) (hz : kvOk l) :
    Meets Tryz.prog 163 [.slice a_l l.length c_l, .func (.func 131) #[] #[]] w fun r w' => r = .int .i64 (ixN l) ∧ Gr w w' := by
 have HG := V.Fr.refl [] w
 refine V.enter (n := 19) Tryz.func163 rfl rfl (by decide) rfl ?_
 refine V.sr ?_
 refine V.ru 1 ?_
 refine V.nt ?_
 refine V.seq ?_
 refine V.sr ?_
 refine V.ru 3 ?_
 refine V.nt ?_
 refine V.block ?_
 have hl63 := F_l.len63
 refine V.loopM (fun m e v2 => Fr [] w v2 ∧ w.heap.size ≤ v2.heap.size ∧ Sl (V.Cod.pair V.Cod.str V.Cod.str) v2 D_l a_l c_l l ∧ ∃ (i : Nat) , m = l.length - i ∧ i ≤ l.length ∧ (∀ j (hj : j < l.length), j < i → (!pairB l[j]) = false) ∧ e 0 = .slice a_l l.length c_l ∧ e 1 = .func (.func 131) #[] #[] ∧ e 7 = .int .i64 (l.length : Int) ∧ e 8 = .int .i64 (i : Int)) ?_ ?_
 ·
  exact ⟨_, HG, (by omega), F_l, (0), rfl, (by omega), (fun j hj h => absurd h (Nat.not_lt_zero _)), rfl, rfl, rfl, rfl⟩
 clear HG F_l
 rintro _ e v2 ⟨HG, z3, F_l, i, rfl, hi, hno, he0_0, he0_1, he0_7, he0_8⟩
 refine V.knownC (t := 0) he0_0 ?_
 refine V.knownC (t := 1) he0_1 ?_
 refine V.knownC (t := 7) he0_7 ?_
 refine V.knownC (t := 8) he0_8 ?_
 refine V.sr ?_
 refine V.ru 1 ?_
 refine V.nt ?_
 refine V.seq ?_
 refine V.condT rfl (fun h2 => ?_) (fun h2 => ?_)
 ·
  try replace h2 := V.dec h2
  try simp only [V.mk] at h2
  refine V.skip ?_
  refine V.tN ?_
  refine V.seq ?_
  refine V.block ?_
  refine V.sr ?_
  refine V.ru 2 ?_
  refine V.nt ?_
  refine V.sr ?_
  refine V.ru 3 ?_
  refine V.elem T_ok F_l rfl rfl sz76 rfl rfl rfl rfl V.lenA V.lenA ?_
  rintro b4 o5 cs6 hx7 hb8 hR11 hA9
  obtain ⟨x10, hx10⟩ : ∃ z', l[((i : Int)).toNat] = z' := ⟨_, rfl⟩
  rw [hx10] at hR11
  obtain ⟨_, _, rfl, rfl, rfl⟩ := hR11
  try simp only [Int.toNat_natCast] at hx10 hx7
  refine V.loadA T_ok (o0 := o5) (off := 0) hA9 rfl rfl rfl rfl rfl ?_
  have hzx := hz x10 (by rw [← hx10]; exact List.getElem_mem _)
  refine V.call (res1_spec (k := x10.1) (v := x10.2) (by omega) (by omega)) rfl rfl rfl ?_
  rintro _ w12 ⟨rfl, G13⟩
  have z14 := V.Fr.size G13
  refine V.nt ?_
  refine V.condT rfl (fun h4 => ?_) (fun h4 => ?_)
  ·
   try replace h4 := V.dec h4
   try simp only [V.mk] at h4
   refine V.sr ?_
   refine V.ru 2 ?_
   refine V.nt ?_
   refine V.ret ?_
   refine V.bR ?_
   refine V.tR ?_
   refine V.tR ?_
   refine V.bR ?_
   refine V.tR ?_
   refine V.done rfl ?_
   replace HG := HG.grow G13
   exact ⟨congrArg (Value.int .i64) (ixN_at hno (by omega) (by subst_vars; first | assumption | simp_all)).symm, HG⟩
  ·
   try replace h4 := V.dec h4
   try simp only [V.mk] at h4
   refine V.skip ?_
   refine V.bN ?_
   refine V.tN ?_
   refine V.region ?_
   refine V.addN rfl rfl rfl rfl rfl V.lenA V.lenA ?_
   refine V.ru 1 ?_
   refine V.nt ?_
   replace F_l := F_l.gr G13
   replace HG := HG.grow G13
   exact ⟨_, (by omega), HG, (by omega), F_l, (i + 1), rfl, (by omega), (fun j hj h => by rcases Nat.lt_or_ge j i with h2 | h2; exact hno j hj h2; obtain rfl : j = i := (by omega); subst_vars; simp_all), rfl, rfl, rfl, rfl⟩
 ·
  try replace h2 := V.dec h2
  try simp only [V.mk] at h2
  refine V.exit ?_
  refine V.tX ?_
  refine V.tX ?_
  refine V.bE ?_
  refine V.tN ?_
  refine V.sr ?_
  refine V.ru 1 ?_
  refine V.nt ?_
  refine V.ret ?_
  refine V.done rfl ?_
  exact ⟨congrArg (Value.int .i64) (ixN_no fun j hj => hno j hj (by omega)).symm, HG⟩

set_option maxHeartbeats 900000 in
set_option maxRecDepth 10000 in
theorem cfn_spec {w : World}  {D_l : Nat → Prop} {c_l : Nat} {a_l : Option Addr} {l : List (ByteArray × ByteArray)} (F_l : Sl (V.Cod.pair V.Cod.str V.Cod.str) w D_l a_l c_l l) (hz : kvOk l) :
    Meets Tryz.prog 130 [.slice a_l l.length c_l, .func (.func 131) #[] #[]] w fun r w' => r = .bool (l.any (fun x => !pairB x)) ∧ Gr w w' := by
 have HG := V.Fr.refl [] w
 refine V.enter (n := 9) Tryz.func130 rfl rfl (by decide) rfl ?_
 refine V.sr ?_
 refine V.ru 1 ?_
 refine V.nt ?_
 refine V.sr ?_
 refine V.ru 2 ?_
 refine V.call (ixn_spec F_l (by first | (with_reducible assumption) | exact hz | exact hz.ps)) rfl rfl rfl ?_
 rintro _ w1 ⟨rfl, G2⟩
 have z3 := V.Fr.size G2
 refine V.ru 2 ?_
 refine V.nt ?_
 refine V.ret ?_
 refine V.done rfl ?_
 replace HG := HG.grow G2
 exact ⟨(congrArg Value.bool (by first | rfl | (exact ixN_any l))), HG⟩

set_option maxHeartbeats 900000 in
set_option maxRecDepth 10000 in
theorem resulted_spec {w : World} {x : ResV} {D_op : Nat → Prop} {c_op : Nat} {a_op : Option Addr} (F_op : Sl (V.Cod.pair V.Cod.str V.Cod.str) w D_op a_op c_op x.ps) (hD_op : ∀ k, D_op k → k < w.heap.size) {D_or : Nat → Prop} {c_or : Nat} {a_or : Option Addr} (F_or : Sl V.Cod.write w D_or a_or c_or x.rc.ws) (hD_or : ∀ k, D_or k → k < w.heap.size)  (hz : SzR x) :
    Meets Tryz.prog 80 [.agg #[.int .i64 x.er, .int .i64 x.aw, .int .i64 x.al, .slice a_op x.ps.length c_op, .bool x.fo, .int .i64 x.ti, .int .i64 x.te, .string x.an, .int .i64 x.sw, .int .i64 x.sl, .int .i64 x.rc.id, .int .i64 x.rc.ep, .int .i64 x.rc.st, .int .i64 x.rc.aw, .int .i64 x.rc.al, .int .i64 x.rc.bw, .int .i64 x.rc.bl, .slice a_or x.rc.ws.length c_or]] w fun r w' => r = .bool (resB x) ∧ Gr w w' := by
 have hzan := hz.an
 have hzw := hz.ws
 have HG := V.Fr.refl [] w
 refine V.enter (n := 69) Tryz.func80 rfl rfl (by decide) rfl ?_
 refine V.sr ?_
 refine V.box rfl rfl rfl rfl ?_
 rintro k1 w3 s5 s6 G4 Fk2
 have z7 := V.Fr.size G4
 try simp only [V.cellsL, V.spliceL] at Fk2
 refine V.ru 1 ?_
 refine V.nt ?_
 replace F_op := F_op.gr G4
 replace F_or := F_or.gr G4
 replace HG := HG.grow G4
 refine V.seqJ (fun e v9 => Fr [] w v9 ∧ w3.heap.size ≤ v9.heap.size ∧ Sl (V.Cod.pair V.Cod.str V.Cod.str) v9 D_op a_op c_op x.ps ∧ Sl V.Cod.write v9 D_or a_or c_or x.rc.ws ∧ Cells v9 k1 [.int .i64 x.er, .int .i64 x.aw, .int .i64 x.al, .slice a_op x.ps.length c_op, .bool x.fo, .int .i64 x.ti, .int .i64 x.te, .string x.an, .int .i64 x.sw, .int .i64 x.sl, .int .i64 x.rc.id, .int .i64 x.rc.ep, .int .i64 x.rc.st, .int .i64 x.rc.aw, .int .i64 x.rc.al, .int .i64 x.rc.bw, .int .i64 x.rc.bl, .slice a_or x.rc.ws.length c_or] 48 ∧ e 1 = .pointer (some ⟨k1, 0, none⟩) ∧ e 3 = .bool (nmB x.ti && nmB x.te && decide (0 ≤ x.er) && decide (x.er ≤ 999) && decide (x.ps.length ≤ 50)) ∧ True) ?_ ?_
 ·
  refine V.region ?_
  refine V.ru 2 ?_
  refine V.loadO T_ok Fk2 rfl rfl rfl rfl rfl ?_
  refine V.call (mnumber_spec (n := x.ti)) rfl rfl rfl ?_
  rintro _ w3_ ⟨rfl, rfl⟩
  refine V.ru 1 ?_
  refine V.split (j := 4) (t := 10) rfl rfl (fun g1_4 => ?_) (fun g1_4 => ?_)
  ·
   try replace g1_4 := V.dec g1_4
   try simp only [V.mk] at g1_4
   refine V.ru 2 ?_
   refine V.yes rfl rfl rfl ?_
   refine V.loadO T_ok Fk2 rfl rfl rfl rfl rfl ?_
   refine V.yes rfl rfl rfl ?_
   refine V.call (mnumber_spec (n := x.te)) rfl rfl rfl ?_
   rintro _ w3_ ⟨rfl, rfl⟩
   refine V.ru 2 ?_
   refine V.split (j := 10) (t := 16) rfl rfl (fun g1_10 => ?_) (fun g1_10 => ?_)
   ·
    try replace g1_10 := V.dec g1_10
    try simp only [V.mk] at g1_10
    refine V.ru 1 ?_
    refine V.yes rfl rfl rfl ?_
    refine V.loadO T_ok Fk2 rfl rfl rfl rfl rfl ?_
    refine V.ru 3 ?_
    refine V.split (j := 15) (t := 21) rfl rfl (fun g1_15 => ?_) (fun g1_15 => ?_)
    ·
     try replace g1_15 := V.dec g1_15
     try simp only [V.mk] at g1_15
     refine V.ru 1 ?_
     refine V.yes rfl rfl rfl ?_
     refine V.loadO T_ok Fk2 rfl rfl rfl rfl rfl ?_
     refine V.ru 3 ?_
     refine V.split (j := 20) (t := 26) rfl rfl (fun g1_20 => ?_) (fun g1_20 => ?_)
     ·
      try replace g1_20 := V.dec g1_20
      try simp only [V.mk] at g1_20
      refine V.ru 1 ?_
      refine V.yes rfl rfl rfl ?_
      refine V.loadO T_ok Fk2 rfl rfl rfl rfl rfl ?_
      refine V.ru 4 ?_
      refine V.nt ?_
      exact ⟨HG, (by omega), F_op, F_or, Fk2, rfl, (congrArg Value.bool (by first | rfl | (unfold nmB at *; grind))), trivial⟩
     ·
      try replace g1_20 := V.dec g1_20
      try simp only [V.mk] at g1_20
      refine V.ru 6 ?_
      refine V.nt ?_
      exact ⟨HG, (by omega), F_op, F_or, Fk2, rfl, (congrArg Value.bool (by first | rfl | (unfold nmB at *; grind))), trivial⟩
    ·
     try replace g1_15 := V.dec g1_15
     try simp only [V.mk] at g1_15
     refine V.ru 11 ?_
     refine V.nt ?_
     exact ⟨HG, (by omega), F_op, F_or, Fk2, rfl, (congrArg Value.bool (by first | rfl | (unfold nmB at *; grind))), trivial⟩
   ·
    try replace g1_10 := V.dec g1_10
    try simp only [V.mk] at g1_10
    refine V.ru 16 ?_
    refine V.nt ?_
    exact ⟨HG, (by omega), F_op, F_or, Fk2, rfl, (congrArg Value.bool (by first | rfl | (unfold nmB at *; grind))), trivial⟩
  ·
   try replace g1_4 := V.dec g1_4
   try simp only [V.mk] at g1_4
   refine V.ru 22 ?_
   refine V.nt ?_
   exact ⟨HG, (by omega), F_op, F_or, Fk2, rfl, (congrArg Value.bool (by first | rfl | (unfold nmB at *; grind))), trivial⟩
 clear HG F_op F_or Fk2
 rintro e v9 ⟨HG, z12, F_op, F_or, Fk2, hjn8_1, hjn8_3, -⟩
 refine V.knownC (t := 1) hjn8_1 ?_
 refine V.knownC (t := 3) hjn8_3 ?_
 refine V.seqJ (fun e v14 => Fr [] w v14 ∧ v9.heap.size ≤ v14.heap.size ∧ Sl (V.Cod.pair V.Cod.str V.Cod.str) v14 D_op a_op c_op x.ps ∧ Sl V.Cod.write v14 D_or a_or c_or x.rc.ws ∧ Cells v14 k1 [.int .i64 x.er, .int .i64 x.aw, .int .i64 x.al, .slice a_op x.ps.length c_op, .bool x.fo, .int .i64 x.ti, .int .i64 x.te, .string x.an, .int .i64 x.sw, .int .i64 x.sl, .int .i64 x.rc.id, .int .i64 x.rc.ep, .int .i64 x.rc.st, .int .i64 x.rc.aw, .int .i64 x.rc.al, .int .i64 x.rc.bw, .int .i64 x.rc.bl, .slice a_or x.rc.ws.length c_or] 48 ∧ e 1 = .pointer (some ⟨k1, 0, none⟩) ∧ e 3 = .bool (nmB x.ti && nmB x.te && decide (0 ≤ x.er) && decide (x.er ≤ 999) && decide (x.ps.length ≤ 50)) ∧ e 4 = .bool (stB2 (x.aw, x.al) && stB2 (x.sw, x.sl)) ∧ True) ?_ ?_
 ·
  refine V.region ?_
  refine V.ru 1 ?_
  refine V.loadO T_ok Fk2 rfl rfl rfl rfl rfl ?_
  refine V.call (right_spec (a := x.aw) (b := x.al)) rfl rfl rfl ?_
  rintro _ w15 ⟨rfl, G16⟩
  have z17 := V.Fr.size G16
  refine V.ru 1 ?_
  refine V.split (j := 3) (t := 35) rfl rfl (fun g2_3 => ?_) (fun g2_3 => ?_)
  ·
   try replace g2_3 := V.dec g2_3
   try simp only [V.mk] at g2_3
   refine V.ru 2 ?_
   refine V.yes rfl rfl rfl ?_
   replace Fk2 := Fk2.gr G16
   refine V.loadO T_ok Fk2 rfl rfl rfl rfl rfl ?_
   refine V.yes rfl rfl rfl ?_
   refine V.call (right_spec (a := x.sw) (b := x.sl)) rfl rfl rfl ?_
   rintro _ w18 ⟨rfl, G19⟩
   have z20 := V.Fr.size G19
   refine V.ru 2 ?_
   refine V.nt ?_
   replace F_op := F_op.gr (G16.trans G19)
   replace F_or := F_or.gr (G16.trans G19)
   replace Fk2 := Fk2.gr G19
   replace HG := HG.grow (G16.trans G19)
   exact ⟨HG, (by omega), F_op, F_or, Fk2, rfl, rfl, (congrArg Value.bool (by first | rfl | (unfold stB2; grind))), trivial⟩
  ·
   try replace g2_3 := V.dec g2_3
   try simp only [V.mk] at g2_3
   refine V.ru 6 ?_
   refine V.nt ?_
   replace F_op := F_op.gr G16
   replace F_or := F_or.gr G16
   replace Fk2 := Fk2.gr G16
   replace HG := HG.grow G16
   exact ⟨HG, (by omega), F_op, F_or, Fk2, rfl, rfl, (congrArg Value.bool (by first | rfl | (unfold stB2; grind))), trivial⟩
 clear HG F_op F_or Fk2
 rintro e v14 ⟨HG, z21, F_op, F_or, Fk2, hjn13_1, hjn13_3, hjn13_4, -⟩
 refine V.knownC (t := 1) hjn13_1 ?_
 refine V.knownC (t := 3) hjn13_3 ?_
 refine V.knownC (t := 4) hjn13_4 ?_
 refine V.seqJ (fun e v23 => Fr [] w v23 ∧ v14.heap.size ≤ v23.heap.size ∧ Sl (V.Cod.pair V.Cod.str V.Cod.str) v23 D_op a_op c_op x.ps ∧ Sl V.Cod.write v23 D_or a_or c_or x.rc.ws ∧ Cells v23 k1 [.int .i64 x.er, .int .i64 x.aw, .int .i64 x.al, .slice a_op x.ps.length c_op, .bool x.fo, .int .i64 x.ti, .int .i64 x.te, .string x.an, .int .i64 x.sw, .int .i64 x.sl, .int .i64 x.rc.id, .int .i64 x.rc.ep, .int .i64 x.rc.st, .int .i64 x.rc.aw, .int .i64 x.rc.al, .int .i64 x.rc.bw, .int .i64 x.rc.bl, .slice a_or x.rc.ws.length c_or] 48 ∧ e 1 = .pointer (some ⟨k1, 0, none⟩) ∧ e 3 = .bool (nmB x.ti && nmB x.te && decide (0 ≤ x.er) && decide (x.er ≤ 999) && decide (x.ps.length ≤ 50)) ∧ e 4 = .bool (stB2 (x.aw, x.al) && stB2 (x.sw, x.sl)) ∧ e 5 = .bool (decide (x.an = S []) || isKey x.an) ∧ True) ?_ ?_
 ·
  refine V.region ?_
  refine V.ru 2 ?_
  refine V.loadO T_ok Fk2 rfl rfl rfl rfl rfl ?_
  refine V.ru 2 ?_
  refine V.split (j := 4) (t := 45) rfl rfl (fun g3_4 => ?_) (fun g3_4 => ?_)
  ·
   try replace g3_4 := V.dec g3_4
   try simp only [V.mk] at g3_4
   refine V.ru 6 ?_
   refine V.nt ?_
   exact ⟨HG, (by omega), F_op, F_or, Fk2, rfl, rfl, rfl, (congrArg Value.bool (by first | rfl | ((have e1 : ByteArray.empty = S [] := rfl); (have e2 : (⟨#[]⟩ : ByteArray) = S [] := rfl); (try simp only [e1] at *); (try simp only [e2] at *); grind))), trivial⟩
  ·
   try replace g3_4 := V.dec g3_4
   try simp only [V.mk] at g3_4
   refine V.ru 2 ?_
   refine V.yes rfl rfl rfl ?_
   refine V.loadO T_ok Fk2 rfl rfl rfl rfl rfl ?_
   refine V.yes rfl rfl rfl ?_
   refine V.call (key_spec (s := x.an) (by first | omega | decide | (simp only [V.S_size, List.length_cons, List.length_nil]; omega))) rfl rfl rfl ?_
   rintro _ v14_ ⟨rfl, rfl⟩
   refine V.ru 2 ?_
   refine V.nt ?_
   exact ⟨HG, (by omega), F_op, F_or, Fk2, rfl, rfl, rfl, (congrArg Value.bool (by first | rfl | ((have e1 : ByteArray.empty = S [] := rfl); (have e2 : (⟨#[]⟩ : ByteArray) = S [] := rfl); (try simp only [e1] at *); (try simp only [e2] at *); grind))), trivial⟩
 clear HG F_op F_or Fk2
 rintro e v23 ⟨HG, z25, F_op, F_or, Fk2, hjn22_1, hjn22_3, hjn22_4, hjn22_5, -⟩
 refine V.knownC (t := 1) hjn22_1 ?_
 refine V.knownC (t := 3) hjn22_3 ?_
 refine V.knownC (t := 4) hjn22_4 ?_
 refine V.knownC (t := 5) hjn22_5 ?_
 refine V.sr ?_
 refine V.ru 2 ?_
 refine V.andG T_ok 1 1 52 rfl rfl rfl rfl rfl rfl rfl rfl ?_
 refine V.ru 1 ?_
 refine V.andG T_ok 1 4 55 rfl rfl rfl rfl rfl rfl rfl rfl ?_
 refine V.ru 1 ?_
 refine V.split (j := 7) (t := 58) rfl rfl (fun g4_7 => ?_) (fun g4_7 => ?_)
 ·
  try replace g4_7 := V.dec g4_7
  try simp only [V.mk] at g4_7
  refine V.ru 1 ?_
  refine V.yes rfl rfl rfl ?_
  refine V.loadO T_ok Fk2 rfl rfl rfl rfl rfl ?_
  refine V.yes rfl rfl rfl ?_
  refine V.call (recR_spec (d := x.rc) F_or (fun k hk => by have := hD_or k hk; omega) (by first | assumption | (unfold keysOk; decide))) rfl rfl rfl ?_
  rintro _ w26 ⟨rfl, G27⟩
  have z28 := V.Fr.size G27
  refine V.ru 2 ?_
  refine V.split (j := 12) (t := 63) rfl rfl (fun g4_12 => ?_) (fun g4_12 => ?_)
  ·
   try replace g4_12 := V.dec g4_12
   try simp only [V.mk] at g4_12
   refine V.ru 1 ?_
   refine V.yes rfl rfl rfl ?_
   replace Fk2 := Fk2.gr G27
   refine V.loadO T_ok Fk2 rfl rfl rfl rfl rfl ?_
   refine V.yes rfl rfl rfl ?_
   replace F_op := F_op.gr G27
   refine V.call (cfn_spec F_op (by first | (with_reducible assumption) | exact hz | exact hz.ps)) rfl rfl rfl ?_
   rintro _ w29 ⟨rfl, G30⟩
   have z31 := V.Fr.size G30
   refine V.ru 3 ?_
   refine V.nt ?_
   refine V.ret ?_
   refine V.done rfl ?_
   replace HG := HG.grow (G27.trans G30)
   exact ⟨(congrArg Value.bool (by first | rfl | (unfold resB; rw [all_any]; grind))), HG⟩
  ·
   try replace g4_12 := V.dec g4_12
   try simp only [V.mk] at g4_12
   refine V.ru 6 ?_
   refine V.nt ?_
   refine V.ret ?_
   refine V.done rfl ?_
   replace HG := HG.grow G27
   exact ⟨(congrArg Value.bool (by first | rfl | (unfold resB; rw [all_any]; grind))), HG⟩
 ·
  try replace g4_7 := V.dec g4_7
  try simp only [V.mk] at g4_7
  refine V.ru 11 ?_
  refine V.nt ?_
  refine V.ret ?_
  refine V.done rfl ?_
  exact ⟨(congrArg Value.bool (by first | rfl | (unfold resB; rw [all_any]; grind))), HG⟩

set_option maxHeartbeats 900000 in
set_option maxRecDepth 10000 in
theorem equalP_spec {w : World}  {D_xs : Nat → Prop} {c_xs : Nat} {a_xs : Option Addr} {xs : List (ByteArray × ByteArray)} (F_xs : Sl (V.Cod.pair V.Cod.str V.Cod.str) w D_xs a_xs c_xs xs) {D_ys : Nat → Prop} {c_ys : Nat} {a_ys : Option Addr} {ys : List (ByteArray × ByteArray)} (F_ys : Sl (V.Cod.pair V.Cod.str V.Cod.str) w D_ys a_ys c_ys ys)  :
    Meets Tryz.prog 82 [.slice a_xs xs.length c_xs, .slice a_ys ys.length c_ys] w fun r w' => r = .bool (decide (xs = ys)) ∧ Gr w w' := by
 have HG := V.Fr.refl [] w
 refine V.enter (n := 26) Tryz.func82 rfl rfl (by decide) rfl ?_
 refine V.sr ?_
 refine V.ru 1 ?_
 refine V.nt ?_
 refine V.seq ?_
 refine V.sr ?_
 refine V.ru 5 ?_
 refine V.nt ?_
 refine V.condT rfl (fun h1 => ?_) (fun h1 => ?_)
 ·
  try replace h1 := V.dec h1
  try simp only [V.mk] at h1
  refine V.sr ?_
  refine V.ru 1 ?_
  refine V.nt ?_
  refine V.ret ?_
  refine V.tR ?_
  refine V.done rfl ?_
  exact ⟨congrArg Value.bool (decide_eq_false (fun h => h1 (by rw [h]))).symm, HG⟩
 ·
  try replace h1 := V.dec h1
  try simp only [V.mk] at h1
  refine V.skip ?_
  refine V.tN ?_
  refine V.seq ?_
  refine V.sr ?_
  refine V.ru 3 ?_
  refine V.nt ?_
  refine V.block ?_
  have hl63 := F_xs.len63
  refine V.loopM (fun m e v2 => Fr [] w v2 ∧ w.heap.size ≤ v2.heap.size ∧ Sl (V.Cod.pair V.Cod.str V.Cod.str) v2 D_xs a_xs c_xs xs ∧ Sl (V.Cod.pair V.Cod.str V.Cod.str) v2 D_ys a_ys c_ys ys ∧ ∃ (i : Nat) , m = xs.length - i ∧ i ≤ xs.length ∧ (∀ j (hj : j < xs.length) (hj2 : j < ys.length), j < i → xs[j] = ys[j]) ∧ e 0 = .slice a_xs xs.length c_xs ∧ e 1 = .slice a_ys ys.length c_ys ∧ e 12 = .int .i64 (xs.length : Int) ∧ e 13 = .int .i64 (i : Int)) ?_ ?_
  ·
   exact ⟨_, HG, (by omega), F_xs, F_ys, (0), rfl, (by omega), (fun j hj hj2 h => absurd h (Nat.not_lt_zero _)), rfl, rfl, rfl, rfl⟩
  clear HG F_xs F_ys
  rintro _ e v2 ⟨HG, z3, F_xs, F_ys, i, rfl, hi, hno, he0_0, he0_1, he0_12, he0_13⟩
  refine V.knownC (t := 0) he0_0 ?_
  refine V.knownC (t := 1) he0_1 ?_
  refine V.knownC (t := 12) he0_12 ?_
  refine V.knownC (t := 13) he0_13 ?_
  refine V.sr ?_
  refine V.ru 1 ?_
  refine V.nt ?_
  refine V.seq ?_
  refine V.condT rfl (fun h4 => ?_) (fun h4 => ?_)
  ·
   try replace h4 := V.dec h4
   try simp only [V.mk] at h4
   refine V.skip ?_
   refine V.tN ?_
   refine V.seq ?_
   refine V.block ?_
   refine V.sr ?_
   refine V.ru 2 ?_
   refine V.nt ?_
   refine V.seq ?_
   refine V.drawQ mixed (by kernel_rfl) ?_
   refine V.qrun T_ok 2 rfl ?_
   refine V.qelem T_ok F_xs rfl rfl sz76 rfl rfl rfl rfl V.lenA V.lenA ?_
   rintro b4 o5 cs6 hx7 hb8 hR11 hA9
   obtain ⟨x10, hx10⟩ : ∃ z', xs[((i : Int)).toNat] = z' := ⟨_, rfl⟩
   rw [hx10] at hR11
   obtain ⟨_, _, rfl, rfl, rfl⟩ := hR11
   try simp only [Int.toNat_natCast] at hx10 hx7
   refine V.qloadA T_ok (o0 := o5) (off := 0) hA9 rfl rfl rfl rfl rfl ?_
   refine V.qrun T_ok 2 rfl ?_
   refine V.qelem T_ok F_ys rfl rfl sz76 rfl rfl rfl rfl V.lenA V.lenA ?_
   rintro b12 o13 cs14 hx15 hb16 hR19 hA17
   obtain ⟨x18, hx18⟩ : ∃ z', ys[((i : Int)).toNat] = z' := ⟨_, rfl⟩
   rw [hx18] at hR19
   obtain ⟨_, _, rfl, rfl, rfl⟩ := hR19
   try simp only [Int.toNat_natCast] at hx18 hx15
   refine V.qloadA T_ok (o0 := o13) (off := 0) hA17 rfl rfl rfl rfl rfl ?_
   refine V.qstep rfl rfl (fun _ _ => V.neA_run rfl rfl rfl eqG76 (eqS76 _)) ?_
   refine V.qnil ?_
   rintro w20 G21
   have z22 := V.Fr.size G21
   refine V.tN ?_
   refine V.condT rfl (fun h6 => ?_) (fun h6 => ?_)
   ·
    try replace h6 := V.dec h6
    try simp only [V.mk] at h6
    refine V.sr ?_
    refine V.ru 1 ?_
    refine V.nt ?_
    refine V.ret ?_
    refine V.bR ?_
    refine V.tR ?_
    refine V.tR ?_
    refine V.bR ?_
    refine V.tR ?_
    refine V.done rfl ?_
    replace HG := HG.grow G21
    exact ⟨congrArg Value.bool (decide_eq_false (fun h => by subst h; subst_vars; simp at h6)).symm, HG⟩
   ·
    try replace h6 := V.dec h6
    try simp only [V.mk] at h6
    refine V.skip ?_
    refine V.bN ?_
    refine V.tN ?_
    refine V.region ?_
    refine V.addN rfl rfl rfl rfl rfl V.lenA V.lenA ?_
    refine V.ru 1 ?_
    refine V.nt ?_
    replace F_xs := F_xs.gr G21
    replace F_ys := F_ys.gr G21
    replace HG := HG.grow G21
    exact ⟨_, (by omega), HG, (by omega), F_xs, F_ys, (i + 1), rfl, (by omega), (fun j hj hj2 h => by rcases Nat.lt_or_ge j i with h2 | h2; exact hno j hj hj2 h2; obtain rfl : j = i := (by omega); subst_vars; grind), rfl, rfl, rfl, rfl⟩
  ·
   try replace h4 := V.dec h4
   try simp only [V.mk] at h4
   refine V.exit ?_
   refine V.tX ?_
   refine V.tX ?_
   refine V.bE ?_
   refine V.tN ?_
   refine V.sr ?_
   refine V.ru 1 ?_
   refine V.nt ?_
   refine V.ret ?_
   refine V.done rfl ?_
   exact ⟨congrArg Value.bool (decide_eq_true (List.ext_getElem (by omega) fun j h1 h2 => hno j h1 h2 (by omega))).symm, HG⟩

set_option maxHeartbeats 900000 in
set_option maxRecDepth 10000 in
theorem sameres_spec {w : World} {a : ResV} {D_op : Nat → Prop} {c_op : Nat} {a_op : Option Addr} (F_op : Sl (V.Cod.pair V.Cod.str V.Cod.str) w D_op a_op c_op a.ps) (hD_op : ∀ k, D_op k → k < w.heap.size) {D_or : Nat → Prop} {c_or : Nat} {a_or : Option Addr} (F_or : Sl V.Cod.write w D_or a_or c_or a.rc.ws) (hD_or : ∀ k, D_or k → k < w.heap.size) {b : ResV} {D_qp : Nat → Prop} {c_qp : Nat} {a_qp : Option Addr} (F_qp : Sl (V.Cod.pair V.Cod.str V.Cod.str) w D_qp a_qp c_qp b.ps) (hD_qp : ∀ k, D_qp k → k < w.heap.size) {D_qr : Nat → Prop} {c_qr : Nat} {a_qr : Option Addr} (F_qr : Sl V.Cod.write w D_qr a_qr c_qr b.rc.ws) (hD_qr : ∀ k, D_qr k → k < w.heap.size)   :
    Meets Tryz.prog 44 [.agg #[.int .i64 a.er, .int .i64 a.aw, .int .i64 a.al, .slice a_op a.ps.length c_op, .bool a.fo, .int .i64 a.ti, .int .i64 a.te, .string a.an, .int .i64 a.sw, .int .i64 a.sl, .int .i64 a.rc.id, .int .i64 a.rc.ep, .int .i64 a.rc.st, .int .i64 a.rc.aw, .int .i64 a.rc.al, .int .i64 a.rc.bw, .int .i64 a.rc.bl, .slice a_or a.rc.ws.length c_or], .agg #[.int .i64 b.er, .int .i64 b.aw, .int .i64 b.al, .slice a_qp b.ps.length c_qp, .bool b.fo, .int .i64 b.ti, .int .i64 b.te, .string b.an, .int .i64 b.sw, .int .i64 b.sl, .int .i64 b.rc.id, .int .i64 b.rc.ep, .int .i64 b.rc.st, .int .i64 b.rc.aw, .int .i64 b.rc.al, .int .i64 b.rc.bw, .int .i64 b.rc.bl, .slice a_qr b.rc.ws.length c_qr]] w fun r w' => r = .bool (smR a b) ∧ Gr w w' := by
 have HG := V.Fr.refl [] w
 refine V.enter (n := 45) Tryz.func44 rfl rfl (by decide) rfl ?_
 refine V.sr ?_
 refine V.box rfl rfl rfl rfl ?_
 rintro k1 w3 s5 s6 G4 Fk2
 have z7 := V.Fr.size G4
 try simp only [V.cellsL, V.spliceL] at Fk2
 refine V.box rfl rfl rfl rfl ?_
 rintro k8 w10 s12 s13 G11 Fk9
 have z14 := V.Fr.size G11
 try simp only [V.cellsL, V.spliceL] at Fk9
 refine V.ru 1 ?_
 refine V.nt ?_
 refine V.sr ?_
 refine V.ru 1 ?_
 replace Fk2 := Fk2.gr G11
 refine V.loadO T_ok Fk2 rfl rfl rfl rfl rfl ?_
 refine V.ru 1 ?_
 refine V.loadO T_ok Fk9 rfl rfl rfl rfl rfl ?_
 refine V.ru 2 ?_
 refine V.split (j := 5) (t := 10) rfl rfl (fun g1_5 => ?_) (fun g1_5 => ?_)
 ·
  try replace g1_5 := V.dec g1_5
  try simp only [V.mk] at g1_5
  refine V.ru 1 ?_
  refine V.yes rfl rfl rfl ?_
  refine V.loadO T_ok Fk2 rfl rfl rfl rfl rfl ?_
  refine V.ru 1 ?_
  refine V.yes rfl rfl rfl ?_
  refine V.loadO T_ok Fk9 rfl rfl rfl rfl rfl ?_
  refine V.yes rfl rfl rfl ?_
  refine V.step rfl rfl (V.eqA_run rfl rfl rfl eqG33 (eqS33 _)) ?_
  refine V.ru 2 ?_
  refine V.split (j := 12) (t := 17) rfl rfl (fun g1_12 => ?_) (fun g1_12 => ?_)
  ·
   try replace g1_12 := V.dec g1_12
   try simp only [V.mk] at g1_12
   refine V.ru 1 ?_
   refine V.yes rfl rfl rfl ?_
   refine V.loadO T_ok Fk2 rfl rfl rfl rfl rfl ?_
   refine V.ru 1 ?_
   refine V.yes rfl rfl rfl ?_
   refine V.loadO T_ok Fk9 rfl rfl rfl rfl rfl ?_
   refine V.ru 3 ?_
   refine V.split (j := 19) (t := 24) rfl rfl (fun g1_19 => ?_) (fun g1_19 => ?_)
   ·
    try replace g1_19 := V.dec g1_19
    try simp only [V.mk] at g1_19
    refine V.ru 1 ?_
    refine V.yes rfl rfl rfl ?_
    refine V.loadO T_ok Fk2 rfl rfl rfl rfl rfl ?_
    refine V.ru 1 ?_
    refine V.yes rfl rfl rfl ?_
    refine V.loadO T_ok Fk9 rfl rfl rfl rfl rfl ?_
    refine V.yes rfl rfl rfl ?_
    refine V.step rfl rfl (V.eqA_run rfl rfl rfl eqG36 (eqS36 _)) ?_
    refine V.ru 2 ?_
    refine V.split (j := 26) (t := 31) rfl rfl (fun g1_26 => ?_) (fun g1_26 => ?_)
    ·
     try replace g1_26 := V.dec g1_26
     try simp only [V.mk] at g1_26
     refine V.ru 1 ?_
     refine V.yes rfl rfl rfl ?_
     refine V.loadO T_ok Fk2 rfl rfl rfl rfl rfl ?_
     refine V.ru 1 ?_
     refine V.yes rfl rfl rfl ?_
     refine V.loadO T_ok Fk9 rfl rfl rfl rfl rfl ?_
     refine V.yes rfl rfl rfl ?_
     replace F_op := F_op.gr (G4.trans G11)
     replace F_qp := F_qp.gr (G4.trans G11)
     refine V.call (equalP_spec F_op F_qp) rfl rfl rfl ?_
     rintro _ w15 ⟨rfl, G16⟩
     have z17 := V.Fr.size G16
     refine V.ru 2 ?_
     refine V.split (j := 33) (t := 38) rfl rfl (fun g1_33 => ?_) (fun g1_33 => ?_)
     ·
      try replace g1_33 := V.dec g1_33
      try simp only [V.mk] at g1_33
      refine V.ru 1 ?_
      refine V.yes rfl rfl rfl ?_
      replace Fk2 := Fk2.gr G16
      refine V.loadO T_ok Fk2 rfl rfl rfl rfl rfl ?_
      refine V.ru 1 ?_
      refine V.yes rfl rfl rfl ?_
      replace Fk9 := Fk9.gr G16
      refine V.loadO T_ok Fk9 rfl rfl rfl rfl rfl ?_
      refine V.yes rfl rfl rfl ?_
      replace F_or := F_or.gr (G4.trans (G11.trans G16))
      replace F_qr := F_qr.gr (G4.trans (G11.trans G16))
      refine V.call (same_spec (d := a.rc) (x := b.rc) F_or (fun k hk => by have := hD_or k hk; omega) F_qr (fun k hk => by have := hD_qr k hk; omega)) rfl rfl rfl ?_
      rintro _ w15_ ⟨rfl, G19⟩
      have z20 := V.Fr.size G19
      refine V.ru 2 ?_
      refine V.nt ?_
      refine V.ret ?_
      refine V.done rfl ?_
      replace HG := HG.grow (G4.trans (G11.trans (G16.trans G19)))
      exact ⟨(congrArg Value.bool (by first | rfl | (unfold smR; grind))), HG⟩
     ·
      try replace g1_33 := V.dec g1_33
      try simp only [V.mk] at g1_33
      refine V.ru 7 ?_
      refine V.nt ?_
      refine V.ret ?_
      refine V.done rfl ?_
      replace HG := HG.grow (G4.trans (G11.trans G16))
      exact ⟨(congrArg Value.bool (by first | rfl | (unfold smR; grind))), HG⟩
    ·
     try replace g1_26 := V.dec g1_26
     try simp only [V.mk] at g1_26
     refine V.ru 14 ?_
     refine V.nt ?_
     refine V.ret ?_
     refine V.done rfl ?_
     replace HG := HG.grow (G4.trans G11)
     exact ⟨(congrArg Value.bool (by first | rfl | (unfold smR; grind))), HG⟩
   ·
    try replace g1_19 := V.dec g1_19
    try simp only [V.mk] at g1_19
    refine V.ru 21 ?_
    refine V.nt ?_
    refine V.ret ?_
    refine V.done rfl ?_
    replace HG := HG.grow (G4.trans G11)
    exact ⟨(congrArg Value.bool (by first | rfl | (unfold smR; grind))), HG⟩
  ·
   try replace g1_12 := V.dec g1_12
   try simp only [V.mk] at g1_12
   refine V.ru 28 ?_
   refine V.nt ?_
   refine V.ret ?_
   refine V.done rfl ?_
   replace HG := HG.grow (G4.trans G11)
   exact ⟨(congrArg Value.bool (by first | rfl | (unfold smR; grind))), HG⟩
 ·
  try replace g1_5 := V.dec g1_5
  try simp only [V.mk] at g1_5
  refine V.ru 35 ?_
  refine V.nt ?_
  refine V.ret ?_
  refine V.done rfl ?_
  replace HG := HG.grow (G4.trans G11)
  exact ⟨(congrArg Value.bool (by first | rfl | (unfold smR; grind))), HG⟩

end Go.Proofs.YtmmgmkklakkooaaGreat
