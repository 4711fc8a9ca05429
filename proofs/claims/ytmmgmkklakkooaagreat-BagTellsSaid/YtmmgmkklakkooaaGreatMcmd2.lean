/- Proved here: walks: what functions of this seat's program return and what they leave of memory, each as a contract. Conditions: stated at each theorem. -/
import Derived.Test.YtmmgmkklakkooaaGreatMcmd
namespace Go.Proofs.YtmmgmkklakkooaaGreat
set_option linter.unusedVariables false
set_option linter.unusedSimpArgs false
open Go
open V (Bytes Meets Env Sl Own Gr Fr Cells S)
theorem eqG38 : Tryz.prog.eqGuardType Tryz.prog.depth 38 = false := by kernel_rfl
theorem eqD38 (d : Nat) (w : World) {x0 y0 : ByteArray} {x1 y1 : ByteArray} : (Op.equalIn (d + 2) 38 (.agg #[.string x0, .string x1]) (.agg #[.string y0, .string y1])).run Tryz.prog w = .ok ((decide (x0 = y0)) && ((decide (x1 = y1)) && (true))) w :=
  V.eqIn_struct _ Tryz.underlying38 (by kernel_rfl) (V.eqF_cons (agg := false) (by decide) sz9 (by kernel_rfl) (by kernel_rfl) rfl rfl (V.eqIn_str _ Tryz.underlying9) (V.eqF_cons (agg := false) (by decide) sz9 (by kernel_rfl) (by kernel_rfl) rfl rfl (V.eqIn_str _ Tryz.underlying9) V.eqF_nil))
theorem eqS38 (w : World) {x0 y0 : ByteArray} {x1 y1 : ByteArray} : (Op.equalIn 10000 38 (.agg #[.string x0, .string x1]) (.agg #[.string y0, .string y1])).run Tryz.prog w = .ok ((decide (x0 = y0)) && ((decide (x1 = y1)) && (true))) w := eqD38 9998 w

/-- a command -/
structure CmdV where
  kd : Int
  id : Int
  le : Int
  nd : Int
  ti : Int
  te : Int
  an : ByteArray
  sw : Int
  sl : Int
  sq : Int
  fr : ByteArray
  to : ByteArray
  va : ByteArray
  go : Bool
  aw : Int
  al : Int
  lw : Int
  ll : Int
  cm : Bool
  st : Bool
  ws : List (ByteArray × Int)
  pr : Int
def nmB (n : Int) : Bool := decide (0 ≤ n ∧ n ≤ 1099511627776)
def stB2 (x : Int × Int) : Bool := decide (0 ≤ x.1 ∧ x.1 ≤ 1099511627776 ∧ 0 ≤ x.2 ∧ x.2 ≤ 65535)
def wkB (x : ByteArray × Int) : Bool := isKey x.1 && nmB x.2
def valB (v : ByteArray) (gone : Bool) : Bool := okB v.data.toList && decide (v.size ≤ 16) && (!gone || decide (v = S []))
def numsL (d : CmdV) : List Int := [d.id, d.le, d.sq, d.pr, d.ti, d.te]
def stsL (d : CmdV) : List (Int × Int) := [(d.sw, d.sl), (d.aw, d.al), (d.lw, d.ll)]
def fldB (d : CmdV) : Bool := (numsL d).all nmB && (stsL d).all stB2 && d.ws.all wkB && (decide (d.an = S []) || isKey d.an) && ((decide (d.fr = S []) && decide (d.to = S [])) || rightB d.fr d.to) && valB d.va d.go && decide (0 ≤ d.nd ∧ d.nd < 3) && decide (d.ws.length ≤ 8)
structure SzOk (d : CmdV) : Prop where
  an : d.an.size ≤ 9223372036854775807
  fr : d.fr.size ≤ 9223372036854775807
  to : d.to.size ≤ 9223372036854775807
  va : d.va.size ≤ 9223372036854775807
  ws : ∀ x ∈ d.ws, x.1.size ≤ 9223372036854775807
theorem all_succ {α : Type} {p : α → Bool} {l : List α} {i : Nat} {x : α} (h : (l.take i).all p = true) (hi : i < l.length) (hx : l[i] = x) (hp : p x = true) : (l.take (i + 1)).all p = true := by
  subst hx; rw [List.take_succ_eq_append_getElem hi, List.all_append, h]; simp [hp]
theorem all_bad {α : Type} {p : α → Bool} {l : List α} {i : Nat} {x : α} (hi : i < l.length) (hx : l[i] = x) (hp : p x = false) : l.all p = false := by
  subst hx; rw [List.all_eq_false]; exact ⟨_, List.getElem_mem hi, by simp [hp]⟩
theorem all_full {α : Type} {p : α → Bool} {l : List α} {i : Nat} (h : (l.take i).all p = true) (hi : l.length ≤ i) : l.all p = true := by rwa [List.take_of_length_le hi] at h
/-- what a command of a kind must have: a span, one key, an anchor, writes; is there such a kind? -/
def nS (k : Int) : Bool := decide (k = 2 ∨ k = 10 ∨ k = 4 ∨ k = 3 ∨ k = 9)
def nO (k : Int) : Bool := decide (k = 3 ∨ k = 9)
def nA (k : Int) : Bool := decide (k = 3 ∨ k = 9 ∨ k = 5 ∨ k = 7 ∨ k = 8 ∨ k = 6)
def nW (k : Int) : Bool := decide (k = 6)
def nK (k : Int) : Bool := decide (0 ≤ k ∧ k ≤ 10)
def b4 (a b c d : Bool) : Value := .agg #[.bool a, .bool b, .bool c, .bool d]
def kindsM : List (Int × Value) := [(0, b4 false false false false), (1, b4 false false false false), (2, b4 true false false false), (10, b4 true false false false), (4, b4 true false false false), (3, b4 true true true false), (9, b4 true true true false), (5, b4 false false true false), (7, b4 false false true false), (8, b4 false false true false), (6, b4 false false true true)]
theorem look_kinds (k : Int) : V.lookV true (V.mfind kindsM k) (.agg #[.bool false, .bool false, .bool false, .bool false]) = .tuple #[.agg #[.bool (nS k), .bool (nO k), .bool (nA k), .bool (nW k)], .bool (nK k)] := by
  by_cases h : 0 ≤ k ∧ k ≤ 10
  · have : k = 0 ∨ k = 1 ∨ k = 2 ∨ k = 3 ∨ k = 4 ∨ k = 5 ∨ k = 6 ∨ k = 7 ∨ k = 8 ∨ k = 9 ∨ k = 10 := by omega
    rcases this with rfl | rfl | rfl | rfl | rfl | rfl | rfl | rfl | rfl | rfl | rfl <;> rfl
  · have e : V.mfind kindsM k = none := by
      unfold V.mfind kindsM V.mfindI
      simp only [V.mfindI]
      rw [if_neg (by omega), if_neg (by omega), if_neg (by omega), if_neg (by omega), if_neg (by omega), if_neg (by omega), if_neg (by omega), if_neg (by omega), if_neg (by omega), if_neg (by omega), if_neg (by omega)]; rfl
    rw [e]
    have h1 : nS k = false := by unfold nS; rw [decide_eq_false_iff_not]; omega
    have h2 : nO k = false := by unfold nO; rw [decide_eq_false_iff_not]; omega
    have h3 : nA k = false := by unfold nA; rw [decide_eq_false_iff_not]; omega
    have h4 : nW k = false := by unfold nW; rw [decide_eq_false_iff_not]; omega
    have h5 : nK k = false := by unfold nK; rw [decide_eq_false_iff_not]; omega
    rw [h1, h2, h3, h4, h5]; rfl
def wsM (ws : List (ByteArray × Int)) : List (ByteArray × Value) := ws.foldl (fun m x => V.mput m x.1 (.agg #[])) []
def cmdB (d : CmdV) : Bool := nK d.kd && fldB d && !(nS d.kd && decide (d.fr = S [])) && !(nO d.kd && !decide (d.to = S [])) && !(nA d.kd && decide (d.an = S [])) && !(nW d.kd && (decide (d.ws.length = 0) || !decide ((d.ws.map (·.1)).Nodup)))
theorem wsM_len : ∀ (ws : List (ByteArray × Int)) (acc : List (ByteArray × Value)), (ws.foldl (fun m x => V.mput m x.1 (.agg #[])) acc).length ≤ acc.length + ws.length ∧
    ((ws.foldl (fun m x => V.mput m x.1 (.agg #[])) acc).length = acc.length + ws.length ↔ (ws.map (·.1)).Nodup ∧ ∀ k ∈ ws.map (·.1), k ∉ acc.map (·.1))
  | [], acc => by simp
  | x :: ws, acc => by
    obtain ⟨h1, h2⟩ := wsM_len ws (V.mput acc x.1 (.agg #[]))
    have hk := mput_keys (l := acc) (k := x.1) (u := .agg #[])
    have hl : (V.mput acc x.1 (.agg #[])).length = if x.1 ∈ acc.map (·.1) then acc.length else acc.length + 1 := by
      have := congrArg List.length hk
      rw [List.length_map] at this
      by_cases hm : x.1 ∈ acc.map (·.1)
      · rw [if_pos hm] at this ⊢; rw [this, List.length_map]
      · rw [if_neg hm] at this ⊢; rw [this, List.length_append, List.length_map]; rfl
    simp only [List.foldl_cons, List.length_cons, List.map_cons, List.nodup_cons, List.mem_cons]
    by_cases hm : x.1 ∈ acc.map (·.1)
    · rw [if_pos hm] at hl hk
      refine ⟨by omega, ⟨fun h => by omega, fun h => absurd hm (h.2 x.1 (.inl rfl))⟩⟩
    · rw [if_neg hm] at hl hk
      refine ⟨by omega, ?_⟩
      rw [hl, hk] at h2
      rw [show acc.length + (ws.length + 1) = acc.length + 1 + ws.length by omega, h2]
      simp only [List.mem_append, List.mem_singleton, not_or]
      constructor
      · rintro ⟨h3, h4⟩
        refine ⟨⟨fun h5 => (h4 _ h5).2 rfl, h3⟩, ?_⟩
        rintro k (rfl | h5)
        · exact hm
        · exact (h4 k h5).1
      · rintro ⟨⟨h3, h4⟩, h5⟩
        exact ⟨h4, fun k hk => ⟨h5 k (.inr hk), fun h6 => h3 (h6 ▸ hk)⟩⟩
theorem wsM_nodup {ws : List (ByteArray × Int)} : ((wsM ws).length : Int) = (ws.length : Int) ↔ (ws.map (·.1)).Nodup := by
  have := (wsM_len ws []).2
  simp only [List.length_nil, Nat.zero_add, List.map_nil, List.not_mem_nil, not_false_eq_true, implies_true, and_true] at this
  rw [← this]; unfold wsM; omega
theorem wsM_succ {ws : List (ByteArray × Int)} {i : Nat} {x : ByteArray × Int} (hi : i < ws.length) (hx : ws[i] = x) : V.mput (wsM (ws.take i)) x.1 (.agg #[]) = wsM (ws.take (i + 1)) := by
  subst hx; unfold wsM; rw [List.take_succ_eq_append_getElem hi, List.foldl_append]; rfl

set_option maxHeartbeats 900000 in
set_option maxRecDepth 10000 in
theorem fields_spec {w : World} {d : CmdV} {D_o : Nat → Prop} {c_o : Nat} {a_o : Option Addr} (F_o : Sl V.Cod.write w D_o a_o c_o d.ws) (hD_o : ∀ k, D_o k → k < w.heap.size)  (hz : SzOk d) :
    Meets Tryz.prog 126 [.agg #[.int .i64 d.kd, .int .i64 d.id, .int .i64 d.le, .int .i64 d.nd, .int .i64 d.ti, .int .i64 d.te, .string d.an, .int .i64 d.sw, .int .i64 d.sl, .int .i64 d.sq, .string d.fr, .string d.to, .string d.va, .bool d.go, .int .i64 d.aw, .int .i64 d.al, .int .i64 d.lw, .int .i64 d.ll, .bool d.cm, .bool d.st, .slice a_o d.ws.length c_o, .int .i64 d.pr]] w fun r w' => r = .bool (fldB d) ∧ Gr w w' := by
 have hzan := hz.an
 have hzfr := hz.fr
 have hzto := hz.to
 have hzva := hz.va
 have HG := V.Fr.refl [] w
 refine V.enter (n := 116) Tryz.func126 rfl rfl (by decide) rfl ?_
 refine V.sr ?_
 refine V.box rfl rfl rfl rfl ?_
 rintro k1 w3 s5 s6 G4 Fk2
 have z7 := V.Fr.size G4
 try simp only [V.cellsL, V.spliceL] at Fk2
 refine V.ru 1 ?_
 refine V.nt ?_
 refine V.seq ?_
 refine V.sr ?_
 refine V.ru 1 ?_
 refine V.loadO T_ok Fk2 rfl rfl rfl rfl rfl ?_
 refine V.ru 1 ?_
 refine V.loadO T_ok Fk2 rfl rfl rfl rfl rfl ?_
 refine V.ru 1 ?_
 refine V.loadO T_ok Fk2 rfl rfl rfl rfl rfl ?_
 refine V.ru 1 ?_
 refine V.loadO T_ok Fk2 rfl rfl rfl rfl rfl ?_
 refine V.ru 2 ?_
 refine V.loadO T_ok Fk2 rfl rfl rfl rfl rfl ?_
 refine V.ru 2 ?_
 refine V.loadO T_ok Fk2 rfl rfl rfl rfl rfl ?_
 refine V.mkSlice T_ok zero3 rfl rfl sz3 rfl rfl rfl rfl rfl rfl ?_
 rintro k8 w11 s13 s14 G12 Fk9
 have z15 := V.Fr.size G12
 have F10 := V.rowOfI (q := .i64) (xs := ([d.id, d.le, d.sq, d.pr, d.ti, d.te] : List Int)) Fk9 rfl rfl
 clear Fk9
 refine V.ru 2 ?_
 refine V.nt ?_
 refine V.block ?_
 have hm25 : (([d.id, d.le, d.sq, d.pr, d.ti, d.te] : List Int)).length = 6 := rfl
 have hr16 : ([d.id, d.le, d.sq, d.pr, d.ti, d.te] : List Int) = numsL d := rfl
 rw [hr16] at F10
 clear hr16
 have hl25 : (numsL d).length = 6 := rfl
 replace F_o := F_o.gr (G4.trans G12)
 replace Fk2 := Fk2.gr G12
 replace HG := HG.grow (G4.trans G12)
 refine V.loopM (fun m e v18 => w11 = v18 ∧ ∃ (i : Nat) , m = (numsL d).length - i ∧ i ≤ (numsL d).length ∧ ((numsL d).take i).all nmB = true ∧ e 1 = .pointer (some ⟨k1, 0, none⟩) ∧ e 25 = .slice (some ⟨k8, 0, none⟩) 6 6 ∧ e 26 = .int .i64 (([d.id, d.le, d.sq, d.pr, d.ti, d.te] : List Int).length : Int) ∧ e 27 = .int .i64 (i : Int)) ?_ ?_
 ·
  exact ⟨_, rfl, (0), rfl, (Nat.zero_le _), ((by simp)), rfl, rfl, rfl, rfl⟩
 rintro _ e v18 ⟨rfl, i, rfl, hia, haa, he0_1, he0_25, he0_26, he0_27⟩
 refine V.knownC (t := 1) he0_1 ?_
 refine V.knownC (t := 25) he0_25 ?_
 refine V.knownC (t := 26) he0_26 ?_
 refine V.knownC (t := 27) he0_27 ?_
 refine V.sr ?_
 refine V.ru 1 ?_
 refine V.nt ?_
 refine V.seq ?_
 refine V.condT rfl (fun h2 => ?_) (fun h2 => ?_)
 ·
  try replace h2 := V.dec h2
  try simp only [V.mk] at h2
  refine V.skip ?_
  refine V.tN ?_
  refine V.seq ?_
  refine V.block ?_
  refine V.sr ?_
  refine V.elem T_ok F10.sl rfl rfl sz3 rfl rfl rfl rfl V.lenA V.lenA ?_
  rintro b19 o20 cs21 hx22 hb23 hR26 hA24
  obtain ⟨x25, hx25⟩ : ∃ z', (numsL d)[((i : Int)).toNat] = z' := ⟨_, rfl⟩
  rw [hx25] at hR26
  obtain rfl := hR26
  try simp only [Int.toNat_natCast] at hx25 hx22
  refine V.loadA T_ok (o0 := o20) (off := 0) hA24 rfl rfl rfl rfl rfl ?_
  refine V.ru 1 ?_
  refine V.nt ?_
  refine V.sr ?_
  refine V.ru 1 ?_
  refine V.call (cnumber_spec (n := x25)) rfl rfl rfl ?_
  rintro _ w11_ ⟨rfl, rfl⟩
  refine V.ru 1 ?_
  refine V.nt ?_
  refine V.condT rfl (fun h4 => ?_) (fun h4 => ?_)
  ·
   try replace h4 := V.dec h4
   try simp only [V.mk] at h4
   refine V.sr ?_
   refine V.ru 1 ?_
   refine V.nt ?_
   refine V.ret ?_
   refine V.bR ?_
   refine V.tR ?_
   refine V.tR ?_
   refine V.bR ?_
   refine V.tR ?_
   refine V.done rfl ?_
   rw [show fldB d = false by unfold fldB; rw [show (numsL d).all nmB = false from all_bad (i := i) (by omega) hx25 (by unfold nmB; rw [decide_eq_false_iff_not]; grind)]; simp]
   exact ⟨(congrArg Value.bool (by first | rfl | (unfold fldB; rw [all_full haa (by omega), all_full hab (by omega), all_full hac (by omega)]; unfold valB; (have e1 : ByteArray.empty = S [] := rfl); (try simp only [e1] at *); clear haa hab hac; grind))), HG⟩
  ·
   try replace h4 := V.dec h4
   try simp only [V.mk] at h4
   refine V.skip ?_
   refine V.bN ?_
   refine V.tN ?_
   refine V.region ?_
   refine V.addN rfl rfl rfl rfl rfl V.lenA V.lenA ?_
   refine V.ru 1 ?_
   refine V.nt ?_
   exact ⟨_, (by omega), rfl, (i + 1), rfl, (by omega), ((all_succ haa (by omega) hx25 (by unfold nmB; rw [decide_eq_true_eq]; grind))), rfl, rfl, rfl, rfl⟩
 ·
  try replace h2 := V.dec h2
  try simp only [V.mk] at h2
  refine V.exit ?_
  refine V.tX ?_
  refine V.tX ?_
  refine V.bE ?_
  refine V.tN ?_
  refine V.seq ?_
  refine V.sr ?_
  refine V.ru 2 ?_
  refine V.loadO T_ok Fk2 rfl rfl rfl rfl rfl ?_
  refine V.ru 1 ?_
  refine V.loadO T_ok Fk2 rfl rfl rfl rfl rfl ?_
  refine V.ru 1 ?_
  refine V.loadO T_ok Fk2 rfl rfl rfl rfl rfl ?_
  refine V.mkSlice T_ok zero33 rfl rfl sz33 rfl rfl rfl rfl rfl rfl ?_
  rintro k28 w31 s33 s34 G32 Fk29
  have z35 := V.Fr.size G32
  have F30 := V.rowOfC (xs := ([(d.sw, d.sl), (d.aw, d.al), (d.lw, d.ll)] : List (Int × Int))) Fk29 (C := (V.Cod.pair (V.Cod.int .i64) (V.Cod.int .i64))) (V.reps_cons (x := (d.sw, d.sl)) ⟨_, _, rfl, rfl, rfl⟩ (V.reps_cons (x := (d.aw, d.al)) ⟨_, _, rfl, rfl, rfl⟩ (V.reps_cons (x := (d.lw, d.ll)) ⟨_, _, rfl, rfl, rfl⟩ rfl rfl) rfl) rfl) rfl
  clear Fk29
  refine V.ru 2 ?_
  refine V.nt ?_
  refine V.block ?_
  have hm42 : (([(d.sw, d.sl), (d.aw, d.al), (d.lw, d.ll)] : List (Int × Int))).length = 3 := rfl
  have hr36 : ([(d.sw, d.sl), (d.aw, d.al), (d.lw, d.ll)] : List (Int × Int)) = stsL d := rfl
  rw [hr36] at F30
  clear hr36
  have hl42 : (stsL d).length = 3 := rfl
  replace F_o := F_o.gr G32
  replace Fk2 := Fk2.gr G32
  replace F10 := F10.gr G32
  replace HG := HG.grow G32
  refine V.loopM (fun m e v38 => Fr [] w v38 ∧ w31.heap.size ≤ v38.heap.size ∧ Sl V.Cod.write v38 D_o a_o c_o d.ws ∧ Cells v38 k1 [.int .i64 d.kd, .int .i64 d.id, .int .i64 d.le, .int .i64 d.nd, .int .i64 d.ti, .int .i64 d.te, .string d.an, .int .i64 d.sw, .int .i64 d.sl, .int .i64 d.sq, .string d.fr, .string d.to, .string d.va, .bool d.go, .int .i64 d.aw, .int .i64 d.al, .int .i64 d.lw, .int .i64 d.ll, .bool d.cm, .bool d.st, .slice a_o d.ws.length c_o, .int .i64 d.pr] 41 ∧ V.Row (V.Cod.int .i64) 3 v38 V.None' k8 (k8 + 1) (some ⟨k8, 0, none⟩) (([d.id, d.le, d.sq, d.pr, d.ti, d.te] : List Int).length) (numsL d) ∧ V.Row (V.Cod.pair (V.Cod.int .i64) (V.Cod.int .i64)) 33 v38 V.None' k28 (k28 + 1) (some ⟨k28, 0, none⟩) (([(d.sw, d.sl), (d.aw, d.al), (d.lw, d.ll)] : List (Int × Int)).length) (stsL d) ∧ ∃ (i : Nat) , m = (stsL d).length - i ∧ i ≤ (stsL d).length ∧ ((stsL d).take i).all stB2 = true ∧ e 1 = .pointer (some ⟨k1, 0, none⟩) ∧ e 42 = .slice (some ⟨k28, 0, none⟩) 3 3 ∧ e 43 = .int .i64 (([(d.sw, d.sl), (d.aw, d.al), (d.lw, d.ll)] : List (Int × Int)).length : Int) ∧ e 44 = .int .i64 (i : Int)) ?_ ?_
  ·
   exact ⟨_, HG, (by omega), F_o, Fk2, F10, F30, (0), rfl, (Nat.zero_le _), ((by simp)), rfl, rfl, rfl, rfl⟩
  clear HG F_o Fk2 F10 F30
  rintro _ e v38 ⟨HG, z39, F_o, Fk2, F10, F30, i, rfl, hib, hab, he1_1, he1_42, he1_43, he1_44⟩
  refine V.knownC (t := 1) he1_1 ?_
  refine V.knownC (t := 42) he1_42 ?_
  refine V.knownC (t := 43) he1_43 ?_
  refine V.knownC (t := 44) he1_44 ?_
  refine V.sr ?_
  refine V.ru 1 ?_
  refine V.nt ?_
  refine V.seq ?_
  refine V.condT rfl (fun h8 => ?_) (fun h8 => ?_)
  ·
   try replace h8 := V.dec h8
   try simp only [V.mk] at h8
   refine V.skip ?_
   refine V.tN ?_
   refine V.seq ?_
   refine V.block ?_
   refine V.sr ?_
   refine V.elem T_ok F30.sl rfl rfl sz33 rfl rfl rfl rfl V.lenA V.lenA ?_
   rintro b40 o41 cs42 hx43 hb44 hR47 hA45
   obtain ⟨x46, hx46⟩ : ∃ z', (stsL d)[((i : Int)).toNat] = z' := ⟨_, rfl⟩
   rw [hx46] at hR47
   obtain ⟨_, _, rfl, rfl, rfl⟩ := hR47
   try simp only [Int.toNat_natCast] at hx46 hx43
   refine V.loadA T_ok (o0 := o41) (off := 0) hA45 rfl rfl rfl rfl rfl ?_
   refine V.alloc zero33 rfl rfl rfl ?_
   rintro k48 w50 s52 s53 G51 Fk49
   have z54 := V.Fr.size G51
   try simp only [V.cellsL, V.spliceL] at Fk49
   refine V.storeO Fk49 rfl rfl rfl rfl sz33 rfl rfl rfl rfl ?_
   rintro w55 G56 z58 Fs57
   clear Fk49
   have z59 := V.Fr.size G56
   have Fk49 := Fs57; clear Fs57
   simp only [V.spliceL, V.cellsL] at Fk49
   refine V.nt ?_
   refine V.sr ?_
   refine V.loadO T_ok Fk49 rfl rfl rfl rfl rfl ?_
   refine V.call (right_spec (a := x46.1) (b := x46.2)) rfl rfl rfl ?_
   rintro _ w60 ⟨rfl, G61⟩
   have z62 := V.Fr.size G61
   refine V.ru 1 ?_
   refine V.nt ?_
   refine V.condT rfl (fun h10 => ?_) (fun h10 => ?_)
   ·
    try replace h10 := V.dec h10
    try simp only [V.mk] at h10
    refine V.sr ?_
    refine V.ru 1 ?_
    refine V.nt ?_
    refine V.ret ?_
    refine V.bR ?_
    refine V.tR ?_
    refine V.tR ?_
    refine V.bR ?_
    refine V.tR ?_
    refine V.done rfl ?_
    rw [show fldB d = false by unfold fldB; rw [show (stsL d).all stB2 = false from all_bad (i := i) (by omega) hx46 (by unfold stB2; rw [decide_eq_false_iff_not]; grind)]; simp]
    replace HG := HG.grow G51
    replace HG := HG.n1 G56
    replace HG := HG.grow G61
    exact ⟨(congrArg Value.bool (by first | rfl | (unfold fldB; rw [all_full haa (by omega), all_full hab (by omega), all_full hac (by omega)]; unfold valB; (have e1 : ByteArray.empty = S [] := rfl); (try simp only [e1] at *); clear haa hab hac; grind))), HG⟩
   ·
    try replace h10 := V.dec h10
    try simp only [V.mk] at h10
    refine V.skip ?_
    refine V.bN ?_
    refine V.tN ?_
    refine V.region ?_
    refine V.addN rfl rfl rfl rfl rfl V.lenA V.lenA ?_
    refine V.ru 1 ?_
    refine V.nt ?_
    replace F_o := F_o.gr G51
    replace F_o := F_o.mb G56 hD_o
    replace F_o := F_o.gr G61
    replace Fk2 := Fk2.gr G51
    replace Fk2 := Fk2.ma G56
    replace Fk2 := Fk2.gr G61
    replace F10 := F10.gr G51
    replace F10 := F10.ma G56
    replace F10 := F10.gr G61
    replace F30 := F30.gr G51
    replace F30 := F30.ma G56
    replace F30 := F30.gr G61
    replace HG := HG.grow G51
    replace HG := HG.n1 G56
    replace HG := HG.grow G61
    exact ⟨_, (by omega), HG, (by omega), F_o, Fk2, F10, F30, (i + 1), rfl, (by omega), ((all_succ hab (by omega) hx46 (by unfold stB2; rw [decide_eq_true_eq]; grind))), rfl, rfl, rfl, rfl⟩
  ·
   try replace h8 := V.dec h8
   try simp only [V.mk] at h8
   refine V.exit ?_
   refine V.tX ?_
   refine V.tX ?_
   refine V.bE ?_
   refine V.tN ?_
   refine V.seq ?_
   refine V.sr ?_
   refine V.ru 1 ?_
   refine V.loadO T_ok Fk2 rfl rfl rfl rfl rfl ?_
   refine V.ru 2 ?_
   refine V.nt ?_
   refine V.block ?_
   have hl63 := F_o.len63
   refine V.loopM (fun m e v64 => Fr [] w v64 ∧ v38.heap.size ≤ v64.heap.size ∧ Sl V.Cod.write v64 D_o a_o c_o d.ws ∧ Cells v64 k1 [.int .i64 d.kd, .int .i64 d.id, .int .i64 d.le, .int .i64 d.nd, .int .i64 d.ti, .int .i64 d.te, .string d.an, .int .i64 d.sw, .int .i64 d.sl, .int .i64 d.sq, .string d.fr, .string d.to, .string d.va, .bool d.go, .int .i64 d.aw, .int .i64 d.al, .int .i64 d.lw, .int .i64 d.ll, .bool d.cm, .bool d.st, .slice a_o d.ws.length c_o, .int .i64 d.pr] 41 ∧ V.Row (V.Cod.int .i64) 3 v64 V.None' k8 (k8 + 1) (some ⟨k8, 0, none⟩) (([d.id, d.le, d.sq, d.pr, d.ti, d.te] : List Int).length) (numsL d) ∧ V.Row (V.Cod.pair (V.Cod.int .i64) (V.Cod.int .i64)) 33 v64 V.None' k28 (k28 + 1) (some ⟨k28, 0, none⟩) (([(d.sw, d.sl), (d.aw, d.al), (d.lw, d.ll)] : List (Int × Int)).length) (stsL d) ∧ ∃ (i : Nat) , m = (d.ws).length - i ∧ i ≤ (d.ws).length ∧ ((d.ws).take i).all wkB = true ∧ e 1 = .pointer (some ⟨k1, 0, none⟩) ∧ e 53 = .slice a_o d.ws.length c_o ∧ e 54 = .int .i64 (d.ws.length : Int) ∧ e 55 = .int .i64 (i : Int)) ?_ ?_
   ·
    exact ⟨_, HG, (by omega), F_o, Fk2, F10, F30, (0), rfl, (Nat.zero_le _), ((by simp)), rfl, rfl, rfl, rfl⟩
   clear HG F_o Fk2 F10 F30
   rintro _ e v64 ⟨HG, z65, F_o, Fk2, F10, F30, i, rfl, hic, hac, he2_1, he2_53, he2_54, he2_55⟩
   refine V.knownC (t := 1) he2_1 ?_
   refine V.knownC (t := 53) he2_53 ?_
   refine V.knownC (t := 54) he2_54 ?_
   refine V.knownC (t := 55) he2_55 ?_
   refine V.sr ?_
   refine V.ru 1 ?_
   refine V.nt ?_
   refine V.seq ?_
   refine V.condT rfl (fun h14 => ?_) (fun h14 => ?_)
   ·
    try replace h14 := V.dec h14
    try simp only [V.mk] at h14
    refine V.skip ?_
    refine V.tN ?_
    refine V.seq ?_
    refine V.block ?_
    refine V.sr ?_
    refine V.elem T_ok F_o rfl rfl sz78 rfl rfl rfl rfl V.lenA V.lenA ?_
    rintro b66 o67 cs68 hx69 hb70 hR73 hA71
    obtain ⟨x72, hx72⟩ : ∃ z', d.ws[((i : Int)).toNat] = z' := ⟨_, rfl⟩
    rw [hx72] at hR73
    obtain ⟨_, _, rfl, rfl, rfl⟩ := hR73
    try simp only [Int.toNat_natCast] at hx72 hx69
    refine V.loadA T_ok (o0 := o67) (off := 0) hA71 rfl rfl rfl rfl rfl ?_
    refine V.alloc zero78 rfl rfl rfl ?_
    rintro k74 w76 s78 s79 G77 Fk75
    have z80 := V.Fr.size G77
    try simp only [V.cellsL, V.spliceL] at Fk75
    refine V.storeO Fk75 rfl rfl rfl rfl sz78 rfl rfl rfl rfl ?_
    rintro w81 G82 z84 Fs83
    clear Fk75
    have z85 := V.Fr.size G82
    have Fk75 := Fs83; clear Fs83
    simp only [V.spliceL, V.cellsL] at Fk75
    refine V.nt ?_
    refine V.sr ?_
    refine V.ru 1 ?_
    refine V.loadO T_ok Fk75 rfl rfl rfl rfl rfl ?_
    have hks := hz.ws x72 (by rw [← hx72]; exact List.getElem_mem _)
    refine V.call (key_spec (s := x72.1) (by first | omega | decide | (simp only [V.S_size, List.length_cons, List.length_nil]; omega))) rfl rfl rfl ?_
    rintro _ w81_ ⟨rfl, rfl⟩
    refine V.ru 2 ?_
    refine V.split (j := 4) (t := 63) rfl rfl (fun g16_4 => ?_) (fun g16_4 => ?_)
    ·
     try replace g16_4 := V.dec g16_4
     try simp only [V.mk] at g16_4
     refine V.ru 5 ?_
     refine V.nt ?_
     refine V.condY rfl rfl ?_
     refine V.sr ?_
     refine V.ru 1 ?_
     refine V.nt ?_
     refine V.ret ?_
     refine V.bR ?_
     refine V.tR ?_
     refine V.tR ?_
     refine V.bR ?_
     refine V.tR ?_
     refine V.done rfl ?_
     rw [show fldB d = false by unfold fldB; rw [show (d.ws).all wkB = false from all_bad (i := i) (by omega) hx72 (by unfold wkB nmB; grind)]; simp]
     replace HG := HG.grow G77
     replace HG := HG.n1 G82
     exact ⟨(congrArg Value.bool (by first | rfl | (unfold fldB; rw [all_full haa (by omega), all_full hab (by omega), all_full hac (by omega)]; unfold valB; (have e1 : ByteArray.empty = S [] := rfl); (try simp only [e1] at *); clear haa hab hac; grind))), HG⟩
    ·
     try replace g16_4 := V.dec g16_4
     try simp only [V.mk] at g16_4
     refine V.ru 1 ?_
     refine V.yes rfl rfl rfl ?_
     refine V.loadO T_ok Fk75 rfl rfl rfl rfl rfl ?_
     refine V.yes rfl rfl rfl ?_
     refine V.call (cnumber_spec (n := x72.2)) rfl rfl rfl ?_
     rintro _ w81_ ⟨rfl, rfl⟩
     refine V.ru 2 ?_
     refine V.nt ?_
     refine V.condT rfl (fun h16 => ?_) (fun h16 => ?_)
     ·
      try replace h16 := V.dec h16
      try simp only [V.mk] at h16
      refine V.sr ?_
      refine V.ru 1 ?_
      refine V.nt ?_
      refine V.ret ?_
      refine V.bR ?_
      refine V.tR ?_
      refine V.tR ?_
      refine V.bR ?_
      refine V.tR ?_
      refine V.done rfl ?_
      rw [show fldB d = false by unfold fldB; rw [show (d.ws).all wkB = false from all_bad (i := i) (by omega) hx72 (by unfold wkB nmB; grind)]; simp]
      replace HG := HG.grow G77
      replace HG := HG.n1 G82
      exact ⟨(congrArg Value.bool (by first | rfl | (unfold fldB; rw [all_full haa (by omega), all_full hab (by omega), all_full hac (by omega)]; unfold valB; (have e1 : ByteArray.empty = S [] := rfl); (try simp only [e1] at *); clear haa hab hac; grind))), HG⟩
     ·
      try replace h16 := V.dec h16
      try simp only [V.mk] at h16
      refine V.skip ?_
      refine V.bN ?_
      refine V.tN ?_
      refine V.region ?_
      refine V.addN rfl rfl rfl rfl rfl V.lenA V.lenA ?_
      refine V.ru 1 ?_
      refine V.nt ?_
      replace F_o := F_o.gr G77
      replace F_o := F_o.mb G82 hD_o
      replace Fk2 := Fk2.gr G77
      replace Fk2 := Fk2.ma G82
      replace F10 := F10.gr G77
      replace F10 := F10.ma G82
      replace F30 := F30.gr G77
      replace F30 := F30.ma G82
      replace HG := HG.grow G77
      replace HG := HG.n1 G82
      exact ⟨_, (by omega), HG, (by omega), F_o, Fk2, F10, F30, (i + 1), rfl, (by omega), ((all_succ hac (by omega) hx72 (by unfold wkB nmB; grind))), rfl, rfl, rfl, rfl⟩
   ·
    try replace h14 := V.dec h14
    try simp only [V.mk] at h14
    refine V.exit ?_
    refine V.tX ?_
    refine V.tX ?_
    refine V.bE ?_
    refine V.tN ?_
    refine V.sr ?_
    refine V.ru 2 ?_
    refine V.loadO T_ok Fk2 rfl rfl rfl rfl rfl ?_
    refine V.ru 2 ?_
    refine V.split (j := 4) (t := 74) rfl rfl (fun g19_4 => ?_) (fun g19_4 => ?_)
    ·
     try replace g19_4 := V.dec g19_4
     try simp only [V.mk] at g19_4
     refine V.ru 6 ?_
     refine V.nt ?_
     refine V.sr ?_
     refine V.ru 1 ?_
     refine V.loadO T_ok Fk2 rfl rfl rfl rfl rfl ?_
     refine V.mkStruct T_ok zero38 rfl rfl rfl rfl rfl ?_
     refine V.step rfl rfl (V.eqA_run rfl rfl rfl eqG38 (eqS38 _)) ?_
     refine V.ru 1 ?_
     refine V.split (j := 4) (t := 84) rfl rfl (fun g20_4 => ?_) (fun g20_4 => ?_)
     ·
      try replace g20_4 := V.dec g20_4
      try simp only [V.mk] at g20_4
      refine V.ru 5 ?_
      refine V.nt ?_
      refine V.sr ?_
      refine V.ru 6 ?_
      refine V.yes rfl rfl rfl ?_
      refine V.loadO T_ok Fk2 rfl rfl rfl rfl rfl ?_
      refine V.ru 1 ?_
      refine V.yes rfl rfl rfl ?_
      refine V.loadO T_ok Fk2 rfl rfl rfl rfl rfl ?_
      refine V.yes rfl rfl rfl ?_
      refine V.call (valued_spec (v := d.va) (gone := d.go)) rfl rfl rfl ?_
      rintro _ w88 ⟨rfl, G89⟩
      have z90 := V.Fr.size G89
      refine V.ru 2 ?_
      refine V.split (j := 11) (t := 100) rfl rfl (fun g21_11 => ?_) (fun g21_11 => ?_)
      ·
       try replace g21_11 := V.dec g21_11
       try simp only [V.mk] at g21_11
       refine V.ru 1 ?_
       refine V.yes rfl rfl rfl ?_
       replace Fk2 := Fk2.gr G89
       refine V.loadO T_ok Fk2 rfl rfl rfl rfl rfl ?_
       refine V.ru 3 ?_
       refine V.split (j := 16) (t := 105) rfl rfl (fun g21_16 => ?_) (fun g21_16 => ?_)
       ·
        try replace g21_16 := V.dec g21_16
        try simp only [V.mk] at g21_16
        refine V.ru 1 ?_
        refine V.yes rfl rfl rfl ?_
        refine V.loadO T_ok Fk2 rfl rfl rfl rfl rfl ?_
        refine V.ru 3 ?_
        refine V.split (j := 21) (t := 110) rfl rfl (fun g21_21 => ?_) (fun g21_21 => ?_)
        ·
         try replace g21_21 := V.dec g21_21
         try simp only [V.mk] at g21_21
         refine V.ru 1 ?_
         refine V.yes rfl rfl rfl ?_
         refine V.loadO T_ok Fk2 rfl rfl rfl rfl rfl ?_
         refine V.ru 4 ?_
         refine V.nt ?_
         refine V.ret ?_
         refine V.done rfl ?_
         replace HG := HG.grow G89
         exact ⟨(congrArg Value.bool (by first | rfl | (unfold fldB; rw [all_full haa (by omega), all_full hab (by omega), all_full hac (by omega)]; unfold valB; (have e1 : ByteArray.empty = S [] := rfl); (try simp only [e1] at *); clear haa hab hac; grind))), HG⟩
        ·
         try replace g21_21 := V.dec g21_21
         try simp only [V.mk] at g21_21
         refine V.ru 6 ?_
         refine V.nt ?_
         refine V.ret ?_
         refine V.done rfl ?_
         replace HG := HG.grow G89
         exact ⟨(congrArg Value.bool (by first | rfl | (unfold fldB; rw [all_full haa (by omega), all_full hab (by omega), all_full hac (by omega)]; unfold valB; (have e1 : ByteArray.empty = S [] := rfl); (try simp only [e1] at *); clear haa hab hac; grind))), HG⟩
       ·
        try replace g21_16 := V.dec g21_16
        try simp only [V.mk] at g21_16
        refine V.ru 11 ?_
        refine V.nt ?_
        refine V.ret ?_
        refine V.done rfl ?_
        replace HG := HG.grow G89
        exact ⟨(congrArg Value.bool (by first | rfl | (unfold fldB; rw [all_full haa (by omega), all_full hab (by omega), all_full hac (by omega)]; unfold valB; (have e1 : ByteArray.empty = S [] := rfl); (try simp only [e1] at *); clear haa hab hac; grind))), HG⟩
      ·
       try replace g21_11 := V.dec g21_11
       try simp only [V.mk] at g21_11
       refine V.ru 16 ?_
       refine V.nt ?_
       refine V.ret ?_
       refine V.done rfl ?_
       replace HG := HG.grow G89
       exact ⟨(congrArg Value.bool (by first | rfl | (unfold fldB; rw [all_full haa (by omega), all_full hab (by omega), all_full hac (by omega)]; unfold valB; (have e1 : ByteArray.empty = S [] := rfl); (try simp only [e1] at *); clear haa hab hac; grind))), HG⟩
     ·
      try replace g20_4 := V.dec g20_4
      try simp only [V.mk] at g20_4
      refine V.ru 1 ?_
      refine V.yes rfl rfl rfl ?_
      refine V.loadO T_ok Fk2 rfl rfl rfl rfl rfl ?_
      refine V.yes rfl rfl rfl ?_
      refine V.call (spright_spec (f := d.fr) (t := d.to) (by first | omega | decide | (simp only [V.S_size, List.length_cons, List.length_nil]; omega)) (by first | omega | decide | (simp only [V.S_size, List.length_cons, List.length_nil]; omega))) rfl rfl rfl ?_
      rintro _ w91 ⟨rfl, G92⟩
      have z93 := V.Fr.size G92
      refine V.ru 2 ?_
      refine V.nt ?_
      refine V.sr ?_
      refine V.ru 5 ?_
      refine V.split (j := 4) (t := 93) rfl rfl (fun g21_4 => ?_) (fun g21_4 => ?_)
      ·
       try replace g21_4 := V.dec g21_4
       try simp only [V.mk] at g21_4
       refine V.ru 1 ?_
       refine V.yes rfl rfl rfl ?_
       replace Fk2 := Fk2.gr G92
       refine V.loadO T_ok Fk2 rfl rfl rfl rfl rfl ?_
       refine V.ru 1 ?_
       refine V.yes rfl rfl rfl ?_
       refine V.loadO T_ok Fk2 rfl rfl rfl rfl rfl ?_
       refine V.yes rfl rfl rfl ?_
       refine V.call (valued_spec (v := d.va) (gone := d.go)) rfl rfl rfl ?_
       rintro _ w94 ⟨rfl, G95⟩
       have z96 := V.Fr.size G95
       refine V.ru 2 ?_
       refine V.split (j := 11) (t := 100) rfl rfl (fun g21_11 => ?_) (fun g21_11 => ?_)
       ·
        try replace g21_11 := V.dec g21_11
        try simp only [V.mk] at g21_11
        refine V.ru 1 ?_
        refine V.yes rfl rfl rfl ?_
        replace Fk2 := Fk2.gr G95
        refine V.loadO T_ok Fk2 rfl rfl rfl rfl rfl ?_
        refine V.ru 3 ?_
        refine V.split (j := 16) (t := 105) rfl rfl (fun g21_16 => ?_) (fun g21_16 => ?_)
        ·
         try replace g21_16 := V.dec g21_16
         try simp only [V.mk] at g21_16
         refine V.ru 1 ?_
         refine V.yes rfl rfl rfl ?_
         refine V.loadO T_ok Fk2 rfl rfl rfl rfl rfl ?_
         refine V.ru 3 ?_
         refine V.split (j := 21) (t := 110) rfl rfl (fun g21_21 => ?_) (fun g21_21 => ?_)
         ·
          try replace g21_21 := V.dec g21_21
          try simp only [V.mk] at g21_21
          refine V.ru 1 ?_
          refine V.yes rfl rfl rfl ?_
          refine V.loadO T_ok Fk2 rfl rfl rfl rfl rfl ?_
          refine V.ru 4 ?_
          refine V.nt ?_
          refine V.ret ?_
          refine V.done rfl ?_
          replace HG := HG.grow (G92.trans G95)
          exact ⟨(congrArg Value.bool (by first | rfl | (unfold fldB; rw [all_full haa (by omega), all_full hab (by omega), all_full hac (by omega)]; unfold valB; (have e1 : ByteArray.empty = S [] := rfl); (try simp only [e1] at *); clear haa hab hac; grind))), HG⟩
         ·
          try replace g21_21 := V.dec g21_21
          try simp only [V.mk] at g21_21
          refine V.ru 6 ?_
          refine V.nt ?_
          refine V.ret ?_
          refine V.done rfl ?_
          replace HG := HG.grow (G92.trans G95)
          exact ⟨(congrArg Value.bool (by first | rfl | (unfold fldB; rw [all_full haa (by omega), all_full hab (by omega), all_full hac (by omega)]; unfold valB; (have e1 : ByteArray.empty = S [] := rfl); (try simp only [e1] at *); clear haa hab hac; grind))), HG⟩
        ·
         try replace g21_16 := V.dec g21_16
         try simp only [V.mk] at g21_16
         refine V.ru 11 ?_
         refine V.nt ?_
         refine V.ret ?_
         refine V.done rfl ?_
         replace HG := HG.grow (G92.trans G95)
         exact ⟨(congrArg Value.bool (by first | rfl | (unfold fldB; rw [all_full haa (by omega), all_full hab (by omega), all_full hac (by omega)]; unfold valB; (have e1 : ByteArray.empty = S [] := rfl); (try simp only [e1] at *); clear haa hab hac; grind))), HG⟩
       ·
        try replace g21_11 := V.dec g21_11
        try simp only [V.mk] at g21_11
        refine V.ru 16 ?_
        refine V.nt ?_
        refine V.ret ?_
        refine V.done rfl ?_
        replace HG := HG.grow (G92.trans G95)
        exact ⟨(congrArg Value.bool (by first | rfl | (unfold fldB; rw [all_full haa (by omega), all_full hab (by omega), all_full hac (by omega)]; unfold valB; (have e1 : ByteArray.empty = S [] := rfl); (try simp only [e1] at *); clear haa hab hac; grind))), HG⟩
      ·
       try replace g21_4 := V.dec g21_4
       try simp only [V.mk] at g21_4
       refine V.ru 23 ?_
       refine V.nt ?_
       refine V.ret ?_
       refine V.done rfl ?_
       replace HG := HG.grow G92
       exact ⟨(congrArg Value.bool (by first | rfl | (unfold fldB; rw [all_full haa (by omega), all_full hab (by omega), all_full hac (by omega)]; unfold valB; (have e1 : ByteArray.empty = S [] := rfl); (try simp only [e1] at *); clear haa hab hac; grind))), HG⟩
    ·
     try replace g19_4 := V.dec g19_4
     try simp only [V.mk] at g19_4
     refine V.ru 2 ?_
     refine V.yes rfl rfl rfl ?_
     refine V.loadO T_ok Fk2 rfl rfl rfl rfl rfl ?_
     refine V.yes rfl rfl rfl ?_
     refine V.call (key_spec (s := d.an) (by first | omega | decide | (simp only [V.S_size, List.length_cons, List.length_nil]; omega))) rfl rfl rfl ?_
     rintro _ v64_ ⟨rfl, rfl⟩
     refine V.ru 2 ?_
     refine V.nt ?_
     refine V.sr ?_
     refine V.ru 1 ?_
     refine V.loadO T_ok Fk2 rfl rfl rfl rfl rfl ?_
     refine V.mkStruct T_ok zero38 rfl rfl rfl rfl rfl ?_
     refine V.step rfl rfl (V.eqA_run rfl rfl rfl eqG38 (eqS38 _)) ?_
     refine V.ru 1 ?_
     refine V.split (j := 4) (t := 84) rfl rfl (fun g20_4 => ?_) (fun g20_4 => ?_)
     ·
      try replace g20_4 := V.dec g20_4
      try simp only [V.mk] at g20_4
      refine V.ru 5 ?_
      refine V.nt ?_
      refine V.sr ?_
      refine V.ru 2 ?_
      refine V.andG T_ok 1 1 90 rfl rfl rfl rfl rfl rfl rfl rfl ?_
      refine V.ru 1 ?_
      refine V.split (j := 4) (t := 93) rfl rfl (fun g21_4 => ?_) (fun g21_4 => ?_)
      ·
       try replace g21_4 := V.dec g21_4
       try simp only [V.mk] at g21_4
       refine V.ru 1 ?_
       refine V.yes rfl rfl rfl ?_
       refine V.loadO T_ok Fk2 rfl rfl rfl rfl rfl ?_
       refine V.ru 1 ?_
       refine V.yes rfl rfl rfl ?_
       refine V.loadO T_ok Fk2 rfl rfl rfl rfl rfl ?_
       refine V.yes rfl rfl rfl ?_
       refine V.call (valued_spec (v := d.va) (gone := d.go)) rfl rfl rfl ?_
       rintro _ w98 ⟨rfl, G99⟩
       have z100 := V.Fr.size G99
       refine V.ru 2 ?_
       refine V.split (j := 11) (t := 100) rfl rfl (fun g21_11 => ?_) (fun g21_11 => ?_)
       ·
        try replace g21_11 := V.dec g21_11
        try simp only [V.mk] at g21_11
        refine V.ru 1 ?_
        refine V.yes rfl rfl rfl ?_
        replace Fk2 := Fk2.gr G99
        refine V.loadO T_ok Fk2 rfl rfl rfl rfl rfl ?_
        refine V.ru 3 ?_
        refine V.split (j := 16) (t := 105) rfl rfl (fun g21_16 => ?_) (fun g21_16 => ?_)
        ·
         try replace g21_16 := V.dec g21_16
         try simp only [V.mk] at g21_16
         refine V.ru 1 ?_
         refine V.yes rfl rfl rfl ?_
         refine V.loadO T_ok Fk2 rfl rfl rfl rfl rfl ?_
         refine V.ru 3 ?_
         refine V.split (j := 21) (t := 110) rfl rfl (fun g21_21 => ?_) (fun g21_21 => ?_)
         ·
          try replace g21_21 := V.dec g21_21
          try simp only [V.mk] at g21_21
          refine V.ru 1 ?_
          refine V.yes rfl rfl rfl ?_
          refine V.loadO T_ok Fk2 rfl rfl rfl rfl rfl ?_
          refine V.ru 4 ?_
          refine V.nt ?_
          refine V.ret ?_
          refine V.done rfl ?_
          replace HG := HG.grow G99
          exact ⟨(congrArg Value.bool (by first | rfl | (unfold fldB; rw [all_full haa (by omega), all_full hab (by omega), all_full hac (by omega)]; unfold valB; (have e1 : ByteArray.empty = S [] := rfl); (try simp only [e1] at *); clear haa hab hac; grind))), HG⟩
         ·
          try replace g21_21 := V.dec g21_21
          try simp only [V.mk] at g21_21
          refine V.ru 6 ?_
          refine V.nt ?_
          refine V.ret ?_
          refine V.done rfl ?_
          replace HG := HG.grow G99
          exact ⟨(congrArg Value.bool (by first | rfl | (unfold fldB; rw [all_full haa (by omega), all_full hab (by omega), all_full hac (by omega)]; unfold valB; (have e1 : ByteArray.empty = S [] := rfl); (try simp only [e1] at *); clear haa hab hac; grind))), HG⟩
        ·
         try replace g21_16 := V.dec g21_16
         try simp only [V.mk] at g21_16
         refine V.ru 11 ?_
         refine V.nt ?_
         refine V.ret ?_
         refine V.done rfl ?_
         replace HG := HG.grow G99
         exact ⟨(congrArg Value.bool (by first | rfl | (unfold fldB; rw [all_full haa (by omega), all_full hab (by omega), all_full hac (by omega)]; unfold valB; (have e1 : ByteArray.empty = S [] := rfl); (try simp only [e1] at *); clear haa hab hac; grind))), HG⟩
       ·
        try replace g21_11 := V.dec g21_11
        try simp only [V.mk] at g21_11
        refine V.ru 16 ?_
        refine V.nt ?_
        refine V.ret ?_
        refine V.done rfl ?_
        replace HG := HG.grow G99
        exact ⟨(congrArg Value.bool (by first | rfl | (unfold fldB; rw [all_full haa (by omega), all_full hab (by omega), all_full hac (by omega)]; unfold valB; (have e1 : ByteArray.empty = S [] := rfl); (try simp only [e1] at *); clear haa hab hac; grind))), HG⟩
      ·
       try replace g21_4 := V.dec g21_4
       try simp only [V.mk] at g21_4
       refine V.ru 23 ?_
       refine V.nt ?_
       refine V.ret ?_
       refine V.done rfl ?_
       exact ⟨(congrArg Value.bool (by first | rfl | (unfold fldB; rw [all_full haa (by omega), all_full hab (by omega), all_full hac (by omega)]; unfold valB; (have e1 : ByteArray.empty = S [] := rfl); (try simp only [e1] at *); clear haa hab hac; grind))), HG⟩
     ·
      try replace g20_4 := V.dec g20_4
      try simp only [V.mk] at g20_4
      refine V.ru 1 ?_
      refine V.yes rfl rfl rfl ?_
      refine V.loadO T_ok Fk2 rfl rfl rfl rfl rfl ?_
      refine V.yes rfl rfl rfl ?_
      refine V.call (spright_spec (f := d.fr) (t := d.to) (by first | omega | decide | (simp only [V.S_size, List.length_cons, List.length_nil]; omega)) (by first | omega | decide | (simp only [V.S_size, List.length_cons, List.length_nil]; omega))) rfl rfl rfl ?_
      rintro _ w101 ⟨rfl, G102⟩
      have z103 := V.Fr.size G102
      refine V.ru 2 ?_
      refine V.nt ?_
      refine V.sr ?_
      refine V.ru 2 ?_
      refine V.andG T_ok 1 1 90 rfl rfl rfl rfl rfl rfl rfl rfl ?_
      refine V.ru 1 ?_
      refine V.split (j := 4) (t := 93) rfl rfl (fun g21_4 => ?_) (fun g21_4 => ?_)
      ·
       try replace g21_4 := V.dec g21_4
       try simp only [V.mk] at g21_4
       refine V.ru 1 ?_
       refine V.yes rfl rfl rfl ?_
       replace Fk2 := Fk2.gr G102
       refine V.loadO T_ok Fk2 rfl rfl rfl rfl rfl ?_
       refine V.ru 1 ?_
       refine V.yes rfl rfl rfl ?_
       refine V.loadO T_ok Fk2 rfl rfl rfl rfl rfl ?_
       refine V.yes rfl rfl rfl ?_
       refine V.call (valued_spec (v := d.va) (gone := d.go)) rfl rfl rfl ?_
       rintro _ w104 ⟨rfl, G105⟩
       have z106 := V.Fr.size G105
       refine V.ru 2 ?_
       refine V.split (j := 11) (t := 100) rfl rfl (fun g21_11 => ?_) (fun g21_11 => ?_)
       ·
        try replace g21_11 := V.dec g21_11
        try simp only [V.mk] at g21_11
        refine V.ru 1 ?_
        refine V.yes rfl rfl rfl ?_
        replace Fk2 := Fk2.gr G105
        refine V.loadO T_ok Fk2 rfl rfl rfl rfl rfl ?_
        refine V.ru 3 ?_
        refine V.split (j := 16) (t := 105) rfl rfl (fun g21_16 => ?_) (fun g21_16 => ?_)
        ·
         try replace g21_16 := V.dec g21_16
         try simp only [V.mk] at g21_16
         refine V.ru 1 ?_
         refine V.yes rfl rfl rfl ?_
         refine V.loadO T_ok Fk2 rfl rfl rfl rfl rfl ?_
         refine V.ru 3 ?_
         refine V.split (j := 21) (t := 110) rfl rfl (fun g21_21 => ?_) (fun g21_21 => ?_)
         ·
          try replace g21_21 := V.dec g21_21
          try simp only [V.mk] at g21_21
          refine V.ru 1 ?_
          refine V.yes rfl rfl rfl ?_
          refine V.loadO T_ok Fk2 rfl rfl rfl rfl rfl ?_
          refine V.ru 4 ?_
          refine V.nt ?_
          refine V.ret ?_
          refine V.done rfl ?_
          replace HG := HG.grow (G102.trans G105)
          exact ⟨(congrArg Value.bool (by first | rfl | (unfold fldB; rw [all_full haa (by omega), all_full hab (by omega), all_full hac (by omega)]; unfold valB; (have e1 : ByteArray.empty = S [] := rfl); (try simp only [e1] at *); clear haa hab hac; grind))), HG⟩
         ·
          try replace g21_21 := V.dec g21_21
          try simp only [V.mk] at g21_21
          refine V.ru 6 ?_
          refine V.nt ?_
          refine V.ret ?_
          refine V.done rfl ?_
          replace HG := HG.grow (G102.trans G105)
          exact ⟨(congrArg Value.bool (by first | rfl | (unfold fldB; rw [all_full haa (by omega), all_full hab (by omega), all_full hac (by omega)]; unfold valB; (have e1 : ByteArray.empty = S [] := rfl); (try simp only [e1] at *); clear haa hab hac; grind))), HG⟩
        ·
         try replace g21_16 := V.dec g21_16
         try simp only [V.mk] at g21_16
         refine V.ru 11 ?_
         refine V.nt ?_
         refine V.ret ?_
         refine V.done rfl ?_
         replace HG := HG.grow (G102.trans G105)
         exact ⟨(congrArg Value.bool (by first | rfl | (unfold fldB; rw [all_full haa (by omega), all_full hab (by omega), all_full hac (by omega)]; unfold valB; (have e1 : ByteArray.empty = S [] := rfl); (try simp only [e1] at *); clear haa hab hac; grind))), HG⟩
       ·
        try replace g21_11 := V.dec g21_11
        try simp only [V.mk] at g21_11
        refine V.ru 16 ?_
        refine V.nt ?_
        refine V.ret ?_
        refine V.done rfl ?_
        replace HG := HG.grow (G102.trans G105)
        exact ⟨(congrArg Value.bool (by first | rfl | (unfold fldB; rw [all_full haa (by omega), all_full hab (by omega), all_full hac (by omega)]; unfold valB; (have e1 : ByteArray.empty = S [] := rfl); (try simp only [e1] at *); clear haa hab hac; grind))), HG⟩
      ·
       try replace g21_4 := V.dec g21_4
       try simp only [V.mk] at g21_4
       refine V.ru 23 ?_
       refine V.nt ?_
       refine V.ret ?_
       refine V.done rfl ?_
       replace HG := HG.grow G102
       exact ⟨(congrArg Value.bool (by first | rfl | (unfold fldB; rw [all_full haa (by omega), all_full hab (by omega), all_full hac (by omega)]; unfold valB; (have e1 : ByteArray.empty = S [] := rfl); (try simp only [e1] at *); clear haa hab hac; grind))), HG⟩

set_option maxHeartbeats 900000 in
set_option maxRecDepth 10000 in
theorem kinds_spec {w : World}    :
    Meets Tryz.prog 125 [] w fun r w' => ∃ (rk1 : Nat), r = .map (some rk1) ∧ V.MapB w' rk1 (Value.int .i64) kindsM ∧ Gr w w' := by
 have HG := V.Fr.refl [] w
 refine V.enter (n := 14) Tryz.func125 rfl rfl (by decide) rfl ?_
 refine V.sr ?_
 refine V.ru 1 ?_
 refine V.nt ?_
 refine V.sr ?_
 refine V.mkMap (enc := (Value.int .i64)) rfl rfl rfl ?_
 rintro k1 w3 s5 s6 G4 F2
 have z7 := V.Fr.size G4
 refine V.mkStruct T_ok zero183 rfl rfl rfl rfl rfl ?_
 refine V.mapUpd (V.key_int Tryz.underlying34) (.inr rfl) Tryz.underlying185 F2 rfl rfl rfl rfl rfl ?_
 rintro w8 G9 z10 Fnew
 clear F2
 have z11 := V.Fr.size G9
 have F2 := Fnew; clear Fnew
 refine V.mkStruct T_ok zero183 rfl rfl rfl rfl rfl ?_
 refine V.mapUpd (V.key_int Tryz.underlying34) (.inr rfl) Tryz.underlying185 F2 rfl rfl rfl rfl rfl ?_
 rintro w12 G13 z14 Fnew
 clear F2
 have z15 := V.Fr.size G13
 have F2 := Fnew; clear Fnew
 refine V.mkStruct T_ok zero183 rfl rfl rfl rfl rfl ?_
 refine V.mapUpd (V.key_int Tryz.underlying34) (.inr rfl) Tryz.underlying185 F2 rfl rfl rfl rfl rfl ?_
 rintro w16 G17 z18 Fnew
 clear F2
 have z19 := V.Fr.size G17
 have F2 := Fnew; clear Fnew
 refine V.mkStruct T_ok zero183 rfl rfl rfl rfl rfl ?_
 refine V.mapUpd (V.key_int Tryz.underlying34) (.inr rfl) Tryz.underlying185 F2 rfl rfl rfl rfl rfl ?_
 rintro w20 G21 z22 Fnew
 clear F2
 have z23 := V.Fr.size G21
 have F2 := Fnew; clear Fnew
 refine V.mkStruct T_ok zero183 rfl rfl rfl rfl rfl ?_
 refine V.mapUpd (V.key_int Tryz.underlying34) (.inr rfl) Tryz.underlying185 F2 rfl rfl rfl rfl rfl ?_
 rintro w24 G25 z26 Fnew
 clear F2
 have z27 := V.Fr.size G25
 have F2 := Fnew; clear Fnew
 refine V.mkStruct T_ok zero183 rfl rfl rfl rfl rfl ?_
 refine V.mapUpd (V.key_int Tryz.underlying34) (.inr rfl) Tryz.underlying185 F2 rfl rfl rfl rfl rfl ?_
 rintro w28 G29 z30 Fnew
 clear F2
 have z31 := V.Fr.size G29
 have F2 := Fnew; clear Fnew
 refine V.mkStruct T_ok zero183 rfl rfl rfl rfl rfl ?_
 refine V.mapUpd (V.key_int Tryz.underlying34) (.inr rfl) Tryz.underlying185 F2 rfl rfl rfl rfl rfl ?_
 rintro w32 G33 z34 Fnew
 clear F2
 have z35 := V.Fr.size G33
 have F2 := Fnew; clear Fnew
 refine V.mkStruct T_ok zero183 rfl rfl rfl rfl rfl ?_
 refine V.mapUpd (V.key_int Tryz.underlying34) (.inr rfl) Tryz.underlying185 F2 rfl rfl rfl rfl rfl ?_
 rintro w36 G37 z38 Fnew
 clear F2
 have z39 := V.Fr.size G37
 have F2 := Fnew; clear Fnew
 refine V.mkStruct T_ok zero183 rfl rfl rfl rfl rfl ?_
 refine V.mapUpd (V.key_int Tryz.underlying34) (.inr rfl) Tryz.underlying185 F2 rfl rfl rfl rfl rfl ?_
 rintro w40 G41 z42 Fnew
 clear F2
 have z43 := V.Fr.size G41
 have F2 := Fnew; clear Fnew
 refine V.mkStruct T_ok zero183 rfl rfl rfl rfl rfl ?_
 refine V.mapUpd (V.key_int Tryz.underlying34) (.inr rfl) Tryz.underlying185 F2 rfl rfl rfl rfl rfl ?_
 rintro w44 G45 z46 Fnew
 clear F2
 have z47 := V.Fr.size G45
 have F2 := Fnew; clear Fnew
 refine V.mkStruct T_ok zero183 rfl rfl rfl rfl rfl ?_
 refine V.mapUpd (V.key_int Tryz.underlying34) (.inr rfl) Tryz.underlying185 F2 rfl rfl rfl rfl rfl ?_
 rintro w48 G49 z50 Fnew
 clear F2
 have z51 := V.Fr.size G49
 have F2 := Fnew; clear Fnew
 refine V.ru 2 ?_
 refine V.nt ?_
 refine V.ret ?_
 refine V.done rfl ?_
 replace HG := HG.grow G4
 replace HG := HG.n1 G9
 replace HG := HG.n1 G13
 replace HG := HG.n1 G17
 replace HG := HG.n1 G21
 replace HG := HG.n1 G25
 replace HG := HG.n1 G29
 replace HG := HG.n1 G33
 replace HG := HG.n1 G37
 replace HG := HG.n1 G41
 replace HG := HG.n1 G45
 replace HG := HG.n1 G49
 exact ⟨_, rfl, (show V.MapB _ _ _ kindsM from F2), HG⟩

set_option maxHeartbeats 900000 in
set_option maxRecDepth 10000 in
theorem apart_spec {w : World}  {D_ws : Nat → Prop} {c_ws : Nat} {a_ws : Option Addr} {ws : List (ByteArray × Int)} (F_ws : Sl V.Cod.write w D_ws a_ws c_ws ws) (hD_ws : ∀ k, D_ws k → k < w.heap.size)  :
    Meets Tryz.prog 127 [.slice a_ws ws.length c_ws] w fun r w' => r = .bool (decide ((ws.map (·.1)).Nodup)) ∧ Gr w w' := by
 have HG := V.Fr.refl [] w
 refine V.enter (n := 23) Tryz.func127 rfl rfl (by decide) rfl ?_
 refine V.sr ?_
 refine V.ru 1 ?_
 refine V.nt ?_
 refine V.sr ?_
 refine V.mkMap (enc := Value.string) rfl rfl rfl ?_
 rintro k1 w3 s5 s6 G4 F2
 have z7 := V.Fr.size G4
 refine V.ru 1 ?_
 refine V.nt ?_
 refine V.seq ?_
 refine V.sr ?_
 refine V.ru 3 ?_
 refine V.nt ?_
 refine V.block ?_
 replace F_ws := F_ws.gr G4
 have hl63 := F_ws.len63
 replace HG := HG.grow G4
 refine V.loopM (fun m e v10 => Fr [] w v10 ∧ w3.heap.size ≤ v10.heap.size ∧ Sl V.Cod.write v10 D_ws a_ws c_ws ws ∧ ∃ (i : Nat) , m = ws.length - i ∧ i ≤ ws.length ∧ V.MapB v10 k1 Value.string (wsM (ws.take i)) ∧ e 0 = .slice a_ws ws.length c_ws ∧ e 3 = .map (some k1) ∧ e 7 = .slice a_ws ws.length c_ws ∧ e 8 = .int .i64 (ws.length : Int) ∧ e 9 = .int .i64 (i : Int)) ?_ ?_
 ·
  exact ⟨_, HG, (by omega), F_ws, (0), rfl, (by omega), (by first | exact F2 | exact F2.mono (fun _ h => h.1) (by intro h; omega)), rfl, rfl, rfl, rfl, rfl⟩
 try clear F2
 clear HG F_ws
 rintro _ e v10 ⟨HG, z11, F_ws, i, rfl, hi, F8, he0_0, he0_3, he0_7, he0_8, he0_9⟩
 refine V.knownC (t := 0) he0_0 ?_
 refine V.knownC (t := 3) he0_3 ?_
 refine V.knownC (t := 7) he0_7 ?_
 refine V.knownC (t := 8) he0_8 ?_
 refine V.knownC (t := 9) he0_9 ?_
 refine V.sr ?_
 refine V.ru 1 ?_
 refine V.nt ?_
 refine V.seq ?_
 refine V.condT rfl (fun h3 => ?_) (fun h3 => ?_)
 ·
  try replace h3 := V.dec h3
  try simp only [V.mk] at h3
  refine V.skip ?_
  refine V.tN ?_
  refine V.seq ?_
  refine V.block ?_
  refine V.sr ?_
  refine V.elem T_ok F_ws rfl rfl sz78 rfl rfl rfl rfl V.lenA V.lenA ?_
  rintro b12 o13 cs14 hx15 hb16 hR19 hA17
  obtain ⟨x18, hx18⟩ : ∃ z', ws[((i : Int)).toNat] = z' := ⟨_, rfl⟩
  rw [hx18] at hR19
  obtain ⟨_, _, rfl, rfl, rfl⟩ := hR19
  try simp only [Int.toNat_natCast] at hx18 hx15
  refine V.loadA T_ok (o0 := o13) (off := 0) hA17 rfl rfl rfl rfl rfl ?_
  refine V.alloc zero78 rfl rfl rfl ?_
  rintro k20 w22 s24 s25 G23 Fk21
  have z26 := V.Fr.size G23
  try simp only [V.cellsL, V.spliceL] at Fk21
  refine V.storeO Fk21 rfl rfl rfl rfl sz78 rfl rfl rfl rfl ?_
  rintro w27 G28 z30 Fs29
  clear Fk21
  have z31 := V.Fr.size G28
  have Fk21 := Fs29; clear Fs29
  simp only [V.spliceL, V.cellsL] at Fk21
  refine V.nt ?_
  refine V.region ?_
  refine V.ru 2 ?_
  refine V.loadO T_ok Fk21 rfl rfl rfl rfl rfl ?_
  refine V.mkStruct T_ok zero207 rfl rfl rfl rfl rfl ?_
  replace F8 := F8.gr G23
  replace F8 := F8.mv1 G28 (by first | exact ⟨by omega, by assumption⟩ | exact ⟨by omega, fun h => absurd h.1 (by assumption)⟩ | exact ⟨by omega, fun h => absurd h.1.1 (by assumption)⟩ | exact ⟨by omega, fun h => by first | (have h2 := h.1; have h3 := h.2; omega) | (have h2 := h; dsimp only at h2; omega)⟩ | first | omega | exact fun h => h | exact ⟨by omega, fun h => h⟩ | (intro h; first | (have := hD_ws _ h; omega)) | (refine ⟨by omega, ?_⟩; intro h; first | (have := hD_ws _ h; omega)))
  refine V.mapUpd (V.key_str Tryz.underlying9) (.inl rfl) Tryz.underlying206 F8 rfl rfl rfl rfl rfl ?_
  rintro w32 G33 z34 Fnew
  clear F8
  have z35 := V.Fr.size G33
  have F8 := Fnew; clear Fnew
  refine V.nil ?_
  refine V.bN ?_
  refine V.tN ?_
  refine V.region ?_
  refine V.addN rfl rfl rfl rfl rfl V.lenA V.lenA ?_
  refine V.ru 1 ?_
  refine V.nt ?_
  try rw [show (V.cellsL (Value.agg #[])).toArray = #[] from rfl] at F8
  have hr36 : V.mput (wsM (ws.take i)) x18.1 (.agg #[]) = wsM (ws.take (i + 1)) := wsM_succ (by omega) hx18
  rw [hr36] at F8
  clear hr36
  
  replace F_ws := F_ws.gr G23
  replace F_ws := F_ws.mb G28 hD_ws
  replace F_ws := F_ws.mb G33 hD_ws
  replace HG := HG.grow G23
  replace HG := HG.n1 G28
  replace HG := HG.n1 G33
  exact ⟨_, (by omega), HG, (by omega), F_ws, (i + 1), rfl, (by omega), (by first | exact F8 | exact F8.mono (fun _ h => h.1) (by intro h; omega)), rfl, rfl, rfl, rfl, rfl⟩
 ·
  try replace h3 := V.dec h3
  try simp only [V.mk] at h3
  refine V.exit ?_
  refine V.tX ?_
  refine V.tX ?_
  refine V.bE ?_
  refine V.tN ?_
  refine V.seq ?_
  rw [List.take_of_length_le (by omega : ws.length ≤ i)] at *
  refine V.region ?_
  refine V.ru 1 ?_
  refine V.step rfl rfl (V.mlen_run rfl Tryz.underlying206 F8 rfl) ?_
  refine V.ru 4 ?_
  refine V.nt ?_
  refine V.ret ?_
  refine V.done rfl ?_
  exact ⟨congrArg Value.bool (by rw [Bool.eq_iff_iff, decide_eq_true_eq, decide_eq_true_eq, wsM_nodup]), HG⟩

set_option maxHeartbeats 900000 in
set_option maxRecDepth 10000 in
theorem cright_spec {w : World} {d : CmdV} {D_o : Nat → Prop} {c_o : Nat} {a_o : Option Addr} (F_o : Sl V.Cod.write w D_o a_o c_o d.ws) (hD_o : ∀ k, D_o k → k < w.heap.size)  (hz : SzOk d) :
    Meets Tryz.prog 79 [.agg #[.int .i64 d.kd, .int .i64 d.id, .int .i64 d.le, .int .i64 d.nd, .int .i64 d.ti, .int .i64 d.te, .string d.an, .int .i64 d.sw, .int .i64 d.sl, .int .i64 d.sq, .string d.fr, .string d.to, .string d.va, .bool d.go, .int .i64 d.aw, .int .i64 d.al, .int .i64 d.lw, .int .i64 d.ll, .bool d.cm, .bool d.st, .slice a_o d.ws.length c_o, .int .i64 d.pr]] w fun r w' => r = .bool (cmdB d) ∧ Gr w w' := by
 have HG := V.Fr.refl [] w
 refine V.enter (n := 60) Tryz.func79 rfl rfl (by decide) rfl ?_
 refine V.sr ?_
 refine V.box rfl rfl rfl rfl ?_
 rintro k1 w3 s5 s6 G4 Fk2
 have z7 := V.Fr.size G4
 try simp only [V.cellsL, V.spliceL] at Fk2
 refine V.ru 1 ?_
 refine V.nt ?_
 refine V.seq ?_
 refine V.drawE 6 8 mixed rfl (V.pure_extract rfl) (by kernel_rfl) ?_
 refine V.drawGT_any 8 (V.sel [(0, (fun v wz => ∃ (rk1 : Nat), v = .map (some rk1) ∧ V.MapB wz rk1 (Value.int .i64) kindsM)), (7, V.newC w3.heap.size [.bool false, .bool false, .bool false, .bool false] 183)]) (by kernel_rfl) (V.mono_cons (by rintro v wz wz' g ⟨rk1, rfl, rF1⟩; exact ⟨rk1, rfl, (by first | exact (rF1.gr g).mono (V.In.sub (Nat.le_refl _) g.size) | exact rF1.gr g | exact (rF1.gr g).mono (fun _ h => h) (Nat.le_refl _) g.size | exact (rF1.gr g).mono (fun k h => ⟨h.1, Nat.lt_of_lt_of_le h.2 g.size⟩))⟩) (V.mono_cons V.newC_mono V.mono_nil)) ?_
 refine V.gcall (fun w' h => kinds_spec.mono (by rintro v w'' ⟨rk1, rfl, rF1, G⟩; exact ⟨⟨rk1, rfl, (by first | exact rF1.mono (V.In.mono_l h.1.size) | exact rF1 | exact rF1.mono (fun _ h => h) h.1.size (Nat.le_refl _))⟩, G⟩)) rfl rfl rfl rfl ?_
 rintro _ w10 - - ⟨k8, rfl, -⟩
 refine V.grun T_ok 1 rfl (V.sel_none rfl) ?_
 refine V.gloadO T_ok (fun w' h => Fk2.gr h.1) rfl rfl rfl rfl rfl rfl ?_
 refine V.gstep rfl rfl rfl (fun w' h => V.look_run (V.key_int Tryz.underlying34) rfl Tryz.underlying185 zero183 (by obtain ⟨_, he, F0⟩ := (V.Hist.here (h.get (i := 0) rfl)); cases he; exact F0) rfl rfl) ?_
 rw [look_kinds]
 refine V.grun T_ok 3 rfl (V.sel_none rfl) ?_
 refine V.galloc (lo := w3.heap.size) zero183 (by omega) rfl rfl rfl rfl ?_
 rintro k11
 refine V.gnil ?_
 rintro w13 G14 hH15
 have z16 := V.Fr.size G14
 have F9 : V.MapB w13 k8 (Value.int .i64) kindsM := by
   obtain ⟨_, he, F0⟩ := (V.Hist.here (V.Hist.old (hH15 0)))
   cases he
   exact F0
 have Fk12 := V.newC_get (V.Hist.here (hH15 7))
 have hk17 := V.newC_lt (V.Hist.here (hH15 7))
 clear hH15
 refine V.storeO Fk12 rfl rfl rfl rfl sz183 rfl rfl rfl rfl ?_
 rintro w18 G19 z21 Fs20
 clear Fk12
 have z22 := V.Fr.size G19
 have Fk12 := Fs20; clear Fs20
 simp only [V.spliceL, V.cellsL] at Fk12
 refine V.ru 1 ?_
 refine V.nil ?_
 refine V.to_nrm ?_
 refine V.tN ?_
 refine V.seq ?_
 refine V.block ?_
 refine V.sr ?_
 refine V.ru 3 ?_
 refine V.split (j := 2) (t := 15) rfl rfl (fun g2_2 => ?_) (fun g2_2 => ?_)
 ·
  try replace g2_2 := V.dec g2_2
  try simp only [V.mk] at g2_2
  refine V.ru 5 ?_
  refine V.nt ?_
  refine V.condY rfl rfl ?_
  refine V.sr ?_
  refine V.ru 1 ?_
  refine V.nt ?_
  refine V.ret ?_
  refine V.bR ?_
  refine V.tR ?_
  refine V.done rfl ?_
  replace HG := HG.grow (G4.trans G14)
  replace HG := HG.n1 G19
  exact ⟨(congrArg Value.bool (by first | rfl | (unfold cmdB; (have e1 : ByteArray.empty = S [] := rfl); (try simp only [e1] at *); grind))), HG⟩
 ·
  try replace g2_2 := V.dec g2_2
  try simp only [V.mk] at g2_2
  refine V.yes rfl rfl rfl ?_
  replace Fk2 := Fk2.gr G14
  replace Fk2 := Fk2.ma G19
  refine V.loadO T_ok Fk2 rfl rfl rfl rfl rfl ?_
  refine V.yes rfl rfl rfl ?_
  replace F_o := F_o.gr (G4.trans G14)
  replace F_o := F_o.mb G19 hD_o
  refine V.call (fields_spec (d := d) F_o (fun k hk => by have := hD_o k hk; omega) (by first | (with_reducible assumption) | exact hz | (constructor <;> first | exact hz.an | exact hz.fr | exact hz.to | exact hz.va | exact hz.ws | exact (by decide : (S []).size ≤ 9223372036854775807) | exact (fun x hx => nomatch (show x ∈ ([] : List (ByteArray × Int)) from hx))))) rfl rfl rfl ?_
  rintro _ w23 ⟨rfl, G24⟩
  have z25 := V.Fr.size G24
  refine V.ru 3 ?_
  refine V.nt ?_
  refine V.condT rfl (fun h2 => ?_) (fun h2 => ?_)
  ·
   try replace h2 := V.dec h2
   try simp only [V.mk] at h2
   refine V.sr ?_
   refine V.ru 1 ?_
   refine V.nt ?_
   refine V.ret ?_
   refine V.bR ?_
   refine V.tR ?_
   refine V.done rfl ?_
   replace HG := HG.grow (G4.trans G14)
   replace HG := HG.n1 G19
   replace HG := HG.grow G24
   exact ⟨(congrArg Value.bool (by first | rfl | (unfold cmdB; (have e1 : ByteArray.empty = S [] := rfl); (try simp only [e1] at *); grind))), HG⟩
  ·
   try replace h2 := V.dec h2
   try simp only [V.mk] at h2
   refine V.seq ?_
   refine V.sr ?_
   refine V.ru 1 ?_
   replace Fk12 := Fk12.gr G24
   refine V.loadO T_ok Fk12 rfl rfl rfl rfl rfl ?_
   refine V.ru 1 ?_
   refine V.split (j := 2) (t := 23) rfl rfl (fun g4_2 => ?_) (fun g4_2 => ?_)
   ·
    try replace g4_2 := V.dec g4_2
    try simp only [V.mk] at g4_2
    refine V.ru 2 ?_
    refine V.yes rfl rfl rfl ?_
    replace Fk2 := Fk2.gr G24
    refine V.loadO T_ok Fk2 rfl rfl rfl rfl rfl ?_
    refine V.ru 3 ?_
    refine V.nt ?_
    refine V.condT rfl (fun h4 => ?_) (fun h4 => ?_)
    ·
     try replace h4 := V.dec h4
     try simp only [V.mk] at h4
     refine V.skip ?_
     refine V.tN ?_
     refine V.condT rfl (fun h4 => ?_) (fun h4 => ?_)
     ·
      try replace h4 := V.dec h4
      try simp only [V.mk] at h4
      refine V.sr ?_
      refine V.ru 1 ?_
      refine V.nt ?_
      refine V.ret ?_
      refine V.bR ?_
      refine V.tR ?_
      refine V.done rfl ?_
      replace HG := HG.grow (G4.trans G14)
      replace HG := HG.n1 G19
      replace HG := HG.grow G24
      exact ⟨(congrArg Value.bool (by first | rfl | (unfold cmdB; (have e1 : ByteArray.empty = S [] := rfl); (try simp only [e1] at *); grind))), HG⟩
     ·
      try replace h4 := V.dec h4
      try simp only [V.mk] at h4
      refine V.sr ?_
      refine V.ru 1 ?_
      refine V.loadO T_ok Fk12 rfl rfl rfl rfl rfl ?_
      refine V.ru 1 ?_
      refine V.split (j := 2) (t := 48) rfl rfl (fun g8_2 => ?_) (fun g8_2 => ?_)
      ·
       try replace g8_2 := V.dec g8_2
       try simp only [V.mk] at g8_2
       refine V.ru 1 ?_
       refine V.yes rfl rfl rfl ?_
       refine V.loadO T_ok Fk2 rfl rfl rfl rfl rfl ?_
       refine V.ru 3 ?_
       refine V.split (j := 7) (t := 53) rfl rfl (fun g8_7 => ?_) (fun g8_7 => ?_)
       ·
        try replace g8_7 := V.dec g8_7
        try simp only [V.mk] at g8_7
        refine V.ru 7 ?_
        refine V.nt ?_
        refine V.condY rfl rfl ?_
        refine V.sr ?_
        refine V.ru 1 ?_
        refine V.nt ?_
        refine V.ret ?_
        refine V.bR ?_
        refine V.tR ?_
        refine V.done rfl ?_
        replace HG := HG.grow (G4.trans G14)
        replace HG := HG.n1 G19
        replace HG := HG.grow G24
        exact ⟨(congrArg Value.bool (by first | rfl | (unfold cmdB; (have e1 : ByteArray.empty = S [] := rfl); (try simp only [e1] at *); grind))), HG⟩
       ·
        try replace g8_7 := V.dec g8_7
        try simp only [V.mk] at g8_7
        refine V.ru 1 ?_
        refine V.yes rfl rfl rfl ?_
        refine V.loadO T_ok Fk2 rfl rfl rfl rfl rfl ?_
        refine V.yes rfl rfl rfl ?_
        replace F_o := F_o.gr G24
        refine V.call (apart_spec F_o (fun k hk => by have := hD_o k hk; omega)) rfl rfl rfl ?_
        rintro _ w26 ⟨rfl, G27⟩
        have z28 := V.Fr.size G27
        refine V.ru 4 ?_
        refine V.nt ?_
        refine V.condT rfl (fun h8 => ?_) (fun h8 => ?_)
        ·
         try replace h8 := V.dec h8
         try simp only [V.mk] at h8
         refine V.sr ?_
         refine V.ru 1 ?_
         refine V.nt ?_
         refine V.ret ?_
         refine V.bR ?_
         refine V.tR ?_
         refine V.done rfl ?_
         replace HG := HG.grow (G4.trans G14)
         replace HG := HG.n1 G19
         replace HG := HG.grow (G24.trans G27)
         exact ⟨(congrArg Value.bool (by first | rfl | (unfold cmdB; (have e1 : ByteArray.empty = S [] := rfl); (try simp only [e1] at *); grind))), HG⟩
        ·
         try replace h8 := V.dec h8
         try simp only [V.mk] at h8
         refine V.skip ?_
         refine V.bN ?_
         refine V.tN ?_
         refine V.sr ?_
         refine V.ru 1 ?_
         refine V.nt ?_
         refine V.ret ?_
         refine V.done rfl ?_
         replace HG := HG.grow (G4.trans G14)
         replace HG := HG.n1 G19
         replace HG := HG.grow (G24.trans G27)
         exact ⟨(congrArg Value.bool (by first | rfl | (unfold cmdB; (have e1 : ByteArray.empty = S [] := rfl); (try simp only [e1] at *); grind))), HG⟩
      ·
       try replace g8_2 := V.dec g8_2
       try simp only [V.mk] at g8_2
       refine V.ru 12 ?_
       refine V.nt ?_
       refine V.condN rfl rfl ?_
       refine V.skip ?_
       refine V.bN ?_
       refine V.tN ?_
       refine V.sr ?_
       refine V.ru 1 ?_
       refine V.nt ?_
       refine V.ret ?_
       refine V.done rfl ?_
       replace HG := HG.grow (G4.trans G14)
       replace HG := HG.n1 G19
       replace HG := HG.grow G24
       exact ⟨(congrArg Value.bool (by first | rfl | (unfold cmdB; (have e1 : ByteArray.empty = S [] := rfl); (try simp only [e1] at *); grind))), HG⟩
    ·
     try replace h4 := V.dec h4
     try simp only [V.mk] at h4
     refine V.sr ?_
     refine V.ru 1 ?_
     refine V.loadO T_ok Fk12 rfl rfl rfl rfl rfl ?_
     refine V.ru 1 ?_
     refine V.split (j := 2) (t := 31) rfl rfl (fun g5_2 => ?_) (fun g5_2 => ?_)
     ·
      try replace g5_2 := V.dec g5_2
      try simp only [V.mk] at g5_2
      refine V.ru 2 ?_
      refine V.yes rfl rfl rfl ?_
      refine V.loadO T_ok Fk2 rfl rfl rfl rfl rfl ?_
      refine V.ru 3 ?_
      refine V.nt ?_
      refine V.condT rfl (fun h5 => ?_) (fun h5 => ?_)
      ·
       try replace h5 := V.dec h5
       try simp only [V.mk] at h5
       refine V.skip ?_
       refine V.tN ?_
       refine V.condT rfl (fun h5 => ?_) (fun h5 => ?_)
       ·
        try replace h5 := V.dec h5
        try simp only [V.mk] at h5
        refine V.sr ?_
        refine V.ru 1 ?_
        refine V.nt ?_
        refine V.ret ?_
        refine V.bR ?_
        refine V.tR ?_
        refine V.done rfl ?_
        replace HG := HG.grow (G4.trans G14)
        replace HG := HG.n1 G19
        replace HG := HG.grow G24
        exact ⟨(congrArg Value.bool (by first | rfl | (unfold cmdB; (have e1 : ByteArray.empty = S [] := rfl); (try simp only [e1] at *); grind))), HG⟩
       ·
        try replace h5 := V.dec h5
        try simp only [V.mk] at h5
        refine V.sr ?_
        refine V.ru 1 ?_
        refine V.loadO T_ok Fk12 rfl rfl rfl rfl rfl ?_
        refine V.ru 1 ?_
        refine V.split (j := 2) (t := 48) rfl rfl (fun g8_2 => ?_) (fun g8_2 => ?_)
        ·
         try replace g8_2 := V.dec g8_2
         try simp only [V.mk] at g8_2
         refine V.ru 1 ?_
         refine V.yes rfl rfl rfl ?_
         refine V.loadO T_ok Fk2 rfl rfl rfl rfl rfl ?_
         refine V.ru 3 ?_
         refine V.split (j := 7) (t := 53) rfl rfl (fun g8_7 => ?_) (fun g8_7 => ?_)
         ·
          try replace g8_7 := V.dec g8_7
          try simp only [V.mk] at g8_7
          refine V.ru 7 ?_
          refine V.nt ?_
          refine V.condY rfl rfl ?_
          refine V.sr ?_
          refine V.ru 1 ?_
          refine V.nt ?_
          refine V.ret ?_
          refine V.bR ?_
          refine V.tR ?_
          refine V.done rfl ?_
          replace HG := HG.grow (G4.trans G14)
          replace HG := HG.n1 G19
          replace HG := HG.grow G24
          exact ⟨(congrArg Value.bool (by first | rfl | (unfold cmdB; (have e1 : ByteArray.empty = S [] := rfl); (try simp only [e1] at *); grind))), HG⟩
         ·
          try replace g8_7 := V.dec g8_7
          try simp only [V.mk] at g8_7
          refine V.ru 1 ?_
          refine V.yes rfl rfl rfl ?_
          refine V.loadO T_ok Fk2 rfl rfl rfl rfl rfl ?_
          refine V.yes rfl rfl rfl ?_
          replace F_o := F_o.gr G24
          refine V.call (apart_spec F_o (fun k hk => by have := hD_o k hk; omega)) rfl rfl rfl ?_
          rintro _ w29 ⟨rfl, G30⟩
          have z31 := V.Fr.size G30
          refine V.ru 4 ?_
          refine V.nt ?_
          refine V.condT rfl (fun h8 => ?_) (fun h8 => ?_)
          ·
           try replace h8 := V.dec h8
           try simp only [V.mk] at h8
           refine V.sr ?_
           refine V.ru 1 ?_
           refine V.nt ?_
           refine V.ret ?_
           refine V.bR ?_
           refine V.tR ?_
           refine V.done rfl ?_
           replace HG := HG.grow (G4.trans G14)
           replace HG := HG.n1 G19
           replace HG := HG.grow (G24.trans G30)
           exact ⟨(congrArg Value.bool (by first | rfl | (unfold cmdB; (have e1 : ByteArray.empty = S [] := rfl); (try simp only [e1] at *); grind))), HG⟩
          ·
           try replace h8 := V.dec h8
           try simp only [V.mk] at h8
           refine V.skip ?_
           refine V.bN ?_
           refine V.tN ?_
           refine V.sr ?_
           refine V.ru 1 ?_
           refine V.nt ?_
           refine V.ret ?_
           refine V.done rfl ?_
           replace HG := HG.grow (G4.trans G14)
           replace HG := HG.n1 G19
           replace HG := HG.grow (G24.trans G30)
           exact ⟨(congrArg Value.bool (by first | rfl | (unfold cmdB; (have e1 : ByteArray.empty = S [] := rfl); (try simp only [e1] at *); grind))), HG⟩
        ·
         try replace g8_2 := V.dec g8_2
         try simp only [V.mk] at g8_2
         refine V.ru 12 ?_
         refine V.nt ?_
         refine V.condN rfl rfl ?_
         refine V.skip ?_
         refine V.bN ?_
         refine V.tN ?_
         refine V.sr ?_
         refine V.ru 1 ?_
         refine V.nt ?_
         refine V.ret ?_
         refine V.done rfl ?_
         replace HG := HG.grow (G4.trans G14)
         replace HG := HG.n1 G19
         replace HG := HG.grow G24
         exact ⟨(congrArg Value.bool (by first | rfl | (unfold cmdB; (have e1 : ByteArray.empty = S [] := rfl); (try simp only [e1] at *); grind))), HG⟩
      ·
       try replace h5 := V.dec h5
       try simp only [V.mk] at h5
       refine V.region ?_
       refine V.ru 1 ?_
       refine V.loadO T_ok Fk12 rfl rfl rfl rfl rfl ?_
       refine V.ru 1 ?_
       refine V.split (j := 2) (t := 39) rfl rfl (fun g6_2 => ?_) (fun g6_2 => ?_)
       ·
        try replace g6_2 := V.dec g6_2
        try simp only [V.mk] at g6_2
        refine V.ru 2 ?_
        refine V.yes rfl rfl rfl ?_
        refine V.loadO T_ok Fk2 rfl rfl rfl rfl rfl ?_
        refine V.ru 3 ?_
        refine V.nt ?_
        refine V.condT rfl (fun h6 => ?_) (fun h6 => ?_)
        ·
         try replace h6 := V.dec h6
         try simp only [V.mk] at h6
         refine V.sr ?_
         refine V.ru 1 ?_
         refine V.nt ?_
         refine V.ret ?_
         refine V.bR ?_
         refine V.tR ?_
         refine V.done rfl ?_
         replace HG := HG.grow (G4.trans G14)
         replace HG := HG.n1 G19
         replace HG := HG.grow G24
         exact ⟨(congrArg Value.bool (by first | rfl | (unfold cmdB; (have e1 : ByteArray.empty = S [] := rfl); (try simp only [e1] at *); grind))), HG⟩
        ·
         try replace h6 := V.dec h6
         try simp only [V.mk] at h6
         refine V.sr ?_
         refine V.ru 1 ?_
         refine V.loadO T_ok Fk12 rfl rfl rfl rfl rfl ?_
         refine V.ru 1 ?_
         refine V.split (j := 2) (t := 48) rfl rfl (fun g8_2 => ?_) (fun g8_2 => ?_)
         ·
          try replace g8_2 := V.dec g8_2
          try simp only [V.mk] at g8_2
          refine V.ru 1 ?_
          refine V.yes rfl rfl rfl ?_
          refine V.loadO T_ok Fk2 rfl rfl rfl rfl rfl ?_
          refine V.ru 3 ?_
          refine V.split (j := 7) (t := 53) rfl rfl (fun g8_7 => ?_) (fun g8_7 => ?_)
          ·
           try replace g8_7 := V.dec g8_7
           try simp only [V.mk] at g8_7
           refine V.ru 7 ?_
           refine V.nt ?_
           refine V.condY rfl rfl ?_
           refine V.sr ?_
           refine V.ru 1 ?_
           refine V.nt ?_
           refine V.ret ?_
           refine V.bR ?_
           refine V.tR ?_
           refine V.done rfl ?_
           replace HG := HG.grow (G4.trans G14)
           replace HG := HG.n1 G19
           replace HG := HG.grow G24
           exact ⟨(congrArg Value.bool (by first | rfl | (unfold cmdB; (have e1 : ByteArray.empty = S [] := rfl); (try simp only [e1] at *); grind))), HG⟩
          ·
           try replace g8_7 := V.dec g8_7
           try simp only [V.mk] at g8_7
           refine V.ru 1 ?_
           refine V.yes rfl rfl rfl ?_
           refine V.loadO T_ok Fk2 rfl rfl rfl rfl rfl ?_
           refine V.yes rfl rfl rfl ?_
           replace F_o := F_o.gr G24
           refine V.call (apart_spec F_o (fun k hk => by have := hD_o k hk; omega)) rfl rfl rfl ?_
           rintro _ w32 ⟨rfl, G33⟩
           have z34 := V.Fr.size G33
           refine V.ru 4 ?_
           refine V.nt ?_
           refine V.condT rfl (fun h8 => ?_) (fun h8 => ?_)
           ·
            try replace h8 := V.dec h8
            try simp only [V.mk] at h8
            refine V.sr ?_
            refine V.ru 1 ?_
            refine V.nt ?_
            refine V.ret ?_
            refine V.bR ?_
            refine V.tR ?_
            refine V.done rfl ?_
            replace HG := HG.grow (G4.trans G14)
            replace HG := HG.n1 G19
            replace HG := HG.grow (G24.trans G33)
            exact ⟨(congrArg Value.bool (by first | rfl | (unfold cmdB; (have e1 : ByteArray.empty = S [] := rfl); (try simp only [e1] at *); grind))), HG⟩
           ·
            try replace h8 := V.dec h8
            try simp only [V.mk] at h8
            refine V.skip ?_
            refine V.bN ?_
            refine V.tN ?_
            refine V.sr ?_
            refine V.ru 1 ?_
            refine V.nt ?_
            refine V.ret ?_
            refine V.done rfl ?_
            replace HG := HG.grow (G4.trans G14)
            replace HG := HG.n1 G19
            replace HG := HG.grow (G24.trans G33)
            exact ⟨(congrArg Value.bool (by first | rfl | (unfold cmdB; (have e1 : ByteArray.empty = S [] := rfl); (try simp only [e1] at *); grind))), HG⟩
         ·
          try replace g8_2 := V.dec g8_2
          try simp only [V.mk] at g8_2
          refine V.ru 12 ?_
          refine V.nt ?_
          refine V.condN rfl rfl ?_
          refine V.skip ?_
          refine V.bN ?_
          refine V.tN ?_
          refine V.sr ?_
          refine V.ru 1 ?_
          refine V.nt ?_
          refine V.ret ?_
          refine V.done rfl ?_
          replace HG := HG.grow (G4.trans G14)
          replace HG := HG.n1 G19
          replace HG := HG.grow G24
          exact ⟨(congrArg Value.bool (by first | rfl | (unfold cmdB; (have e1 : ByteArray.empty = S [] := rfl); (try simp only [e1] at *); grind))), HG⟩
       ·
        try replace g6_2 := V.dec g6_2
        try simp only [V.mk] at g6_2
        refine V.ru 6 ?_
        refine V.nt ?_
        refine V.condN rfl rfl ?_
        refine V.sr ?_
        refine V.ru 1 ?_
        refine V.loadO T_ok Fk12 rfl rfl rfl rfl rfl ?_
        refine V.ru 1 ?_
        refine V.split (j := 2) (t := 48) rfl rfl (fun g8_2 => ?_) (fun g8_2 => ?_)
        ·
         try replace g8_2 := V.dec g8_2
         try simp only [V.mk] at g8_2
         refine V.ru 1 ?_
         refine V.yes rfl rfl rfl ?_
         refine V.loadO T_ok Fk2 rfl rfl rfl rfl rfl ?_
         refine V.ru 3 ?_
         refine V.split (j := 7) (t := 53) rfl rfl (fun g8_7 => ?_) (fun g8_7 => ?_)
         ·
          try replace g8_7 := V.dec g8_7
          try simp only [V.mk] at g8_7
          refine V.ru 7 ?_
          refine V.nt ?_
          refine V.condY rfl rfl ?_
          refine V.sr ?_
          refine V.ru 1 ?_
          refine V.nt ?_
          refine V.ret ?_
          refine V.bR ?_
          refine V.tR ?_
          refine V.done rfl ?_
          replace HG := HG.grow (G4.trans G14)
          replace HG := HG.n1 G19
          replace HG := HG.grow G24
          exact ⟨(congrArg Value.bool (by first | rfl | (unfold cmdB; (have e1 : ByteArray.empty = S [] := rfl); (try simp only [e1] at *); grind))), HG⟩
         ·
          try replace g8_7 := V.dec g8_7
          try simp only [V.mk] at g8_7
          refine V.ru 1 ?_
          refine V.yes rfl rfl rfl ?_
          refine V.loadO T_ok Fk2 rfl rfl rfl rfl rfl ?_
          refine V.yes rfl rfl rfl ?_
          replace F_o := F_o.gr G24
          refine V.call (apart_spec F_o (fun k hk => by have := hD_o k hk; omega)) rfl rfl rfl ?_
          rintro _ w35 ⟨rfl, G36⟩
          have z37 := V.Fr.size G36
          refine V.ru 4 ?_
          refine V.nt ?_
          refine V.condT rfl (fun h8 => ?_) (fun h8 => ?_)
          ·
           try replace h8 := V.dec h8
           try simp only [V.mk] at h8
           refine V.sr ?_
           refine V.ru 1 ?_
           refine V.nt ?_
           refine V.ret ?_
           refine V.bR ?_
           refine V.tR ?_
           refine V.done rfl ?_
           replace HG := HG.grow (G4.trans G14)
           replace HG := HG.n1 G19
           replace HG := HG.grow (G24.trans G36)
           exact ⟨(congrArg Value.bool (by first | rfl | (unfold cmdB; (have e1 : ByteArray.empty = S [] := rfl); (try simp only [e1] at *); grind))), HG⟩
          ·
           try replace h8 := V.dec h8
           try simp only [V.mk] at h8
           refine V.skip ?_
           refine V.bN ?_
           refine V.tN ?_
           refine V.sr ?_
           refine V.ru 1 ?_
           refine V.nt ?_
           refine V.ret ?_
           refine V.done rfl ?_
           replace HG := HG.grow (G4.trans G14)
           replace HG := HG.n1 G19
           replace HG := HG.grow (G24.trans G36)
           exact ⟨(congrArg Value.bool (by first | rfl | (unfold cmdB; (have e1 : ByteArray.empty = S [] := rfl); (try simp only [e1] at *); grind))), HG⟩
        ·
         try replace g8_2 := V.dec g8_2
         try simp only [V.mk] at g8_2
         refine V.ru 12 ?_
         refine V.nt ?_
         refine V.condN rfl rfl ?_
         refine V.skip ?_
         refine V.bN ?_
         refine V.tN ?_
         refine V.sr ?_
         refine V.ru 1 ?_
         refine V.nt ?_
         refine V.ret ?_
         refine V.done rfl ?_
         replace HG := HG.grow (G4.trans G14)
         replace HG := HG.n1 G19
         replace HG := HG.grow G24
         exact ⟨(congrArg Value.bool (by first | rfl | (unfold cmdB; (have e1 : ByteArray.empty = S [] := rfl); (try simp only [e1] at *); grind))), HG⟩
     ·
      try replace g5_2 := V.dec g5_2
      try simp only [V.mk] at g5_2
      refine V.ru 6 ?_
      refine V.nt ?_
      refine V.condN rfl rfl ?_
      refine V.region ?_
      refine V.ru 1 ?_
      refine V.loadO T_ok Fk12 rfl rfl rfl rfl rfl ?_
      refine V.ru 1 ?_
      refine V.split (j := 2) (t := 39) rfl rfl (fun g6_2 => ?_) (fun g6_2 => ?_)
      ·
       try replace g6_2 := V.dec g6_2
       try simp only [V.mk] at g6_2
       refine V.ru 2 ?_
       refine V.yes rfl rfl rfl ?_
       refine V.loadO T_ok Fk2 rfl rfl rfl rfl rfl ?_
       refine V.ru 3 ?_
       refine V.nt ?_
       refine V.condT rfl (fun h6 => ?_) (fun h6 => ?_)
       ·
        try replace h6 := V.dec h6
        try simp only [V.mk] at h6
        refine V.sr ?_
        refine V.ru 1 ?_
        refine V.nt ?_
        refine V.ret ?_
        refine V.bR ?_
        refine V.tR ?_
        refine V.done rfl ?_
        replace HG := HG.grow (G4.trans G14)
        replace HG := HG.n1 G19
        replace HG := HG.grow G24
        exact ⟨(congrArg Value.bool (by first | rfl | (unfold cmdB; (have e1 : ByteArray.empty = S [] := rfl); (try simp only [e1] at *); grind))), HG⟩
       ·
        try replace h6 := V.dec h6
        try simp only [V.mk] at h6
        refine V.sr ?_
        refine V.ru 1 ?_
        refine V.loadO T_ok Fk12 rfl rfl rfl rfl rfl ?_
        refine V.ru 1 ?_
        refine V.split (j := 2) (t := 48) rfl rfl (fun g8_2 => ?_) (fun g8_2 => ?_)
        ·
         try replace g8_2 := V.dec g8_2
         try simp only [V.mk] at g8_2
         refine V.ru 1 ?_
         refine V.yes rfl rfl rfl ?_
         refine V.loadO T_ok Fk2 rfl rfl rfl rfl rfl ?_
         refine V.ru 3 ?_
         refine V.split (j := 7) (t := 53) rfl rfl (fun g8_7 => ?_) (fun g8_7 => ?_)
         ·
          try replace g8_7 := V.dec g8_7
          try simp only [V.mk] at g8_7
          refine V.ru 7 ?_
          refine V.nt ?_
          refine V.condY rfl rfl ?_
          refine V.sr ?_
          refine V.ru 1 ?_
          refine V.nt ?_
          refine V.ret ?_
          refine V.bR ?_
          refine V.tR ?_
          refine V.done rfl ?_
          replace HG := HG.grow (G4.trans G14)
          replace HG := HG.n1 G19
          replace HG := HG.grow G24
          exact ⟨(congrArg Value.bool (by first | rfl | (unfold cmdB; (have e1 : ByteArray.empty = S [] := rfl); (try simp only [e1] at *); grind))), HG⟩
         ·
          try replace g8_7 := V.dec g8_7
          try simp only [V.mk] at g8_7
          refine V.ru 1 ?_
          refine V.yes rfl rfl rfl ?_
          refine V.loadO T_ok Fk2 rfl rfl rfl rfl rfl ?_
          refine V.yes rfl rfl rfl ?_
          replace F_o := F_o.gr G24
          refine V.call (apart_spec F_o (fun k hk => by have := hD_o k hk; omega)) rfl rfl rfl ?_
          rintro _ w38 ⟨rfl, G39⟩
          have z40 := V.Fr.size G39
          refine V.ru 4 ?_
          refine V.nt ?_
          refine V.condT rfl (fun h8 => ?_) (fun h8 => ?_)
          ·
           try replace h8 := V.dec h8
           try simp only [V.mk] at h8
           refine V.sr ?_
           refine V.ru 1 ?_
           refine V.nt ?_
           refine V.ret ?_
           refine V.bR ?_
           refine V.tR ?_
           refine V.done rfl ?_
           replace HG := HG.grow (G4.trans G14)
           replace HG := HG.n1 G19
           replace HG := HG.grow (G24.trans G39)
           exact ⟨(congrArg Value.bool (by first | rfl | (unfold cmdB; (have e1 : ByteArray.empty = S [] := rfl); (try simp only [e1] at *); grind))), HG⟩
          ·
           try replace h8 := V.dec h8
           try simp only [V.mk] at h8
           refine V.skip ?_
           refine V.bN ?_
           refine V.tN ?_
           refine V.sr ?_
           refine V.ru 1 ?_
           refine V.nt ?_
           refine V.ret ?_
           refine V.done rfl ?_
           replace HG := HG.grow (G4.trans G14)
           replace HG := HG.n1 G19
           replace HG := HG.grow (G24.trans G39)
           exact ⟨(congrArg Value.bool (by first | rfl | (unfold cmdB; (have e1 : ByteArray.empty = S [] := rfl); (try simp only [e1] at *); grind))), HG⟩
        ·
         try replace g8_2 := V.dec g8_2
         try simp only [V.mk] at g8_2
         refine V.ru 12 ?_
         refine V.nt ?_
         refine V.condN rfl rfl ?_
         refine V.skip ?_
         refine V.bN ?_
         refine V.tN ?_
         refine V.sr ?_
         refine V.ru 1 ?_
         refine V.nt ?_
         refine V.ret ?_
         refine V.done rfl ?_
         replace HG := HG.grow (G4.trans G14)
         replace HG := HG.n1 G19
         replace HG := HG.grow G24
         exact ⟨(congrArg Value.bool (by first | rfl | (unfold cmdB; (have e1 : ByteArray.empty = S [] := rfl); (try simp only [e1] at *); grind))), HG⟩
      ·
       try replace g6_2 := V.dec g6_2
       try simp only [V.mk] at g6_2
       refine V.ru 6 ?_
       refine V.nt ?_
       refine V.condN rfl rfl ?_
       refine V.sr ?_
       refine V.ru 1 ?_
       refine V.loadO T_ok Fk12 rfl rfl rfl rfl rfl ?_
       refine V.ru 1 ?_
       refine V.split (j := 2) (t := 48) rfl rfl (fun g8_2 => ?_) (fun g8_2 => ?_)
       ·
        try replace g8_2 := V.dec g8_2
        try simp only [V.mk] at g8_2
        refine V.ru 1 ?_
        refine V.yes rfl rfl rfl ?_
        refine V.loadO T_ok Fk2 rfl rfl rfl rfl rfl ?_
        refine V.ru 3 ?_
        refine V.split (j := 7) (t := 53) rfl rfl (fun g8_7 => ?_) (fun g8_7 => ?_)
        ·
         try replace g8_7 := V.dec g8_7
         try simp only [V.mk] at g8_7
         refine V.ru 7 ?_
         refine V.nt ?_
         refine V.condY rfl rfl ?_
         refine V.sr ?_
         refine V.ru 1 ?_
         refine V.nt ?_
         refine V.ret ?_
         refine V.bR ?_
         refine V.tR ?_
         refine V.done rfl ?_
         replace HG := HG.grow (G4.trans G14)
         replace HG := HG.n1 G19
         replace HG := HG.grow G24
         exact ⟨(congrArg Value.bool (by first | rfl | (unfold cmdB; (have e1 : ByteArray.empty = S [] := rfl); (try simp only [e1] at *); grind))), HG⟩
        ·
         try replace g8_7 := V.dec g8_7
         try simp only [V.mk] at g8_7
         refine V.ru 1 ?_
         refine V.yes rfl rfl rfl ?_
         refine V.loadO T_ok Fk2 rfl rfl rfl rfl rfl ?_
         refine V.yes rfl rfl rfl ?_
         replace F_o := F_o.gr G24
         refine V.call (apart_spec F_o (fun k hk => by have := hD_o k hk; omega)) rfl rfl rfl ?_
         rintro _ w41 ⟨rfl, G42⟩
         have z43 := V.Fr.size G42
         refine V.ru 4 ?_
         refine V.nt ?_
         refine V.condT rfl (fun h8 => ?_) (fun h8 => ?_)
         ·
          try replace h8 := V.dec h8
          try simp only [V.mk] at h8
          refine V.sr ?_
          refine V.ru 1 ?_
          refine V.nt ?_
          refine V.ret ?_
          refine V.bR ?_
          refine V.tR ?_
          refine V.done rfl ?_
          replace HG := HG.grow (G4.trans G14)
          replace HG := HG.n1 G19
          replace HG := HG.grow (G24.trans G42)
          exact ⟨(congrArg Value.bool (by first | rfl | (unfold cmdB; (have e1 : ByteArray.empty = S [] := rfl); (try simp only [e1] at *); grind))), HG⟩
         ·
          try replace h8 := V.dec h8
          try simp only [V.mk] at h8
          refine V.skip ?_
          refine V.bN ?_
          refine V.tN ?_
          refine V.sr ?_
          refine V.ru 1 ?_
          refine V.nt ?_
          refine V.ret ?_
          refine V.done rfl ?_
          replace HG := HG.grow (G4.trans G14)
          replace HG := HG.n1 G19
          replace HG := HG.grow (G24.trans G42)
          exact ⟨(congrArg Value.bool (by first | rfl | (unfold cmdB; (have e1 : ByteArray.empty = S [] := rfl); (try simp only [e1] at *); grind))), HG⟩
       ·
        try replace g8_2 := V.dec g8_2
        try simp only [V.mk] at g8_2
        refine V.ru 12 ?_
        refine V.nt ?_
        refine V.condN rfl rfl ?_
        refine V.skip ?_
        refine V.bN ?_
        refine V.tN ?_
        refine V.sr ?_
        refine V.ru 1 ?_
        refine V.nt ?_
        refine V.ret ?_
        refine V.done rfl ?_
        replace HG := HG.grow (G4.trans G14)
        replace HG := HG.n1 G19
        replace HG := HG.grow G24
        exact ⟨(congrArg Value.bool (by first | rfl | (unfold cmdB; (have e1 : ByteArray.empty = S [] := rfl); (try simp only [e1] at *); grind))), HG⟩
   ·
    try replace g4_2 := V.dec g4_2
    try simp only [V.mk] at g4_2
    refine V.ru 6 ?_
    refine V.nt ?_
    refine V.condN rfl rfl ?_
    refine V.sr ?_
    refine V.ru 1 ?_
    refine V.loadO T_ok Fk12 rfl rfl rfl rfl rfl ?_
    refine V.ru 1 ?_
    refine V.split (j := 2) (t := 31) rfl rfl (fun g5_2 => ?_) (fun g5_2 => ?_)
    ·
     try replace g5_2 := V.dec g5_2
     try simp only [V.mk] at g5_2
     refine V.ru 2 ?_
     refine V.yes rfl rfl rfl ?_
     replace Fk2 := Fk2.gr G24
     refine V.loadO T_ok Fk2 rfl rfl rfl rfl rfl ?_
     refine V.ru 3 ?_
     refine V.nt ?_
     refine V.condT rfl (fun h5 => ?_) (fun h5 => ?_)
     ·
      try replace h5 := V.dec h5
      try simp only [V.mk] at h5
      refine V.skip ?_
      refine V.tN ?_
      refine V.condT rfl (fun h5 => ?_) (fun h5 => ?_)
      ·
       try replace h5 := V.dec h5
       try simp only [V.mk] at h5
       refine V.sr ?_
       refine V.ru 1 ?_
       refine V.nt ?_
       refine V.ret ?_
       refine V.bR ?_
       refine V.tR ?_
       refine V.done rfl ?_
       replace HG := HG.grow (G4.trans G14)
       replace HG := HG.n1 G19
       replace HG := HG.grow G24
       exact ⟨(congrArg Value.bool (by first | rfl | (unfold cmdB; (have e1 : ByteArray.empty = S [] := rfl); (try simp only [e1] at *); grind))), HG⟩
      ·
       try replace h5 := V.dec h5
       try simp only [V.mk] at h5
       refine V.sr ?_
       refine V.ru 1 ?_
       refine V.loadO T_ok Fk12 rfl rfl rfl rfl rfl ?_
       refine V.ru 1 ?_
       refine V.split (j := 2) (t := 48) rfl rfl (fun g8_2 => ?_) (fun g8_2 => ?_)
       ·
        try replace g8_2 := V.dec g8_2
        try simp only [V.mk] at g8_2
        refine V.ru 1 ?_
        refine V.yes rfl rfl rfl ?_
        refine V.loadO T_ok Fk2 rfl rfl rfl rfl rfl ?_
        refine V.ru 3 ?_
        refine V.split (j := 7) (t := 53) rfl rfl (fun g8_7 => ?_) (fun g8_7 => ?_)
        ·
         try replace g8_7 := V.dec g8_7
         try simp only [V.mk] at g8_7
         refine V.ru 7 ?_
         refine V.nt ?_
         refine V.condY rfl rfl ?_
         refine V.sr ?_
         refine V.ru 1 ?_
         refine V.nt ?_
         refine V.ret ?_
         refine V.bR ?_
         refine V.tR ?_
         refine V.done rfl ?_
         replace HG := HG.grow (G4.trans G14)
         replace HG := HG.n1 G19
         replace HG := HG.grow G24
         exact ⟨(congrArg Value.bool (by first | rfl | (unfold cmdB; (have e1 : ByteArray.empty = S [] := rfl); (try simp only [e1] at *); grind))), HG⟩
        ·
         try replace g8_7 := V.dec g8_7
         try simp only [V.mk] at g8_7
         refine V.ru 1 ?_
         refine V.yes rfl rfl rfl ?_
         refine V.loadO T_ok Fk2 rfl rfl rfl rfl rfl ?_
         refine V.yes rfl rfl rfl ?_
         replace F_o := F_o.gr G24
         refine V.call (apart_spec F_o (fun k hk => by have := hD_o k hk; omega)) rfl rfl rfl ?_
         rintro _ w44 ⟨rfl, G45⟩
         have z46 := V.Fr.size G45
         refine V.ru 4 ?_
         refine V.nt ?_
         refine V.condT rfl (fun h8 => ?_) (fun h8 => ?_)
         ·
          try replace h8 := V.dec h8
          try simp only [V.mk] at h8
          refine V.sr ?_
          refine V.ru 1 ?_
          refine V.nt ?_
          refine V.ret ?_
          refine V.bR ?_
          refine V.tR ?_
          refine V.done rfl ?_
          replace HG := HG.grow (G4.trans G14)
          replace HG := HG.n1 G19
          replace HG := HG.grow (G24.trans G45)
          exact ⟨(congrArg Value.bool (by first | rfl | (unfold cmdB; (have e1 : ByteArray.empty = S [] := rfl); (try simp only [e1] at *); grind))), HG⟩
         ·
          try replace h8 := V.dec h8
          try simp only [V.mk] at h8
          refine V.skip ?_
          refine V.bN ?_
          refine V.tN ?_
          refine V.sr ?_
          refine V.ru 1 ?_
          refine V.nt ?_
          refine V.ret ?_
          refine V.done rfl ?_
          replace HG := HG.grow (G4.trans G14)
          replace HG := HG.n1 G19
          replace HG := HG.grow (G24.trans G45)
          exact ⟨(congrArg Value.bool (by first | rfl | (unfold cmdB; (have e1 : ByteArray.empty = S [] := rfl); (try simp only [e1] at *); grind))), HG⟩
       ·
        try replace g8_2 := V.dec g8_2
        try simp only [V.mk] at g8_2
        refine V.ru 12 ?_
        refine V.nt ?_
        refine V.condN rfl rfl ?_
        refine V.skip ?_
        refine V.bN ?_
        refine V.tN ?_
        refine V.sr ?_
        refine V.ru 1 ?_
        refine V.nt ?_
        refine V.ret ?_
        refine V.done rfl ?_
        replace HG := HG.grow (G4.trans G14)
        replace HG := HG.n1 G19
        replace HG := HG.grow G24
        exact ⟨(congrArg Value.bool (by first | rfl | (unfold cmdB; (have e1 : ByteArray.empty = S [] := rfl); (try simp only [e1] at *); grind))), HG⟩
     ·
      try replace h5 := V.dec h5
      try simp only [V.mk] at h5
      refine V.region ?_
      refine V.ru 1 ?_
      refine V.loadO T_ok Fk12 rfl rfl rfl rfl rfl ?_
      refine V.ru 1 ?_
      refine V.split (j := 2) (t := 39) rfl rfl (fun g6_2 => ?_) (fun g6_2 => ?_)
      ·
       try replace g6_2 := V.dec g6_2
       try simp only [V.mk] at g6_2
       refine V.ru 2 ?_
       refine V.yes rfl rfl rfl ?_
       refine V.loadO T_ok Fk2 rfl rfl rfl rfl rfl ?_
       refine V.ru 3 ?_
       refine V.nt ?_
       refine V.condT rfl (fun h6 => ?_) (fun h6 => ?_)
       ·
        try replace h6 := V.dec h6
        try simp only [V.mk] at h6
        refine V.sr ?_
        refine V.ru 1 ?_
        refine V.nt ?_
        refine V.ret ?_
        refine V.bR ?_
        refine V.tR ?_
        refine V.done rfl ?_
        replace HG := HG.grow (G4.trans G14)
        replace HG := HG.n1 G19
        replace HG := HG.grow G24
        exact ⟨(congrArg Value.bool (by first | rfl | (unfold cmdB; (have e1 : ByteArray.empty = S [] := rfl); (try simp only [e1] at *); grind))), HG⟩
       ·
        try replace h6 := V.dec h6
        try simp only [V.mk] at h6
        refine V.sr ?_
        refine V.ru 1 ?_
        refine V.loadO T_ok Fk12 rfl rfl rfl rfl rfl ?_
        refine V.ru 1 ?_
        refine V.split (j := 2) (t := 48) rfl rfl (fun g8_2 => ?_) (fun g8_2 => ?_)
        ·
         try replace g8_2 := V.dec g8_2
         try simp only [V.mk] at g8_2
         refine V.ru 1 ?_
         refine V.yes rfl rfl rfl ?_
         refine V.loadO T_ok Fk2 rfl rfl rfl rfl rfl ?_
         refine V.ru 3 ?_
         refine V.split (j := 7) (t := 53) rfl rfl (fun g8_7 => ?_) (fun g8_7 => ?_)
         ·
          try replace g8_7 := V.dec g8_7
          try simp only [V.mk] at g8_7
          refine V.ru 7 ?_
          refine V.nt ?_
          refine V.condY rfl rfl ?_
          refine V.sr ?_
          refine V.ru 1 ?_
          refine V.nt ?_
          refine V.ret ?_
          refine V.bR ?_
          refine V.tR ?_
          refine V.done rfl ?_
          replace HG := HG.grow (G4.trans G14)
          replace HG := HG.n1 G19
          replace HG := HG.grow G24
          exact ⟨(congrArg Value.bool (by first | rfl | (unfold cmdB; (have e1 : ByteArray.empty = S [] := rfl); (try simp only [e1] at *); grind))), HG⟩
         ·
          try replace g8_7 := V.dec g8_7
          try simp only [V.mk] at g8_7
          refine V.ru 1 ?_
          refine V.yes rfl rfl rfl ?_
          refine V.loadO T_ok Fk2 rfl rfl rfl rfl rfl ?_
          refine V.yes rfl rfl rfl ?_
          replace F_o := F_o.gr G24
          refine V.call (apart_spec F_o (fun k hk => by have := hD_o k hk; omega)) rfl rfl rfl ?_
          rintro _ w47 ⟨rfl, G48⟩
          have z49 := V.Fr.size G48
          refine V.ru 4 ?_
          refine V.nt ?_
          refine V.condT rfl (fun h8 => ?_) (fun h8 => ?_)
          ·
           try replace h8 := V.dec h8
           try simp only [V.mk] at h8
           refine V.sr ?_
           refine V.ru 1 ?_
           refine V.nt ?_
           refine V.ret ?_
           refine V.bR ?_
           refine V.tR ?_
           refine V.done rfl ?_
           replace HG := HG.grow (G4.trans G14)
           replace HG := HG.n1 G19
           replace HG := HG.grow (G24.trans G48)
           exact ⟨(congrArg Value.bool (by first | rfl | (unfold cmdB; (have e1 : ByteArray.empty = S [] := rfl); (try simp only [e1] at *); grind))), HG⟩
          ·
           try replace h8 := V.dec h8
           try simp only [V.mk] at h8
           refine V.skip ?_
           refine V.bN ?_
           refine V.tN ?_
           refine V.sr ?_
           refine V.ru 1 ?_
           refine V.nt ?_
           refine V.ret ?_
           refine V.done rfl ?_
           replace HG := HG.grow (G4.trans G14)
           replace HG := HG.n1 G19
           replace HG := HG.grow (G24.trans G48)
           exact ⟨(congrArg Value.bool (by first | rfl | (unfold cmdB; (have e1 : ByteArray.empty = S [] := rfl); (try simp only [e1] at *); grind))), HG⟩
        ·
         try replace g8_2 := V.dec g8_2
         try simp only [V.mk] at g8_2
         refine V.ru 12 ?_
         refine V.nt ?_
         refine V.condN rfl rfl ?_
         refine V.skip ?_
         refine V.bN ?_
         refine V.tN ?_
         refine V.sr ?_
         refine V.ru 1 ?_
         refine V.nt ?_
         refine V.ret ?_
         refine V.done rfl ?_
         replace HG := HG.grow (G4.trans G14)
         replace HG := HG.n1 G19
         replace HG := HG.grow G24
         exact ⟨(congrArg Value.bool (by first | rfl | (unfold cmdB; (have e1 : ByteArray.empty = S [] := rfl); (try simp only [e1] at *); grind))), HG⟩
      ·
       try replace g6_2 := V.dec g6_2
       try simp only [V.mk] at g6_2
       refine V.ru 6 ?_
       refine V.nt ?_
       refine V.condN rfl rfl ?_
       refine V.sr ?_
       refine V.ru 1 ?_
       refine V.loadO T_ok Fk12 rfl rfl rfl rfl rfl ?_
       refine V.ru 1 ?_
       refine V.split (j := 2) (t := 48) rfl rfl (fun g8_2 => ?_) (fun g8_2 => ?_)
       ·
        try replace g8_2 := V.dec g8_2
        try simp only [V.mk] at g8_2
        refine V.ru 1 ?_
        refine V.yes rfl rfl rfl ?_
        refine V.loadO T_ok Fk2 rfl rfl rfl rfl rfl ?_
        refine V.ru 3 ?_
        refine V.split (j := 7) (t := 53) rfl rfl (fun g8_7 => ?_) (fun g8_7 => ?_)
        ·
         try replace g8_7 := V.dec g8_7
         try simp only [V.mk] at g8_7
         refine V.ru 7 ?_
         refine V.nt ?_
         refine V.condY rfl rfl ?_
         refine V.sr ?_
         refine V.ru 1 ?_
         refine V.nt ?_
         refine V.ret ?_
         refine V.bR ?_
         refine V.tR ?_
         refine V.done rfl ?_
         replace HG := HG.grow (G4.trans G14)
         replace HG := HG.n1 G19
         replace HG := HG.grow G24
         exact ⟨(congrArg Value.bool (by first | rfl | (unfold cmdB; (have e1 : ByteArray.empty = S [] := rfl); (try simp only [e1] at *); grind))), HG⟩
        ·
         try replace g8_7 := V.dec g8_7
         try simp only [V.mk] at g8_7
         refine V.ru 1 ?_
         refine V.yes rfl rfl rfl ?_
         refine V.loadO T_ok Fk2 rfl rfl rfl rfl rfl ?_
         refine V.yes rfl rfl rfl ?_
         replace F_o := F_o.gr G24
         refine V.call (apart_spec F_o (fun k hk => by have := hD_o k hk; omega)) rfl rfl rfl ?_
         rintro _ w50 ⟨rfl, G51⟩
         have z52 := V.Fr.size G51
         refine V.ru 4 ?_
         refine V.nt ?_
         refine V.condT rfl (fun h8 => ?_) (fun h8 => ?_)
         ·
          try replace h8 := V.dec h8
          try simp only [V.mk] at h8
          refine V.sr ?_
          refine V.ru 1 ?_
          refine V.nt ?_
          refine V.ret ?_
          refine V.bR ?_
          refine V.tR ?_
          refine V.done rfl ?_
          replace HG := HG.grow (G4.trans G14)
          replace HG := HG.n1 G19
          replace HG := HG.grow (G24.trans G51)
          exact ⟨(congrArg Value.bool (by first | rfl | (unfold cmdB; (have e1 : ByteArray.empty = S [] := rfl); (try simp only [e1] at *); grind))), HG⟩
         ·
          try replace h8 := V.dec h8
          try simp only [V.mk] at h8
          refine V.skip ?_
          refine V.bN ?_
          refine V.tN ?_
          refine V.sr ?_
          refine V.ru 1 ?_
          refine V.nt ?_
          refine V.ret ?_
          refine V.done rfl ?_
          replace HG := HG.grow (G4.trans G14)
          replace HG := HG.n1 G19
          replace HG := HG.grow (G24.trans G51)
          exact ⟨(congrArg Value.bool (by first | rfl | (unfold cmdB; (have e1 : ByteArray.empty = S [] := rfl); (try simp only [e1] at *); grind))), HG⟩
       ·
        try replace g8_2 := V.dec g8_2
        try simp only [V.mk] at g8_2
        refine V.ru 12 ?_
        refine V.nt ?_
        refine V.condN rfl rfl ?_
        refine V.skip ?_
        refine V.bN ?_
        refine V.tN ?_
        refine V.sr ?_
        refine V.ru 1 ?_
        refine V.nt ?_
        refine V.ret ?_
        refine V.done rfl ?_
        replace HG := HG.grow (G4.trans G14)
        replace HG := HG.n1 G19
        replace HG := HG.grow G24
        exact ⟨(congrArg Value.bool (by first | rfl | (unfold cmdB; (have e1 : ByteArray.empty = S [] := rfl); (try simp only [e1] at *); grind))), HG⟩
    ·
     try replace g5_2 := V.dec g5_2
     try simp only [V.mk] at g5_2
     refine V.ru 6 ?_
     refine V.nt ?_
     refine V.condN rfl rfl ?_
     refine V.region ?_
     refine V.ru 1 ?_
     refine V.loadO T_ok Fk12 rfl rfl rfl rfl rfl ?_
     refine V.ru 1 ?_
     refine V.split (j := 2) (t := 39) rfl rfl (fun g6_2 => ?_) (fun g6_2 => ?_)
     ·
      try replace g6_2 := V.dec g6_2
      try simp only [V.mk] at g6_2
      refine V.ru 2 ?_
      refine V.yes rfl rfl rfl ?_
      replace Fk2 := Fk2.gr G24
      refine V.loadO T_ok Fk2 rfl rfl rfl rfl rfl ?_
      refine V.ru 3 ?_
      refine V.nt ?_
      refine V.condT rfl (fun h6 => ?_) (fun h6 => ?_)
      ·
       try replace h6 := V.dec h6
       try simp only [V.mk] at h6
       refine V.sr ?_
       refine V.ru 1 ?_
       refine V.nt ?_
       refine V.ret ?_
       refine V.bR ?_
       refine V.tR ?_
       refine V.done rfl ?_
       replace HG := HG.grow (G4.trans G14)
       replace HG := HG.n1 G19
       replace HG := HG.grow G24
       exact ⟨(congrArg Value.bool (by first | rfl | (unfold cmdB; (have e1 : ByteArray.empty = S [] := rfl); (try simp only [e1] at *); grind))), HG⟩
      ·
       try replace h6 := V.dec h6
       try simp only [V.mk] at h6
       refine V.sr ?_
       refine V.ru 1 ?_
       refine V.loadO T_ok Fk12 rfl rfl rfl rfl rfl ?_
       refine V.ru 1 ?_
       refine V.split (j := 2) (t := 48) rfl rfl (fun g8_2 => ?_) (fun g8_2 => ?_)
       ·
        try replace g8_2 := V.dec g8_2
        try simp only [V.mk] at g8_2
        refine V.ru 1 ?_
        refine V.yes rfl rfl rfl ?_
        refine V.loadO T_ok Fk2 rfl rfl rfl rfl rfl ?_
        refine V.ru 3 ?_
        refine V.split (j := 7) (t := 53) rfl rfl (fun g8_7 => ?_) (fun g8_7 => ?_)
        ·
         try replace g8_7 := V.dec g8_7
         try simp only [V.mk] at g8_7
         refine V.ru 7 ?_
         refine V.nt ?_
         refine V.condY rfl rfl ?_
         refine V.sr ?_
         refine V.ru 1 ?_
         refine V.nt ?_
         refine V.ret ?_
         refine V.bR ?_
         refine V.tR ?_
         refine V.done rfl ?_
         replace HG := HG.grow (G4.trans G14)
         replace HG := HG.n1 G19
         replace HG := HG.grow G24
         exact ⟨(congrArg Value.bool (by first | rfl | (unfold cmdB; (have e1 : ByteArray.empty = S [] := rfl); (try simp only [e1] at *); grind))), HG⟩
        ·
         try replace g8_7 := V.dec g8_7
         try simp only [V.mk] at g8_7
         refine V.ru 1 ?_
         refine V.yes rfl rfl rfl ?_
         refine V.loadO T_ok Fk2 rfl rfl rfl rfl rfl ?_
         refine V.yes rfl rfl rfl ?_
         replace F_o := F_o.gr G24
         refine V.call (apart_spec F_o (fun k hk => by have := hD_o k hk; omega)) rfl rfl rfl ?_
         rintro _ w53 ⟨rfl, G54⟩
         have z55 := V.Fr.size G54
         refine V.ru 4 ?_
         refine V.nt ?_
         refine V.condT rfl (fun h8 => ?_) (fun h8 => ?_)
         ·
          try replace h8 := V.dec h8
          try simp only [V.mk] at h8
          refine V.sr ?_
          refine V.ru 1 ?_
          refine V.nt ?_
          refine V.ret ?_
          refine V.bR ?_
          refine V.tR ?_
          refine V.done rfl ?_
          replace HG := HG.grow (G4.trans G14)
          replace HG := HG.n1 G19
          replace HG := HG.grow (G24.trans G54)
          exact ⟨(congrArg Value.bool (by first | rfl | (unfold cmdB; (have e1 : ByteArray.empty = S [] := rfl); (try simp only [e1] at *); grind))), HG⟩
         ·
          try replace h8 := V.dec h8
          try simp only [V.mk] at h8
          refine V.skip ?_
          refine V.bN ?_
          refine V.tN ?_
          refine V.sr ?_
          refine V.ru 1 ?_
          refine V.nt ?_
          refine V.ret ?_
          refine V.done rfl ?_
          replace HG := HG.grow (G4.trans G14)
          replace HG := HG.n1 G19
          replace HG := HG.grow (G24.trans G54)
          exact ⟨(congrArg Value.bool (by first | rfl | (unfold cmdB; (have e1 : ByteArray.empty = S [] := rfl); (try simp only [e1] at *); grind))), HG⟩
       ·
        try replace g8_2 := V.dec g8_2
        try simp only [V.mk] at g8_2
        refine V.ru 12 ?_
        refine V.nt ?_
        refine V.condN rfl rfl ?_
        refine V.skip ?_
        refine V.bN ?_
        refine V.tN ?_
        refine V.sr ?_
        refine V.ru 1 ?_
        refine V.nt ?_
        refine V.ret ?_
        refine V.done rfl ?_
        replace HG := HG.grow (G4.trans G14)
        replace HG := HG.n1 G19
        replace HG := HG.grow G24
        exact ⟨(congrArg Value.bool (by first | rfl | (unfold cmdB; (have e1 : ByteArray.empty = S [] := rfl); (try simp only [e1] at *); grind))), HG⟩
     ·
      try replace g6_2 := V.dec g6_2
      try simp only [V.mk] at g6_2
      refine V.ru 6 ?_
      refine V.nt ?_
      refine V.condN rfl rfl ?_
      refine V.sr ?_
      refine V.ru 1 ?_
      refine V.loadO T_ok Fk12 rfl rfl rfl rfl rfl ?_
      refine V.ru 1 ?_
      refine V.split (j := 2) (t := 48) rfl rfl (fun g8_2 => ?_) (fun g8_2 => ?_)
      ·
       try replace g8_2 := V.dec g8_2
       try simp only [V.mk] at g8_2
       refine V.ru 1 ?_
       refine V.yes rfl rfl rfl ?_
       replace Fk2 := Fk2.gr G24
       refine V.loadO T_ok Fk2 rfl rfl rfl rfl rfl ?_
       refine V.ru 3 ?_
       refine V.split (j := 7) (t := 53) rfl rfl (fun g8_7 => ?_) (fun g8_7 => ?_)
       ·
        try replace g8_7 := V.dec g8_7
        try simp only [V.mk] at g8_7
        refine V.ru 7 ?_
        refine V.nt ?_
        refine V.condY rfl rfl ?_
        refine V.sr ?_
        refine V.ru 1 ?_
        refine V.nt ?_
        refine V.ret ?_
        refine V.bR ?_
        refine V.tR ?_
        refine V.done rfl ?_
        replace HG := HG.grow (G4.trans G14)
        replace HG := HG.n1 G19
        replace HG := HG.grow G24
        exact ⟨(congrArg Value.bool (by first | rfl | (unfold cmdB; (have e1 : ByteArray.empty = S [] := rfl); (try simp only [e1] at *); grind))), HG⟩
       ·
        try replace g8_7 := V.dec g8_7
        try simp only [V.mk] at g8_7
        refine V.ru 1 ?_
        refine V.yes rfl rfl rfl ?_
        refine V.loadO T_ok Fk2 rfl rfl rfl rfl rfl ?_
        refine V.yes rfl rfl rfl ?_
        replace F_o := F_o.gr G24
        refine V.call (apart_spec F_o (fun k hk => by have := hD_o k hk; omega)) rfl rfl rfl ?_
        rintro _ w56 ⟨rfl, G57⟩
        have z58 := V.Fr.size G57
        refine V.ru 4 ?_
        refine V.nt ?_
        refine V.condT rfl (fun h8 => ?_) (fun h8 => ?_)
        ·
         try replace h8 := V.dec h8
         try simp only [V.mk] at h8
         refine V.sr ?_
         refine V.ru 1 ?_
         refine V.nt ?_
         refine V.ret ?_
         refine V.bR ?_
         refine V.tR ?_
         refine V.done rfl ?_
         replace HG := HG.grow (G4.trans G14)
         replace HG := HG.n1 G19
         replace HG := HG.grow (G24.trans G57)
         exact ⟨(congrArg Value.bool (by first | rfl | (unfold cmdB; (have e1 : ByteArray.empty = S [] := rfl); (try simp only [e1] at *); grind))), HG⟩
        ·
         try replace h8 := V.dec h8
         try simp only [V.mk] at h8
         refine V.skip ?_
         refine V.bN ?_
         refine V.tN ?_
         refine V.sr ?_
         refine V.ru 1 ?_
         refine V.nt ?_
         refine V.ret ?_
         refine V.done rfl ?_
         replace HG := HG.grow (G4.trans G14)
         replace HG := HG.n1 G19
         replace HG := HG.grow (G24.trans G57)
         exact ⟨(congrArg Value.bool (by first | rfl | (unfold cmdB; (have e1 : ByteArray.empty = S [] := rfl); (try simp only [e1] at *); grind))), HG⟩
      ·
       try replace g8_2 := V.dec g8_2
       try simp only [V.mk] at g8_2
       refine V.ru 12 ?_
       refine V.nt ?_
       refine V.condN rfl rfl ?_
       refine V.skip ?_
       refine V.bN ?_
       refine V.tN ?_
       refine V.sr ?_
       refine V.ru 1 ?_
       refine V.nt ?_
       refine V.ret ?_
       refine V.done rfl ?_
       replace HG := HG.grow (G4.trans G14)
       replace HG := HG.n1 G19
       replace HG := HG.grow G24
       exact ⟨(congrArg Value.bool (by first | rfl | (unfold cmdB; (have e1 : ByteArray.empty = S [] := rfl); (try simp only [e1] at *); grind))), HG⟩

end Go.Proofs.YtmmgmkklakkooaaGreat
