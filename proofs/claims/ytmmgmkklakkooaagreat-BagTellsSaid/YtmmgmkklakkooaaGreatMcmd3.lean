/- Proved here: walks: what functions of this seat's program return and what they leave of memory, each as a contract. Conditions: stated at each theorem. -/
import Derived.Test.YtmmgmkklakkooaaGreatMcmd2
namespace Go.Proofs.YtmmgmkklakkooaaGreat
set_option linter.unusedVariables false
set_option linter.unusedSimpArgs false
open Go
open V (Bytes Meets Env Sl Own Gr Fr Cells S)
def hdL (d : CmdV) : List Int := [d.kd, d.id, d.le, d.nd, d.ti, d.te]
def txL (d : CmdV) : List ByteArray := [d.fr, d.to, d.va]
def nb (v : Int) : List UInt8 := numB v.toNat
def tb (s : ByteArray) : List UInt8 := textB s.data.toList
def wb (x : ByteArray × Int) : List UInt8 := tb x.1 ++ nb x.2
def part1 (d : CmdV) : List UInt8 := (hdL d).flatMap nb
def part2 (d : CmdV) : List UInt8 := part1 d ++ tb d.an ++ stB d.sw d.sl ++ nb d.sq
def part3 (d : CmdV) : List UInt8 := part2 d ++ (txL d).flatMap tb
def part4 (d : CmdV) : List UInt8 := part3 d ++ flagB d.go ++ stB d.aw d.al ++ stB d.lw d.ll
def part5 (d : CmdV) : List UInt8 := part4 d ++ flagB d.cm ++ flagB d.st ++ nb d.ws.length
def part6 (d : CmdV) : List UInt8 := part5 d ++ d.ws.flatMap wb
/-- a command's bytes -/
def encB (d : CmdV) : List UInt8 := part6 d ++ nb d.pr
theorem fm_succ {α : Type} {f : α → List UInt8} {l : List α} {i : Nat} {x : α} (hi : i < l.length) (hx : l[i] = x) : (l.take i).flatMap f ++ f x = (l.take (i + 1)).flatMap f := by
  subst hx; rw [List.take_succ_eq_append_getElem hi, List.flatMap_append]; simp
theorem fm_all {α : Type} {f : α → List UInt8} {l : List α} {i : Nat} (hi : l.length ≤ i) : (l.take i).flatMap f = l.flatMap f := by rw [List.take_of_length_le hi]
structure SmOk (d : CmdV) : Prop where
  kd : d.kd ≤ 10
  id : d.id ≤ 1099511627776
  le : d.le ≤ 1099511627776
  nd : d.nd ≤ 10
  ti : d.ti ≤ 1099511627776
  te : d.te ≤ 1099511627776
  sq : d.sq ≤ 1099511627776
  pr : d.pr ≤ 1099511627776
  s1 : d.sw ≤ 1099511627776 ∧ d.sl ≤ 65535 ∧ d.aw ≤ 1099511627776 ∧ d.al ≤ 65535 ∧ d.lw ≤ 1099511627776 ∧ d.ll ≤ 65535
  wl : d.ws.length ≤ 8
  wn : ∀ x ∈ d.ws, x.1.size ≤ 8 ∧ x.2 ≤ 1099511627776
  an : d.an.size ≤ 8
  fr : d.fr.size ≤ 8
  to : d.to.size ≤ 8
  va : d.va.size ≤ 16
theorem key_sz {s : ByteArray} (h : isKey s = true) : s.size ≤ 8 := by unfold isKey at h; simp at h; omega
theorem emp_sz {s : ByteArray} (h : s = S []) : s.size = 0 := by subst h; rfl
theorem cmd_small {d : CmdV} (h : cmdB d = true) : SmOk d := by
  unfold cmdB at h
  simp only [Bool.and_eq_true] at h
  have hk : nK d.kd = true := h.1.1.1.1.1
  have hf : fldB d = true := h.1.1.1.1.2
  unfold nK at hk
  unfold fldB at hf
  simp only [Bool.and_eq_true, Bool.or_eq_true, decide_eq_true_eq] at hf hk
  obtain ⟨⟨⟨⟨⟨⟨⟨h1, h2⟩, h3⟩, h4⟩, h5⟩, h6⟩, h7⟩, h8⟩ := hf
  simp [numsL, nmB] at h1
  simp [stsL, stB2] at h2
  have h6' := h6
  unfold valB at h6'
  simp only [Bool.and_eq_true, decide_eq_true_eq] at h6'
  have hrs : d.fr.size ≤ 8 ∧ d.to.size ≤ 8 := by
    rcases h5 with h5 | h5
    · have := emp_sz h5.1; have := emp_sz h5.2; omega
    · unfold rightB at h5
      simp only [Bool.and_eq_true, Bool.or_eq_true, decide_eq_true_eq] at h5
      refine ⟨key_sz h5.1, ?_⟩
      rcases h5.2 with h | ⟨h | h, _⟩
      · have := emp_sz h; omega
      · rw [h]; decide
      · exact key_sz h
  refine ⟨by omega, by omega, by omega, by omega, by omega, by omega, by omega, by omega, by omega, h8, ?_, ?_, hrs.1, hrs.2, h6'.1.2⟩
  · intro x hx
    have := List.all_eq_true.1 h3 x hx
    unfold wkB nmB at this
    simp only [Bool.and_eq_true, decide_eq_true_eq] at this
    exact ⟨key_sz this.1, this.2.2⟩
  · rcases h4 with h4 | h4
    · have := emp_sz h4; omega
    · exact key_sz h4
theorem nb_len {v : Int} (h : v ≤ 9223372036854775807) : (nb v).length ≤ 9 := numB_len9 h
theorem tb_len {s : ByteArray} {n : Nat} (h : s.size ≤ n) (hn : n ≤ 1000) : (tb s).length ≤ 9 + n := by
  have h1 := nb_len (v := (s.data.toList.length : Int)) (by rw [V.length_data]; omega)
  unfold nb at h1
  rw [Int.toNat_natCast] at h1
  unfold tb textB
  rw [List.length_append]
  have := V.length_data s
  omega
theorem st_len {x y : Int} (hx : x ≤ 9223372036854775807) (hy : y ≤ 9223372036854775807) : (stB x y).length ≤ 18 := by
  have h1 := nb_len hx
  have h2 := nb_len hy
  unfold nb at h1 h2
  unfold stB; rw [List.length_append]; omega
theorem fm_len {α : Type} {f : α → List UInt8} {K : Nat} : ∀ {l : List α}, (∀ x ∈ l, (f x).length ≤ K) → (l.flatMap f).length ≤ K * l.length
  | [], _ => by simp
  | x :: l, h => by
    have h1 := h x (by simp)
    have h2 := fm_len (l := l) (fun y hy => h y (by simp [hy]))
    rw [List.flatMap_cons, List.length_append, List.length_cons, Nat.mul_add]; omega
theorem fm_take_len {α : Type} {f : α → List UInt8} (l : List α) (i : Nat) : ((l.take i).flatMap f).length ≤ (l.flatMap f).length := by
  conv => rhs; rw [← List.take_append_drop i l, List.flatMap_append, List.length_append]
  omega
theorem hd_le {d : CmdV} (h : SmOk d) : ∀ x ∈ hdL d, x ≤ 9223372036854775807 := by
  intro x hx
  have := h.kd; have := h.id; have := h.le; have := h.nd; have := h.ti; have := h.te
  simp [hdL] at hx
  rcases hx with rfl | rfl | rfl | rfl | rfl | rfl <;> omega
theorem tx_le {d : CmdV} (h : SmOk d) : ∀ x ∈ txL d, x.size ≤ 16 := by
  intro x hx
  have := h.fr; have := h.to; have := h.va
  simp [txL] at hx
  rcases hx with rfl | rfl | rfl <;> omega
theorem part_len {d : CmdV} (h : SmOk d) : (part1 d).length ≤ 54 ∧ (part2 d).length ≤ 120 ∧ (part3 d).length ≤ 220 ∧ (part4 d).length ≤ 260 ∧ (part5 d).length ≤ 280 ∧ (part6 d).length ≤ 600 := by
  have hs := h.s1
  have h1 : (part1 d).length ≤ 9 * (hdL d).length := fm_len (fun x hx => nb_len (hd_le h x hx))
  have h1' : (hdL d).length = 6 := rfl
  have h2 : (part2 d).length ≤ (part1 d).length + 17 + 18 + 9 := by
    have a1 := tb_len h.an (by omega); have a2 := st_len (x := d.sw) (y := d.sl) (by omega) (by omega); have a3 := nb_len (v := d.sq) (by have := h.sq; omega)
    unfold part2; simp only [List.length_append]; omega
  have h3 : (part3 d).length ≤ (part2 d).length + 25 * 3 := by
    have a1 := fm_len (f := tb) (K := 25) (l := txL d) (fun x hx => tb_len (tx_le h x hx) (by omega))
    have a2 : (txL d).length = 3 := rfl
    unfold part3; simp only [List.length_append]; omega
  have h4 : (part4 d).length ≤ (part3 d).length + 1 + 18 + 18 := by
    have a2 := st_len (x := d.aw) (y := d.al) (by omega) (by omega); have a3 := st_len (x := d.lw) (y := d.ll) (by omega) (by omega)
    have a4 : (flagB d.go).length = 1 := rfl
    unfold part4; simp only [List.length_append]; omega
  have h5 : (part5 d).length ≤ (part4 d).length + 1 + 1 + 9 := by
    have a3 := nb_len (v := (d.ws.length : Int)) (by have := h.wl; omega)
    have a4 : (flagB d.cm).length = 1 := rfl
    have a5 : (flagB d.st).length = 1 := rfl
    unfold part5; simp only [List.length_append]; omega
  have h6 : (part6 d).length ≤ (part5 d).length + 26 * d.ws.length := by
    have a1 := fm_len (f := wb) (K := 26) (l := d.ws) (fun x hx => by
      have b1 := tb_len (h.wn x hx).1 (by omega); have b2 := nb_len (v := x.2) (by have := (h.wn x hx).2; omega)
      unfold wb; rw [List.length_append]; omega)
    unfold part6; simp only [List.length_append]; omega
  have := h.wl
  omega
def smB (c d : CmdV) : Bool := decide (c.kd = d.kd ∧ c.id = d.id ∧ c.le = d.le ∧ c.nd = d.nd ∧ (c.ti = d.ti ∧ c.te = d.te ∧ c.an = d.an ∧ c.sw = d.sw ∧ c.sl = d.sl) ∧ c.sq = d.sq ∧ c.fr = d.fr ∧ c.to = d.to) && decide (c.va = d.va ∧ c.go = d.go ∧ (c.aw = d.aw ∧ c.al = d.al) ∧ (c.lw = d.lw ∧ c.ll = d.ll) ∧ c.cm = d.cm ∧ c.st = d.st ∧ c.pr = d.pr) && decide (c.ws = d.ws)
set_option maxHeartbeats 900000 in
set_option maxRecDepth 10000 in
theorem encode_spec {w : World} {d : CmdV} {D_o : Nat → Prop} {c_o : Nat} {a_o : Option Addr} (F_o : Sl V.Cod.write w D_o a_o c_o d.ws) (hD_o : ∀ k, D_o k → k < w.heap.size)  (hz : SzOk d) :
    Meets Tryz.prog 49 [.agg #[.int .i64 d.kd, .int .i64 d.id, .int .i64 d.le, .int .i64 d.nd, .int .i64 d.ti, .int .i64 d.te, .string d.an, .int .i64 d.sw, .int .i64 d.sl, .int .i64 d.sq, .string d.fr, .string d.to, .string d.va, .bool d.go, .int .i64 d.aw, .int .i64 d.al, .int .i64 d.lw, .int .i64 d.ll, .bool d.cm, .bool d.st, .slice a_o d.ws.length c_o, .int .i64 d.pr]] w fun r w' => ∃ (ra50 : Option Addr) (rc50 : Nat), r = .tuple #[.slice ra50 (if cmdB d = true then encB d else []).length rc50, .int .i64 (if cmdB d = true then 0 else 131)] ∧ V.Row V.Cod.byte 5 w' V.None' w.heap.size w'.heap.size ra50 rc50 (if cmdB d = true then encB d else []) ∧ Gr w w' := by
 have HG := V.Fr.refl [] w
 refine V.enter (n := 108) Tryz.func49 rfl rfl (by decide) rfl ?_
 refine V.sr ?_
 refine V.box rfl rfl rfl rfl ?_
 rintro k1 w3 s5 s6 G4 Fk2
 have z7 := V.Fr.size G4
 try simp only [V.cellsL, V.spliceL] at Fk2
 refine V.ru 2 ?_
 refine V.nt ?_
 refine V.seq ?_
 refine V.sr ?_
 refine V.loadO T_ok Fk2 rfl rfl rfl rfl rfl ?_
 replace F_o := F_o.gr G4
 refine V.call (cright_spec (d := d) F_o (fun k hk => by have := hD_o k hk; omega) (by first | (with_reducible assumption) | exact hz | (constructor <;> first | exact hz.an | exact hz.fr | exact hz.to | exact hz.va | exact hz.ws | exact (by decide : (S []).size ≤ 9223372036854775807) | exact (fun x hx => nomatch (show x ∈ ([] : List (ByteArray × Int)) from hx))))) rfl rfl rfl ?_
 rintro _ w8 ⟨rfl, G9⟩
 have z10 := V.Fr.size G9
 refine V.ru 1 ?_
 refine V.nt ?_
 refine V.condT rfl (fun h1 => ?_) (fun h1 => ?_)
 ·
  try replace h1 := V.dec h1
  try simp only [V.mk] at h1
  refine V.sr ?_
  refine V.ru 2 ?_
  refine V.nt ?_
  refine V.ret ?_
  refine V.tR ?_
  refine V.done rfl ?_
  rw [if_neg (by simp [*]), if_neg (by simp [*])]
  replace HG := HG.grow (G4.trans G9)
  exact ⟨none, 0, (by first | rfl | simp only [List.length_set]), V.Row.nil, HG⟩
 ·
  try replace h1 := V.dec h1
  try simp only [V.mk] at h1
  refine V.skip ?_
  refine V.tN ?_
  refine V.sr ?_
  refine V.ru 1 ?_
  refine V.nt ?_
  refine V.seq ?_
  refine V.seq ?_
  have hcb : cmdB d = true := by simpa using h1
  have hsm := cmd_small hcb
  have hpl := part_len hsm
  have hs1 := hsm.s1
  have hp1d : part1 d = (hdL d).flatMap nb := rfl
  have hp3d : (part3 d).length = (part2 d).length + ((txL d).flatMap tb).length := by unfold part3; rw [List.length_append]
  have hp6d : (part6 d).length = (part5 d).length + (d.ws.flatMap wb).length := by unfold part6; rw [List.length_append]
  have hp1l : (part1 d).length = ((hdL d).flatMap nb).length := rfl
  refine V.region ?_
  refine V.ru 1 ?_
  replace Fk2 := Fk2.gr G9
  refine V.loadO T_ok Fk2 rfl rfl rfl rfl rfl ?_
  refine V.ru 1 ?_
  refine V.loadO T_ok Fk2 rfl rfl rfl rfl rfl ?_
  refine V.ru 1 ?_
  refine V.loadO T_ok Fk2 rfl rfl rfl rfl rfl ?_
  refine V.ru 1 ?_
  refine V.loadO T_ok Fk2 rfl rfl rfl rfl rfl ?_
  refine V.ru 2 ?_
  refine V.loadO T_ok Fk2 rfl rfl rfl rfl rfl ?_
  refine V.ru 2 ?_
  refine V.loadO T_ok Fk2 rfl rfl rfl rfl rfl ?_
  refine V.mkSlice T_ok zero3 rfl rfl sz3 rfl rfl rfl rfl rfl rfl ?_
  rintro k11 w14 s16 s17 G15 Fk12
  have z18 := V.Fr.size G15
  have F13 := V.rowOfI (q := .i64) (xs := ([d.kd, d.id, d.le, d.nd, d.ti, d.te] : List Int)) Fk12 rfl rfl
  clear Fk12
  refine V.ru 2 ?_
  refine V.nt ?_
  refine V.block ?_
  have hma : (([d.kd, d.id, d.le, d.nd, d.ti, d.te] : List Int)).length = 6 := rfl
  have hr19 : ([d.kd, d.id, d.le, d.nd, d.ti, d.te] : List Int) = hdL d := rfl
  rw [hr19] at F13
  clear hr19
  have hla : (hdL d).length = 6 := rfl
  replace F_o := F_o.gr (G9.trans G15)
  replace Fk2 := Fk2.gr G15
  replace HG := HG.grow (G4.trans (G9.trans G15))
  refine V.loopM (fun m e v21 => Fr [] w v21 ∧ w14.heap.size ≤ v21.heap.size ∧ Sl V.Cod.write v21 D_o a_o c_o d.ws ∧ Cells v21 k1 [.int .i64 d.kd, .int .i64 d.id, .int .i64 d.le, .int .i64 d.nd, .int .i64 d.ti, .int .i64 d.te, .string d.an, .int .i64 d.sw, .int .i64 d.sl, .int .i64 d.sq, .string d.fr, .string d.to, .string d.va, .bool d.go, .int .i64 d.aw, .int .i64 d.al, .int .i64 d.lw, .int .i64 d.ll, .bool d.cm, .bool d.st, .slice a_o d.ws.length c_o, .int .i64 d.pr] 41 ∧ V.Row (V.Cod.int .i64) 3 v21 V.None' k11 (k11 + 1) (some ⟨k11, 0, none⟩) (([d.kd, d.id, d.le, d.nd, d.ti, d.te] : List Int).length) (hdL d) ∧ ∃ (i : Nat) (ra51 : Option Addr) (rc51 : Nat), m = (hdL d).length - i ∧ i ≤ (hdL d).length ∧ V.Row V.Cod.byte 5 v21 V.None' w.heap.size v21.heap.size ra51 rc51 (((hdL d).take i).flatMap nb) ∧ e 1 = .pointer (some ⟨k1, 0, none⟩) ∧ e 4 = .slice ra51 (((hdL d).take i).flatMap nb).length rc51 ∧ e 28 = .slice (some ⟨k11, 0, none⟩) 6 6 ∧ e 29 = .int .i64 (([d.kd, d.id, d.le, d.nd, d.ti, d.te] : List Int).length : Int) ∧ e 30 = .int .i64 (i : Int)) ?_ ?_
  ·
   exact ⟨_, HG, (by omega), F_o, Fk2, F13, (0), none, 0, rfl, (Nat.zero_le _), V.Row.nil, rfl, rfl, rfl, rfl, rfl⟩
  clear HG F_o Fk2 F13
  rintro _ e v21 ⟨HG, z22, F_o, Fk2, F13, i, ra51, rc51, rfl, hia, rF51, he0_1, he0_4, he0_28, he0_29, he0_30⟩
  have hta := fm_take_len (f := nb) (hdL d) i
  refine V.knownC (t := 1) he0_1 ?_
  refine V.knownC (t := 4) he0_4 ?_
  refine V.knownC (t := 28) he0_28 ?_
  refine V.knownC (t := 29) he0_29 ?_
  refine V.knownC (t := 30) he0_30 ?_
  refine V.sr ?_
  refine V.ru 1 ?_
  refine V.nt ?_
  refine V.seq ?_
  refine V.condT rfl (fun h5 => ?_) (fun h5 => ?_)
  ·
   try replace h5 := V.dec h5
   try simp only [V.mk] at h5
   refine V.skip ?_
   refine V.tN ?_
   refine V.seq ?_
   refine V.block ?_
   refine V.sr ?_
   refine V.elem T_ok F13.sl rfl rfl sz3 rfl rfl rfl rfl V.lenA V.lenA ?_
   rintro b23 o24 cs25 hx26 hb27 hR30 hA28
   obtain ⟨x29, hx29⟩ : ∃ z', (hdL d)[((i : Int)).toNat] = z' := ⟨_, rfl⟩
   rw [hx29] at hR30
   obtain rfl := hR30
   try simp only [Int.toNat_natCast] at hx29 hx26
   refine V.loadA T_ok (o0 := o24) (off := 0) hA28 rfl rfl rfl rfl rfl ?_
   refine V.ru 1 ?_
   refine V.nt ?_
   refine V.region ?_
   refine V.ru 2 ?_
   have hxl := hd_le hsm x29 (hx29 ▸ List.getElem_mem _)
   refine V.call (p_number (v := x29) rF51.sl (fun k hk => by have := hk.2; omega) V.lenA (by omega)) rfl rfl rfl ?_
   rintro _ w34 ⟨a31, c32, rfl, F33, G35⟩
   have z36 := V.Fr.size G35
   refine V.ru 1 ?_
   refine V.nil ?_
   refine V.bN ?_
   refine V.tN ?_
   refine V.region ?_
   refine V.addN rfl rfl rfl rfl rfl V.lenA V.lenA ?_
   refine V.ru 1 ?_
   refine V.nt ?_
   have hr37 : (((hdL d).take i).flatMap nb) ++ numB x29.toNat = ((hdL d).take (i + 1)).flatMap nb := (by exact fm_succ (by omega) hx29)
   rw [hr37] at F33 ⊢
   clear hr37
   
   replace F_o := F_o.gr G35
   replace Fk2 := Fk2.gr G35
   replace F13 := F13.gr G35
   replace HG := HG.grow G35
   exact ⟨_, (by omega), HG, (by omega), F_o, Fk2, F13, (i + 1), a31, c32, rfl, (by omega), F33.re, rfl, rfl, rfl, rfl, rfl⟩
  ·
   try replace h5 := V.dec h5
   try simp only [V.mk] at h5
   refine V.exit ?_
   refine V.tX ?_
   refine V.tX ?_
   refine V.bE ?_
   refine V.tN ?_
   refine V.seq ?_
   have hr38 : ((hdL d).take i).flatMap nb = part1 d := (fm_all (by omega))
   rw [hr38] at rF51 ⊢
   clear hr38
   have hsa := hsm.an
   have hsq := hsm.sq
   have htb1 : (textB d.an.data.toList).length ≤ 17 := tb_len hsm.an (by omega)
   have hst1 : (stB d.sw d.sl).length ≤ 18 := st_len (by omega) (by omega)
   refine V.drawGT 11 (V.sel [(4, (fun v wz => ∃ (ra3 : Option Addr) (rc3 : Nat), v = .slice ra3 ((part1 d) ++ textB d.an.data.toList).length rc3 ∧ V.Row V.Cod.byte 5 wz V.None' v21.heap.size wz.heap.size ra3 rc3 ((part1 d) ++ textB d.an.data.toList))), (8, (fun v wz => ∃ (ra19 : Option Addr) (rc19 : Nat), v = .slice ra19 (((part1 d) ++ textB d.an.data.toList) ++ stB d.sw d.sl).length rc19 ∧ V.Row V.Cod.byte 5 wz V.None' v21.heap.size wz.heap.size ra19 rc19 (((part1 d) ++ textB d.an.data.toList) ++ stB d.sw d.sl)))]) mixed (by kernel_rfl) (V.mono_cons (by rintro v wz wz' g ⟨ra3, rc3, rfl, rF3⟩; exact ⟨ra3, rc3, rfl, (by first | exact (rF3.gr g).mono (V.In.sub (Nat.le_refl _) g.size) | exact rF3.gr g | exact (rF3.gr g).mono (fun _ h => h) (Nat.le_refl _) g.size | exact (rF3.gr g).mono (fun k h => ⟨h.1, Nat.lt_of_lt_of_le h.2 g.size⟩))⟩) (V.mono_cons (by rintro v wz wz' g ⟨ra19, rc19, rfl, rF19⟩; exact ⟨ra19, rc19, rfl, (by first | exact (rF19.gr g).mono (V.In.sub (Nat.le_refl _) g.size) | exact rF19.gr g | exact (rF19.gr g).mono (fun _ h => h) (Nat.le_refl _) g.size | exact (rF19.gr g).mono (fun k h => ⟨h.1, Nat.lt_of_lt_of_le h.2 g.size⟩))⟩) V.mono_nil)) ?_
   refine V.grun T_ok 3 rfl (V.sel_none rfl) ?_
   refine V.gloadO T_ok (fun w' h => Fk2.gr h.1) rfl rfl rfl rfl rfl rfl ?_
   refine V.gcall (fun w' h => (p_text (s := d.an) (rF51.sl.gr h.1) (fun k hk => by have := Fr.size h.1; have := hk.2; omega) V.lenA (by first | omega | decide | (simp only [V.S_size, List.length_cons, List.length_nil]; omega))).mono (by rintro v w'' ⟨ra3, rc3, rfl, rF3, G⟩; exact ⟨⟨ra3, rc3, rfl, (by first | exact rF3.mono (V.In.mono_l h.1.size) | exact rF3 | exact rF3.mono (fun _ h => h) h.1.size (Nat.le_refl _))⟩, G⟩)) rfl rfl rfl rfl ?_
   rintro _ w42 - - ⟨a39, c40, rfl, -⟩
   refine V.grun T_ok 2 rfl (V.sel_none rfl) ?_
   refine V.gloadO T_ok (fun w' h => Fk2.gr h.1) rfl rfl rfl rfl rfl rfl ?_
   refine V.gcall (fun w' h => (sput_spec (a := d.sw) (b := d.sl) (by obtain ⟨_, _, he, F0⟩ := (V.Hist.here (h.get (i := 4) rfl)); cases he; exact F0.sl) (fun k hk => by have := Fr.size h.1; have := hk.2; omega) V.lenA (by omega) (by omega)).mono (by rintro v w'' ⟨ra19, rc19, rfl, rF19, G⟩; exact ⟨⟨ra19, rc19, rfl, (by first | exact rF19.mono (V.In.mono_l h.1.size) | exact rF19 | exact rF19.mono (fun _ h => h) h.1.size (Nat.le_refl _))⟩, G⟩)) rfl rfl rfl rfl ?_
   rintro _ w46 - - ⟨a43, c44, rfl, -⟩
   refine V.grun T_ok 1 rfl (V.sel_none rfl) ?_
   refine V.gloadO T_ok (fun w' h => Fk2.gr h.1) rfl rfl rfl rfl rfl rfl ?_
   refine V.gnil ?_
   rintro w47 G48 hH49
   have z50 := V.Fr.size G48
   have F41 : V.Row V.Cod.byte 5 w47 V.None' v21.heap.size w47.heap.size a39 c40 ((part1 d) ++ textB d.an.data.toList) := by
     obtain ⟨_, _, he, F0⟩ := (V.Hist.here (V.Hist.old (hH49 4)))
     cases he
     exact F0
   have F45 : V.Row V.Cod.byte 5 w47 V.None' v21.heap.size w47.heap.size a43 c44 (((part1 d) ++ textB d.an.data.toList) ++ stB d.sw d.sl) := by
     obtain ⟨_, _, he, F0⟩ := (V.Hist.here (hH49 8))
     cases he
     exact F0
   clear hH49
   refine V.call (p_number (v := d.sq) F45.sl (fun k hk => by have := hk.2; omega) V.lenA (by omega)) rfl rfl rfl ?_
   rintro _ w54 ⟨a51, c52, rfl, F53, G55⟩
   have z56 := V.Fr.size G55
   refine V.ru 1 ?_
   refine V.nt ?_
   refine V.seq ?_
   refine V.seq ?_
   have hr57 : (((part1 d) ++ textB d.an.data.toList) ++ stB d.sw d.sl) ++ numB d.sq.toNat = part2 d ++ ((txL d).take 0).flatMap tb := (by rw [List.take_zero, List.flatMap_nil, List.append_nil]; rfl)
   rw [hr57] at F53 ⊢
   clear hr57
   refine V.region ?_
   refine V.ru 2 ?_
   replace Fk2 := Fk2.gr (G48.trans G55)
   refine V.loadO T_ok Fk2 rfl rfl rfl rfl rfl ?_
   refine V.ru 2 ?_
   refine V.loadO T_ok Fk2 rfl rfl rfl rfl rfl ?_
   refine V.ru 1 ?_
   refine V.loadO T_ok Fk2 rfl rfl rfl rfl rfl ?_
   refine V.mkSlice T_ok zero9 rfl rfl sz9 rfl rfl rfl rfl rfl rfl ?_
   rintro k58 w61 s63 s64 G62 Fk59
   have z65 := V.Fr.size G62
   have F60 := V.rowOfS (xs := ([d.fr, d.to, d.va] : List ByteArray)) Fk59 rfl rfl
   clear Fk59
   refine V.ru 2 ?_
   refine V.nt ?_
   refine V.block ?_
   have hmb : (([d.fr, d.to, d.va] : List ByteArray)).length = 3 := rfl
   have hr66 : ([d.fr, d.to, d.va] : List ByteArray) = txL d := rfl
   rw [hr66] at F60
   clear hr66
   have hlb : (txL d).length = 3 := rfl
   replace F_o := F_o.gr (G48.trans (G55.trans G62))
   replace Fk2 := Fk2.gr G62
   replace F13 := F13.gr (G48.trans (G55.trans G62))
   replace rF51 := rF51.gr (G48.trans (G55.trans G62))
   replace F41 := F41.gr (G55.trans G62)
   replace F45 := F45.gr (G55.trans G62)
   replace F53 := F53.gr G62
   replace HG := HG.grow (G48.trans (G55.trans G62))
   refine V.loopM (fun m e v68 => Fr [] w v68 ∧ w61.heap.size ≤ v68.heap.size ∧ Sl V.Cod.write v68 D_o a_o c_o d.ws ∧ Cells v68 k1 [.int .i64 d.kd, .int .i64 d.id, .int .i64 d.le, .int .i64 d.nd, .int .i64 d.ti, .int .i64 d.te, .string d.an, .int .i64 d.sw, .int .i64 d.sl, .int .i64 d.sq, .string d.fr, .string d.to, .string d.va, .bool d.go, .int .i64 d.aw, .int .i64 d.al, .int .i64 d.lw, .int .i64 d.ll, .bool d.cm, .bool d.st, .slice a_o d.ws.length c_o, .int .i64 d.pr] 41 ∧ V.Row (V.Cod.int .i64) 3 v68 V.None' k11 (k11 + 1) (some ⟨k11, 0, none⟩) (([d.kd, d.id, d.le, d.nd, d.ti, d.te] : List Int).length) (hdL d) ∧ V.Row V.Cod.byte 5 v68 V.None' w.heap.size v21.heap.size ra51 rc51 (part1 d) ∧ V.Row V.Cod.byte 5 v68 V.None' v21.heap.size w47.heap.size a39 c40 ((part1 d) ++ textB d.an.data.toList) ∧ V.Row V.Cod.byte 5 v68 V.None' v21.heap.size w47.heap.size a43 c44 (((part1 d) ++ textB d.an.data.toList) ++ stB d.sw d.sl) ∧ V.Row V.Cod.str 9 v68 V.None' k58 (k58 + 1) (some ⟨k58, 0, none⟩) (([d.fr, d.to, d.va] : List ByteArray).length) (txL d) ∧ ∃ (i : Nat) (ra52 : Option Addr) (rc52 : Nat), m = (txL d).length - i ∧ i ≤ (txL d).length ∧ V.Row V.Cod.byte 5 v68 V.None' w.heap.size v68.heap.size ra52 rc52 (part2 d ++ ((txL d).take i).flatMap tb) ∧ e 1 = .pointer (some ⟨k1, 0, none⟩) ∧ e 4 = .slice ra52 (part2 d ++ ((txL d).take i).flatMap tb).length rc52 ∧ e 58 = .slice (some ⟨k58, 0, none⟩) 3 3 ∧ e 59 = .int .i64 (([d.fr, d.to, d.va] : List ByteArray).length : Int) ∧ e 60 = .int .i64 (i : Int)) ?_ ?_
   ·
    exact ⟨_, HG, (by omega), F_o, Fk2, F13, rF51, F41, F45, F60, (0), a51, c52, rfl, (Nat.zero_le _), F53.re, rfl, rfl, rfl, rfl, rfl⟩
   try clear F53
   clear HG F_o Fk2 F13 rF51 F41 F45 F60
   rintro _ e v68 ⟨HG, z69, F_o, Fk2, F13, rF51, F41, F45, F60, i, ra52, rc52, rfl, hib, rF52, he1_1, he1_4, he1_58, he1_59, he1_60⟩
   have htb := fm_take_len (f := tb) (txL d) i
   refine V.knownC (t := 1) he1_1 ?_
   refine V.knownC (t := 4) he1_4 ?_
   refine V.knownC (t := 58) he1_58 ?_
   refine V.knownC (t := 59) he1_59 ?_
   refine V.knownC (t := 60) he1_60 ?_
   refine V.sr ?_
   refine V.ru 1 ?_
   refine V.nt ?_
   refine V.seq ?_
   refine V.condT rfl (fun h11 => ?_) (fun h11 => ?_)
   ·
    try replace h11 := V.dec h11
    try simp only [V.mk] at h11
    refine V.skip ?_
    refine V.tN ?_
    refine V.seq ?_
    refine V.block ?_
    refine V.sr ?_
    refine V.elem T_ok F60.sl rfl rfl sz9 rfl rfl rfl rfl V.lenA V.lenA ?_
    rintro b70 o71 cs72 hx73 hb74 hR77 hA75
    obtain ⟨x76, hx76⟩ : ∃ z', (txL d)[((i : Int)).toNat] = z' := ⟨_, rfl⟩
    rw [hx76] at hR77
    obtain rfl := hR77
    try simp only [Int.toNat_natCast] at hx76 hx73
    refine V.loadA T_ok (o0 := o71) (off := 0) hA75 rfl rfl rfl rfl rfl ?_
    refine V.ru 1 ?_
    refine V.nt ?_
    refine V.region ?_
    refine V.ru 2 ?_
    have hxs := tx_le hsm x76 (hx76 ▸ List.getElem_mem _)
    refine V.call (p_text (s := x76) rF52.sl (fun k hk => by have := hk.2; omega) V.lenA (by first | omega | decide | (simp only [V.S_size, List.length_cons, List.length_nil]; omega))) rfl rfl rfl ?_
    rintro _ w81 ⟨a78, c79, rfl, F80, G82⟩
    have z83 := V.Fr.size G82
    refine V.ru 1 ?_
    refine V.nil ?_
    refine V.bN ?_
    refine V.tN ?_
    refine V.region ?_
    refine V.addN rfl rfl rfl rfl rfl V.lenA V.lenA ?_
    refine V.ru 1 ?_
    refine V.nt ?_
    have hr84 : (part2 d ++ ((txL d).take i).flatMap tb) ++ textB x76.data.toList = part2 d ++ ((txL d).take (i + 1)).flatMap tb := (by rw [← fm_succ (f := tb) (by omega) hx76]; simp [tb, tb, nb, List.append_assoc])
    rw [hr84] at F80 ⊢
    clear hr84
    
    replace F_o := F_o.gr G82
    replace Fk2 := Fk2.gr G82
    replace F13 := F13.gr G82
    replace rF51 := rF51.gr G82
    replace F41 := F41.gr G82
    replace F45 := F45.gr G82
    replace F60 := F60.gr G82
    replace HG := HG.grow G82
    exact ⟨_, (by omega), HG, (by omega), F_o, Fk2, F13, rF51, F41, F45, F60, (i + 1), a78, c79, rfl, (by omega), F80.re, rfl, rfl, rfl, rfl, rfl⟩
   ·
    try replace h11 := V.dec h11
    try simp only [V.mk] at h11
    refine V.exit ?_
    refine V.tX ?_
    refine V.tX ?_
    refine V.bE ?_
    refine V.tN ?_
    refine V.seq ?_
    have hr85 : part2 d ++ ((txL d).take i).flatMap tb = part3 d := (by rw [fm_all (by omega)]; rfl)
    rw [hr85] at rF52 ⊢
    clear hr85
    have hfg : (flagB d.go).length = 1 := rfl
    have hst2 : (stB d.aw d.al).length ≤ 18 := st_len (by omega) (by omega)
    refine V.drawGT 9 (V.sel [(3, (fun v wz => ∃ (ra4 : Option Addr) (rc4 : Nat), v = .slice ra4 ((part3 d) ++ flagB d.go).length rc4 ∧ V.Row V.Cod.byte 5 wz V.None' v68.heap.size wz.heap.size ra4 rc4 ((part3 d) ++ flagB d.go))), (6, (fun v wz => ∃ (ra19 : Option Addr) (rc19 : Nat), v = .slice ra19 (((part3 d) ++ flagB d.go) ++ stB d.aw d.al).length rc19 ∧ V.Row V.Cod.byte 5 wz V.None' v68.heap.size wz.heap.size ra19 rc19 (((part3 d) ++ flagB d.go) ++ stB d.aw d.al)))]) mixed (by kernel_rfl) (V.mono_cons (by rintro v wz wz' g ⟨ra4, rc4, rfl, rF4⟩; exact ⟨ra4, rc4, rfl, (by first | exact (rF4.gr g).mono (V.In.sub (Nat.le_refl _) g.size) | exact rF4.gr g | exact (rF4.gr g).mono (fun _ h => h) (Nat.le_refl _) g.size | exact (rF4.gr g).mono (fun k h => ⟨h.1, Nat.lt_of_lt_of_le h.2 g.size⟩))⟩) (V.mono_cons (by rintro v wz wz' g ⟨ra19, rc19, rfl, rF19⟩; exact ⟨ra19, rc19, rfl, (by first | exact (rF19.gr g).mono (V.In.sub (Nat.le_refl _) g.size) | exact rF19.gr g | exact (rF19.gr g).mono (fun _ h => h) (Nat.le_refl _) g.size | exact (rF19.gr g).mono (fun k h => ⟨h.1, Nat.lt_of_lt_of_le h.2 g.size⟩))⟩) V.mono_nil)) ?_
    refine V.grun T_ok 2 rfl (V.sel_none rfl) ?_
    refine V.gloadO T_ok (fun w' h => Fk2.gr h.1) rfl rfl rfl rfl rfl rfl ?_
    refine V.gcall (fun w' h => (p_flag (v := d.go) (rF52.sl.gr h.1) (fun k hk => by have := Fr.size h.1; have := hk.2; omega) V.lenA).mono (by rintro v w'' ⟨ra4, rc4, rfl, rF4, G⟩; exact ⟨⟨ra4, rc4, rfl, (by first | exact rF4.mono (V.In.mono_l h.1.size) | exact rF4 | exact rF4.mono (fun _ h => h) h.1.size (Nat.le_refl _))⟩, G⟩)) rfl rfl rfl rfl ?_
    rintro _ w89 - - ⟨a86, c87, rfl, -⟩
    refine V.grun T_ok 1 rfl (V.sel_none rfl) ?_
    refine V.gloadO T_ok (fun w' h => Fk2.gr h.1) rfl rfl rfl rfl rfl rfl ?_
    refine V.gcall (fun w' h => (sput_spec (a := d.aw) (b := d.al) (by obtain ⟨_, _, he, F0⟩ := (V.Hist.here (h.get (i := 3) rfl)); cases he; exact F0.sl) (fun k hk => by have := Fr.size h.1; have := hk.2; omega) V.lenA (by omega) (by omega)).mono (by rintro v w'' ⟨ra19, rc19, rfl, rF19, G⟩; exact ⟨⟨ra19, rc19, rfl, (by first | exact rF19.mono (V.In.mono_l h.1.size) | exact rF19 | exact rF19.mono (fun _ h => h) h.1.size (Nat.le_refl _))⟩, G⟩)) rfl rfl rfl rfl ?_
    rintro _ w93 - - ⟨a90, c91, rfl, -⟩
    refine V.grun T_ok 1 rfl (V.sel_none rfl) ?_
    refine V.gloadO T_ok (fun w' h => Fk2.gr h.1) rfl rfl rfl rfl rfl rfl ?_
    refine V.gnil ?_
    rintro w94 G95 hH96
    have z97 := V.Fr.size G95
    have F88 : V.Row V.Cod.byte 5 w94 V.None' v68.heap.size w94.heap.size a86 c87 ((part3 d) ++ flagB d.go) := by
      obtain ⟨_, _, he, F0⟩ := (V.Hist.here (V.Hist.old (hH96 3)))
      cases he
      exact F0
    have F92 : V.Row V.Cod.byte 5 w94 V.None' v68.heap.size w94.heap.size a90 c91 (((part3 d) ++ flagB d.go) ++ stB d.aw d.al) := by
      obtain ⟨_, _, he, F0⟩ := (V.Hist.here (hH96 6))
      cases he
      exact F0
    clear hH96
    refine V.call (sput_spec (a := d.lw) (b := d.ll) F92.sl (fun k hk => by have := hk.2; omega) V.lenA (by omega) (by omega)) rfl rfl rfl ?_
    rintro _ w101 ⟨a98, c99, rfl, F100, G102⟩
    have z103 := V.Fr.size G102
    refine V.ru 1 ?_
    refine V.nt ?_
    refine V.seq ?_
    have hr104 : (((part3 d) ++ flagB d.go) ++ stB d.aw d.al) ++ stB d.lw d.ll = part4 d := rfl
    rw [hr104] at F100 ⊢
    clear hr104
    have hwl := hsm.wl
    have hfc : (flagB d.cm).length = 1 := rfl
    have hfs : (flagB d.st).length = 1 := rfl
    refine V.drawGT 10 (V.sel [(3, (fun v wz => ∃ (ra4 : Option Addr) (rc4 : Nat), v = .slice ra4 ((part4 d) ++ flagB d.cm).length rc4 ∧ V.Row V.Cod.byte 5 wz V.None' w101.heap.size wz.heap.size ra4 rc4 ((part4 d) ++ flagB d.cm))), (6, (fun v wz => ∃ (ra4 : Option Addr) (rc4 : Nat), v = .slice ra4 (((part4 d) ++ flagB d.cm) ++ flagB d.st).length rc4 ∧ V.Row V.Cod.byte 5 wz V.None' w101.heap.size wz.heap.size ra4 rc4 (((part4 d) ++ flagB d.cm) ++ flagB d.st)))]) mixed (by kernel_rfl) (V.mono_cons (by rintro v wz wz' g ⟨ra4, rc4, rfl, rF4⟩; exact ⟨ra4, rc4, rfl, (by first | exact (rF4.gr g).mono (V.In.sub (Nat.le_refl _) g.size) | exact rF4.gr g | exact (rF4.gr g).mono (fun _ h => h) (Nat.le_refl _) g.size | exact (rF4.gr g).mono (fun k h => ⟨h.1, Nat.lt_of_lt_of_le h.2 g.size⟩))⟩) (V.mono_cons (by rintro v wz wz' g ⟨ra4, rc4, rfl, rF4⟩; exact ⟨ra4, rc4, rfl, (by first | exact (rF4.gr g).mono (V.In.sub (Nat.le_refl _) g.size) | exact rF4.gr g | exact (rF4.gr g).mono (fun _ h => h) (Nat.le_refl _) g.size | exact (rF4.gr g).mono (fun k h => ⟨h.1, Nat.lt_of_lt_of_le h.2 g.size⟩))⟩) V.mono_nil)) ?_
    refine V.grun T_ok 2 rfl (V.sel_none rfl) ?_
    replace Fk2 := Fk2.gr (G95.trans G102)
    refine V.gloadO T_ok (fun w' h => Fk2.gr h.1) rfl rfl rfl rfl rfl rfl ?_
    refine V.gcall (fun w' h => (p_flag (v := d.cm) (F100.sl.gr h.1) (fun k hk => by have := Fr.size h.1; have := hk.2; omega) V.lenA).mono (by rintro v w'' ⟨ra4, rc4, rfl, rF4, G⟩; exact ⟨⟨ra4, rc4, rfl, (by first | exact rF4.mono (V.In.mono_l h.1.size) | exact rF4 | exact rF4.mono (fun _ h => h) h.1.size (Nat.le_refl _))⟩, G⟩)) rfl rfl rfl rfl ?_
    rintro _ w108 - - ⟨a105, c106, rfl, -⟩
    refine V.grun T_ok 1 rfl (V.sel_none rfl) ?_
    refine V.gloadO T_ok (fun w' h => Fk2.gr h.1) rfl rfl rfl rfl rfl rfl ?_
    refine V.gcall (fun w' h => (p_flag (v := d.st) (by obtain ⟨_, _, he, F0⟩ := (V.Hist.here (h.get (i := 3) rfl)); cases he; exact F0.sl) (fun k hk => by have := Fr.size h.1; have := hk.2; omega) V.lenA).mono (by rintro v w'' ⟨ra4, rc4, rfl, rF4, G⟩; exact ⟨⟨ra4, rc4, rfl, (by first | exact rF4.mono (V.In.mono_l h.1.size) | exact rF4 | exact rF4.mono (fun _ h => h) h.1.size (Nat.le_refl _))⟩, G⟩)) rfl rfl rfl rfl ?_
    rintro _ w112 - - ⟨a109, c110, rfl, -⟩
    refine V.grun T_ok 1 rfl (V.sel_none rfl) ?_
    refine V.gloadO T_ok (fun w' h => Fk2.gr h.1) rfl rfl rfl rfl rfl rfl ?_
    refine V.grun T_ok 1 rfl (V.sel_none rfl) ?_
    refine V.gnil ?_
    rintro w113 G114 hH115
    have z116 := V.Fr.size G114
    have F107 : V.Row V.Cod.byte 5 w113 V.None' w101.heap.size w113.heap.size a105 c106 ((part4 d) ++ flagB d.cm) := by
      obtain ⟨_, _, he, F0⟩ := (V.Hist.here (V.Hist.old (hH115 3)))
      cases he
      exact F0
    have F111 : V.Row V.Cod.byte 5 w113 V.None' w101.heap.size w113.heap.size a109 c110 (((part4 d) ++ flagB d.cm) ++ flagB d.st) := by
      obtain ⟨_, _, he, F0⟩ := (V.Hist.here (hH115 6))
      cases he
      exact F0
    clear hH115
    refine V.call (p_number (v := (d.ws.length : Int)) F111.sl (fun k hk => by have := hk.2; omega) V.lenA (by omega)) rfl rfl rfl ?_
    rintro _ w120 ⟨a117, c118, rfl, F119, G121⟩
    have z122 := V.Fr.size G121
    refine V.ru 1 ?_
    refine V.nt ?_
    refine V.seq ?_
    refine V.seq ?_
    have hr123 : (((part4 d) ++ flagB d.cm) ++ flagB d.st) ++ numB (d.ws.length : Int).toNat = part5 d ++ (d.ws.take 0).flatMap wb := (by rw [List.take_zero, List.flatMap_nil, List.append_nil]; rfl)
    rw [hr123] at F119 ⊢
    clear hr123
    refine V.region ?_
    refine V.ru 1 ?_
    replace Fk2 := Fk2.gr (G114.trans G121)
    refine V.loadO T_ok Fk2 rfl rfl rfl rfl rfl ?_
    refine V.ru 2 ?_
    refine V.nt ?_
    refine V.block ?_
    replace F_o := F_o.gr (G95.trans (G102.trans (G114.trans G121)))
    have hl63 := F_o.len63
    replace F13 := F13.gr (G95.trans (G102.trans (G114.trans G121)))
    replace rF51 := rF51.gr (G95.trans (G102.trans (G114.trans G121)))
    replace F41 := F41.gr (G95.trans (G102.trans (G114.trans G121)))
    replace F45 := F45.gr (G95.trans (G102.trans (G114.trans G121)))
    replace F60 := F60.gr (G95.trans (G102.trans (G114.trans G121)))
    replace rF52 := rF52.gr (G95.trans (G102.trans (G114.trans G121)))
    replace F88 := F88.gr (G102.trans (G114.trans G121))
    replace F92 := F92.gr (G102.trans (G114.trans G121))
    replace F100 := F100.gr (G114.trans G121)
    replace F107 := F107.gr G121
    replace F111 := F111.gr G121
    replace HG := HG.grow (G95.trans (G102.trans (G114.trans G121)))
    refine V.loopM (fun m e v125 => Fr [] w v125 ∧ w120.heap.size ≤ v125.heap.size ∧ Sl V.Cod.write v125 D_o a_o c_o d.ws ∧ Cells v125 k1 [.int .i64 d.kd, .int .i64 d.id, .int .i64 d.le, .int .i64 d.nd, .int .i64 d.ti, .int .i64 d.te, .string d.an, .int .i64 d.sw, .int .i64 d.sl, .int .i64 d.sq, .string d.fr, .string d.to, .string d.va, .bool d.go, .int .i64 d.aw, .int .i64 d.al, .int .i64 d.lw, .int .i64 d.ll, .bool d.cm, .bool d.st, .slice a_o d.ws.length c_o, .int .i64 d.pr] 41 ∧ V.Row (V.Cod.int .i64) 3 v125 V.None' k11 (k11 + 1) (some ⟨k11, 0, none⟩) (([d.kd, d.id, d.le, d.nd, d.ti, d.te] : List Int).length) (hdL d) ∧ V.Row V.Cod.byte 5 v125 V.None' w.heap.size v21.heap.size ra51 rc51 (part1 d) ∧ V.Row V.Cod.byte 5 v125 V.None' v21.heap.size w47.heap.size a39 c40 ((part1 d) ++ textB d.an.data.toList) ∧ V.Row V.Cod.byte 5 v125 V.None' v21.heap.size w47.heap.size a43 c44 (((part1 d) ++ textB d.an.data.toList) ++ stB d.sw d.sl) ∧ V.Row V.Cod.str 9 v125 V.None' k58 (k58 + 1) (some ⟨k58, 0, none⟩) (([d.fr, d.to, d.va] : List ByteArray).length) (txL d) ∧ V.Row V.Cod.byte 5 v125 V.None' w.heap.size v68.heap.size ra52 rc52 (part3 d) ∧ V.Row V.Cod.byte 5 v125 V.None' v68.heap.size w94.heap.size a86 c87 ((part3 d) ++ flagB d.go) ∧ V.Row V.Cod.byte 5 v125 V.None' v68.heap.size w94.heap.size a90 c91 (((part3 d) ++ flagB d.go) ++ stB d.aw d.al) ∧ V.Row V.Cod.byte 5 v125 V.None' w94.heap.size w101.heap.size a98 c99 (part4 d) ∧ V.Row V.Cod.byte 5 v125 V.None' w101.heap.size w113.heap.size a105 c106 ((part4 d) ++ flagB d.cm) ∧ V.Row V.Cod.byte 5 v125 V.None' w101.heap.size w113.heap.size a109 c110 (((part4 d) ++ flagB d.cm) ++ flagB d.st) ∧ ∃ (i : Nat) (ra53 : Option Addr) (rc53 : Nat), m = (d.ws).length - i ∧ i ≤ (d.ws).length ∧ V.Row V.Cod.byte 5 v125 V.None' w.heap.size v125.heap.size ra53 rc53 (part5 d ++ ((d.ws).take i).flatMap wb) ∧ e 1 = .pointer (some ⟨k1, 0, none⟩) ∧ e 4 = .slice ra53 (part5 d ++ ((d.ws).take i).flatMap wb).length rc53 ∧ e 90 = .slice a_o d.ws.length c_o ∧ e 91 = .int .i64 (d.ws.length : Int) ∧ e 92 = .int .i64 (i : Int)) ?_ ?_
    ·
     exact ⟨_, HG, (by omega), F_o, Fk2, F13, rF51, F41, F45, F60, rF52, F88, F92, F100, F107, F111, (0), a117, c118, rfl, (Nat.zero_le _), F119.re, rfl, rfl, rfl, rfl, rfl⟩
    try clear F119
    clear HG F_o Fk2 F13 rF51 F41 F45 F60 rF52 F88 F92 F100 F107 F111
    rintro _ e v125 ⟨HG, z126, F_o, Fk2, F13, rF51, F41, F45, F60, rF52, F88, F92, F100, F107, F111, i, ra53, rc53, rfl, hic, rF53, he2_1, he2_4, he2_90, he2_91, he2_92⟩
    have htc := fm_take_len (f := wb) (d.ws) i
    refine V.knownC (t := 1) he2_1 ?_
    refine V.knownC (t := 4) he2_4 ?_
    refine V.knownC (t := 90) he2_90 ?_
    refine V.knownC (t := 91) he2_91 ?_
    refine V.knownC (t := 92) he2_92 ?_
    refine V.sr ?_
    refine V.ru 1 ?_
    refine V.nt ?_
    refine V.seq ?_
    refine V.condT rfl (fun h18 => ?_) (fun h18 => ?_)
    ·
     try replace h18 := V.dec h18
     try simp only [V.mk] at h18
     refine V.skip ?_
     refine V.tN ?_
     refine V.seq ?_
     refine V.block ?_
     refine V.sr ?_
     refine V.elem T_ok F_o rfl rfl sz78 rfl rfl rfl rfl V.lenA V.lenA ?_
     rintro b127 o128 cs129 hx130 hb131 hR134 hA132
     obtain ⟨x133, hx133⟩ : ∃ z', d.ws[((i : Int)).toNat] = z' := ⟨_, rfl⟩
     rw [hx133] at hR134
     obtain ⟨_, _, rfl, rfl, rfl⟩ := hR134
     try simp only [Int.toNat_natCast] at hx133 hx130
     refine V.loadA T_ok (o0 := o128) (off := 0) hA132 rfl rfl rfl rfl rfl ?_
     refine V.alloc zero78 rfl rfl rfl ?_
     rintro k135 w137 s139 s140 G138 Fk136
     have z141 := V.Fr.size G138
     try simp only [V.cellsL, V.spliceL] at Fk136
     refine V.storeO Fk136 rfl rfl rfl rfl sz78 rfl rfl rfl rfl ?_
     rintro w142 G143 z145 Fs144
     clear Fk136
     have z146 := V.Fr.size G143
     have Fk136 := Fs144; clear Fs144
     simp only [V.spliceL, V.cellsL] at Fk136
     refine V.nt ?_
     have hxw := hsm.wn x133 (hx133 ▸ List.getElem_mem _)
     have htx : (textB x133.1.data.toList).length ≤ 17 := tb_len hxw.1 (by omega)
     refine V.drawGT 6 (V.sel [(3, (fun v wz => ∃ (ra3 : Option Addr) (rc3 : Nat), v = .slice ra3 ((part5 d ++ ((d.ws).take i).flatMap wb) ++ textB x133.1.data.toList).length rc3 ∧ V.Row V.Cod.byte 5 wz V.None' w142.heap.size wz.heap.size ra3 rc3 ((part5 d ++ ((d.ws).take i).flatMap wb) ++ textB x133.1.data.toList)))]) mixed (by kernel_rfl) (V.mono_cons (by rintro v wz wz' g ⟨ra3, rc3, rfl, rF3⟩; exact ⟨ra3, rc3, rfl, (by first | exact (rF3.gr g).mono (V.In.sub (Nat.le_refl _) g.size) | exact rF3.gr g | exact (rF3.gr g).mono (fun _ h => h) (Nat.le_refl _) g.size | exact (rF3.gr g).mono (fun k h => ⟨h.1, Nat.lt_of_lt_of_le h.2 g.size⟩))⟩) V.mono_nil) ?_
     refine V.grun T_ok 2 rfl (V.sel_none rfl) ?_
     refine V.gloadO T_ok (fun w' h => Fk136.gr h.1) rfl rfl rfl rfl rfl rfl ?_
     replace rF53 := rF53.gr G138
     replace rF53 := rF53.ma G143
     refine V.gcall (fun w' h => (p_text (s := x133.1) (rF53.sl.gr h.1) (fun k hk => by have := Fr.size h.1; have := hk.2; omega) V.lenA (by first | omega | decide | (simp only [V.S_size, List.length_cons, List.length_nil]; omega))).mono (by rintro v w'' ⟨ra3, rc3, rfl, rF3, G⟩; exact ⟨⟨ra3, rc3, rfl, (by first | exact rF3.mono (V.In.mono_l h.1.size) | exact rF3 | exact rF3.mono (fun _ h => h) h.1.size (Nat.le_refl _))⟩, G⟩)) rfl rfl rfl rfl ?_
     rintro _ w150 - - ⟨a147, c148, rfl, -⟩
     refine V.grun T_ok 1 rfl (V.sel_none rfl) ?_
     refine V.gloadO T_ok (fun w' h => Fk136.gr h.1) rfl rfl rfl rfl rfl rfl ?_
     refine V.gnil ?_
     rintro w151 G152 hH153
     have z154 := V.Fr.size G152
     have F149 : V.Row V.Cod.byte 5 w151 V.None' w142.heap.size w151.heap.size a147 c148 ((part5 d ++ ((d.ws).take i).flatMap wb) ++ textB x133.1.data.toList) := by
       obtain ⟨_, _, he, F0⟩ := (V.Hist.here (hH153 3))
       cases he
       exact F0
     clear hH153
     refine V.call (p_number (v := x133.2) F149.sl (fun k hk => by have := hk.2; omega) V.lenA (by omega)) rfl rfl rfl ?_
     rintro _ w158 ⟨a155, c156, rfl, F157, G159⟩
     have z160 := V.Fr.size G159
     refine V.ru 1 ?_
     refine V.nil ?_
     refine V.bN ?_
     refine V.tN ?_
     refine V.region ?_
     refine V.addN rfl rfl rfl rfl rfl V.lenA V.lenA ?_
     refine V.ru 1 ?_
     refine V.nt ?_
     have hr161 : ((part5 d ++ ((d.ws).take i).flatMap wb) ++ textB x133.1.data.toList) ++ numB x133.2.toNat = part5 d ++ ((d.ws).take (i + 1)).flatMap wb := (by rw [← fm_succ (f := wb) (by omega) hx133]; simp [wb, tb, nb, List.append_assoc])
     rw [hr161] at F157 ⊢
     clear hr161
     
     replace F_o := F_o.gr G138
     replace F_o := F_o.mb G143 hD_o
     replace F_o := F_o.gr (G152.trans G159)
     replace Fk2 := Fk2.gr G138
     replace Fk2 := Fk2.ma G143
     replace Fk2 := Fk2.gr (G152.trans G159)
     replace F13 := F13.gr G138
     replace F13 := F13.ma G143
     replace F13 := F13.gr (G152.trans G159)
     replace rF51 := rF51.gr G138
     replace rF51 := rF51.ma G143
     replace rF51 := rF51.gr (G152.trans G159)
     replace F41 := F41.gr G138
     replace F41 := F41.ma G143
     replace F41 := F41.gr (G152.trans G159)
     replace F45 := F45.gr G138
     replace F45 := F45.ma G143
     replace F45 := F45.gr (G152.trans G159)
     replace F60 := F60.gr G138
     replace F60 := F60.ma G143
     replace F60 := F60.gr (G152.trans G159)
     replace rF52 := rF52.gr G138
     replace rF52 := rF52.ma G143
     replace rF52 := rF52.gr (G152.trans G159)
     replace F88 := F88.gr G138
     replace F88 := F88.ma G143
     replace F88 := F88.gr (G152.trans G159)
     replace F92 := F92.gr G138
     replace F92 := F92.ma G143
     replace F92 := F92.gr (G152.trans G159)
     replace F100 := F100.gr G138
     replace F100 := F100.ma G143
     replace F100 := F100.gr (G152.trans G159)
     replace F107 := F107.gr G138
     replace F107 := F107.ma G143
     replace F107 := F107.gr (G152.trans G159)
     replace F111 := F111.gr G138
     replace F111 := F111.ma G143
     replace F111 := F111.gr (G152.trans G159)
     replace HG := HG.grow G138
     replace HG := HG.n1 G143
     replace HG := HG.grow (G152.trans G159)
     exact ⟨_, (by omega), HG, (by omega), F_o, Fk2, F13, rF51, F41, F45, F60, rF52, F88, F92, F100, F107, F111, (i + 1), a155, c156, rfl, (by omega), F157.re, rfl, rfl, rfl, rfl, rfl⟩
    ·
     try replace h18 := V.dec h18
     try simp only [V.mk] at h18
     refine V.exit ?_
     refine V.tX ?_
     refine V.tX ?_
     refine V.bE ?_
     refine V.tN ?_
     refine V.seq ?_
     have hr162 : part5 d ++ ((d.ws).take i).flatMap wb = part6 d := (by rw [fm_all (by omega)]; rfl)
     rw [hr162] at rF53 ⊢
     clear hr162
     have hpr := hsm.pr
     refine V.region ?_
     refine V.ru 2 ?_
     refine V.loadO T_ok Fk2 rfl rfl rfl rfl rfl ?_
     refine V.call (p_number (v := d.pr) rF53.sl (fun k hk => by have := hk.2; omega) V.lenA (by omega)) rfl rfl rfl ?_
     rintro _ w166 ⟨a163, c164, rfl, F165, G167⟩
     have z168 := V.Fr.size G167
     refine V.ru 2 ?_
     refine V.nt ?_
     refine V.ret ?_
     refine V.done rfl ?_
     rw [if_pos hcb, if_pos hcb, show encB d = part6 d ++ numB d.pr.toNat from rfl]
     replace HG := HG.grow G167
     exact ⟨a163, c164, (by first | rfl | simp only [List.length_set]), F165.re, HG⟩

end Go.Proofs.YtmmgmkklakkooaaGreat
