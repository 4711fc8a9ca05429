/- Proved here: walks: what functions of this seat's program return and what they leave of memory, each as a contract. Conditions: stated at each theorem. -/
import Derived.Test.YtmmgmkklakkooaaGreatMlbag2
namespace Go.Proofs.YtmmgmkklakkooaaGreat
set_option linter.unusedVariables false
set_option linter.unusedSimpArgs false
open Go
open V (Bytes Meets Env Sl Own Gr Fr Cells S)

def V.Cod.msg : V.Cod MsgV where
  sz := 53
  R := fun w D m cs => ∃ (a1 : Option Addr) (c1 : Nat) (a2 : Option Addr) (c2 : Nat) (a3 : Option Addr) (c3 : Nat) (a4 : Option Addr) (c4 : Nat) (a5 : Option Addr) (c5 : Nat), cs = [.int .i64 m.kd, .int .i64 m.fr, .int .i64 m.to, .int .i64 m.rg, .int .i64 m.te, .int .i64 m.ix, .int .i64 m.lt, .int .i64 m.co, .bool m.ok, .slice a1 m.es.length c1, .slice a2 m.da.length c2, .int .i64 m.nw, .int .i64 m.nl, .int .i64 m.c.kd, .int .i64 m.c.id, .int .i64 m.c.le, .int .i64 m.c.nd, .int .i64 m.c.ti, .int .i64 m.c.te, .string m.c.an, .int .i64 m.c.sw, .int .i64 m.c.sl, .int .i64 m.c.sq, .string m.c.fr, .string m.c.to, .string m.c.va, .bool m.c.go, .int .i64 m.c.aw, .int .i64 m.c.al, .int .i64 m.c.lw, .int .i64 m.c.ll, .bool m.c.cm, .bool m.c.st, .slice a3 m.c.ws.length c3, .int .i64 m.c.pr, .int .i64 m.r.er, .int .i64 m.r.aw, .int .i64 m.r.al, .slice a4 m.r.ps.length c4, .bool m.r.fo, .int .i64 m.r.ti, .int .i64 m.r.te, .string m.r.an, .int .i64 m.r.sw, .int .i64 m.r.sl, .int .i64 m.r.rc.id, .int .i64 m.r.rc.ep, .int .i64 m.r.rc.st, .int .i64 m.r.rc.aw, .int .i64 m.r.rc.al, .int .i64 m.r.rc.bw, .int .i64 m.r.rc.bl, .slice a5 m.r.rc.ws.length c5] ∧ Sl V.Cod.ent w D a1 c1 m.es ∧ Sl V.Cod.byte w D a2 c2 m.da ∧ Sl V.Cod.write w D a3 c3 m.c.ws ∧ Sl (V.Cod.pair V.Cod.str V.Cod.str) w D a4 c4 m.r.ps ∧ Sl V.Cod.write w D a5 c5 m.r.rc.ws
  len := by rintro w D m cs ⟨a1, c1, a2, c2, a3, c3, a4, c4, a5, c5, rfl, -⟩; rfl
  one := by
    rintro w D m cs ⟨a1, c1, a2, c2, a3, c3, a4, c4, a5, c5, rfl, -⟩
    exact List.all_eq_true.1 (by rfl)
  mv := by rintro S w w' D m cs ⟨a1, c1, a2, c2, a3, c3, a4, c4, a5, c5, rfl, h1, h2, h3, h4, h5⟩ f hs; exact ⟨a1, c1, a2, c2, a3, c3, a4, c4, a5, c5, rfl, h1.mv f hs, h2.mv f hs, h3.mv f hs, h4.mv f hs, h5.mv f hs⟩
  mono := by rintro w D D' m cs ⟨a1, c1, a2, c2, a3, c3, a4, c4, a5, c5, rfl, h1, h2, h3, h4, h5⟩ hm; exact ⟨a1, c1, a2, c2, a3, c3, a4, c4, a5, c5, rfl, h1.mono hm, h2.mono hm, h3.mono hm, h4.mono hm, h5.mono hm⟩

theorem put_held {held : List MsgV} {x : MsgV} (he : encE x = 0) (hl : (held.map encM).length < 300) : putL (held.map encM) x = (held ++ [x]).map encM := by rw [put_yes he hl, List.map_append]; rfl
theorem hall_put {held : List MsgV} {x : MsgV} (h : ∀ y ∈ held, encE y = 0) (he : encE x = 0) : ∀ y ∈ held ++ [x], encE y = 0 := by
  intro y hy
  rcases List.mem_append.1 hy with h1 | h1
  · exact h y h1
  · rw [List.mem_singleton.1 h1]; exact he
theorem putE_0 {l : List (List UInt8)} {x : MsgV} (h : putE l x = 0) : encE x = 0 := by
  unfold putE at h
  split at h
  · assumption
  · cases h
theorem putE_n {l : List (List UInt8)} {x : MsgV} (hl : l.length < 300) (h : ¬ putE l x = 0) : ¬ encE x = 0 := fun he => h (putE_yes he hl)
theorem look_held {held : List MsgV} (h : ∀ y ∈ held, encE y = 0) {j : Int} {x : MsgV} (h0 : 0 ≤ j ∧ j < held.length) (hj : j.toNat < held.length) (hx : held[j.toNat] = x) : lookM (held.map encM) j = x ∧ lookB (held.map encM) j = true := by
  have hg : (held.map encM).getD j.toNat [] = encM x := by
    rw [List.getD_eq_getElem?_getD, List.getElem?_map, List.getElem?_eq_getElem hj, hx]; rfl
  have he : encE x = 0 := h x (hx ▸ List.getElem_mem _)
  have hc : 0 ≤ j ∧ j < ((held.map encM).length : Int) := by rw [List.length_map]; exact h0
  unfold lookM lookB
  rw [if_pos hc, if_pos hc, hg, decM_enc he]; exact ⟨rfl, rfl⟩
theorem twc_held {held : List MsgV} {j : Int} {x : MsgV} (h0 : 0 ≤ j ∧ j < held.length) (hl : held.length < 300) (hj : j.toNat < held.length) (hx : held[j.toNat] = x) : twcL (held.map encM) j = (held ++ [x]).map encM := by
  have hg : (held.map encM).getD j.toNat [] = encM x := by
    rw [List.getD_eq_getElem?_getD, List.getElem?_map, List.getElem?_eq_getElem hj, hx]; rfl
  unfold twcL
  rw [if_pos ⟨by rw [List.length_map]; exact h0, by rw [List.length_map]; exact hl⟩, hg, List.map_append]; rfl
theorem del_held {held : List MsgV} {j : Int} (h0 : 0 ≤ j ∧ j < held.length) : delL (held.map encM) j = (held.take j.toNat ++ held.drop (j + 1).toNat).map encM := by
  unfold delL
  rw [if_pos (by rw [List.length_map]; exact h0), List.map_append, List.map_take, List.map_drop]
section
open V
variable {P : Program} {n : Nat} {e : Env} {o : Oper}
end

end Go.Proofs.YtmmgmkklakkooaaGreat
