/- Arrays of bytes as values: loads and stores of many cells. -/
import Derived.Test.YtnbomjfpnpmllaaHWords
import Derived.Deep.MidRow
import Derived.Laws.Cover3
namespace Go.Proofs.Ytnbomjfpnpmllaa.Q
open Go.RowKit Go.Proofs.YtnbomjfpnpmllaaW.PrintWords Go.Proofs.YtnbomjfpnpmllaaW.PrintLast Go.Proofs.YtnbomjfpnpmllaaW.PrintMore
def byteCells (L : List Int) : List Value := L.map (Value.int .u8)
theorem byteCells_len (L : List Int) : (byteCells L).length = L.length := List.length_map _
theorem byteCells_one (L : List Int) : ∀ v ∈ byteCells L, v.oneCell' = true := fun v hv => by
  obtain ⟨x, _, rfl⟩ := List.mem_map.1 hv
  rfl
theorem byteCells_get (L : List Int) (j : Nat) (v : Value) (h : (byteCells L)[j]? = some v) : ∃ x, L[j]? = some x ∧ v = .int .u8 x := by
  unfold byteCells at h
  rw [List.getElem?_map] at h
  obtain ⟨x, hx, rfl⟩ := Option.map_eq_some_iff.1 h
  exact ⟨x, hx, rfl⟩
theorem C_cells {w : World} {ad : Addr} {n : Nat} {L : List Int} (h : Kd.C (Kd.int .u8) w (some ad) n L) : ∀ j v, (byteCells L)[j]? = some v → w.cell? (ad.add j) = some v := fun j v hv => by
  obtain ⟨x, hx, rfl⟩ := byteCells_get L j v hv
  have hj : j < L.length := (List.getElem?_eq_some_iff.1 hx).1
  obtain ⟨ad', ea, hc⟩ := Kd.at_int h (j : Int) (by omega) (by have := Kd.C_len h; omega)
  cases ea
  rw [Int.toNat_natCast] at hc
  rw [hc]
  have : rd L (j : Int) = x := by simp [rd, List.getD_eq_getElem?_getD, hx]
  rw [this]
theorem C_of_range {w : World} {b o n : Nat} {L : List Int} (h : w.rangeAt b o (byteCells L)) (hl : L.length = n) (hn : n ≤ 9223372036854775807) : Kd.C (Kd.int .u8) w (some ⟨b, o, none⟩) n L := by
  refine ⟨hl, hn, fun hp => ⟨_, rfl, fun j p hj => ⟨[.int .u8 p], rfl, rfl, fun i u hu => ?_⟩⟩⟩
  have hi : i = 0 := by
    have := (List.getElem?_eq_some_iff.1 hu).1
    simp at this
    exact this
  subst hi
  simp at hu
  subst hu
  rw [Addr.add_mid]
  have := h j (.int .u8 p) (by unfold byteCells; rw [List.getElem?_map, hj]; rfl)
  show w.cell? ⟨b, o + (j * 1 + 0), none⟩ = _
  rw [Nat.mul_one, Nat.add_zero]
  exact this
theorem range_of_C {w : World} {b o n : Nat} {L : List Int} (h : Kd.C (Kd.int .u8) w (some ⟨b, o, none⟩) n L) : w.rangeAt b o (byteCells L) := fun j v hv => by
  have := C_cells h j v hv
  rwa [Addr.add_mid] at this
theorem range_append {w : World} {b o : Nat} {xs ys : List Value} (h1 : w.rangeAt b o xs) (h2 : w.rangeAt b (o + xs.length) ys) : w.rangeAt b o (xs ++ ys) := fun j v hv => by
  by_cases hj : j < xs.length
  · rw [List.getElem?_append_left hj] at hv
    exact h1 j v hv
  · rw [List.getElem?_append_right (by omega)] at hv
    have := h2 _ v hv
    rwa [show o + xs.length + (j - xs.length) = o + j by omega] at this
section
variable {P : Program}
theorem run_loadVar_any (w : World) (ad : Addr) (ty : TypeId) (cs : List Value) (d : TypeDesc) (hc : ∀ j v, cs[j]? = some v → w.cell? (ad.add j) = some v)
    (hu : P.underlying ty = some d) (hd : d.isRow = true) (hi : (P.info? ty).map (·.size) = some cs.length) :
    (loadVar ty ad).run P w = .ok (.agg cs.toArray) w := by
  have hl : (loadCells ad cs.length).run P w = .ok cs.toArray w := run_loadCells_list (P := P) w ad cs hc
  cases hq : P.info? ty with
  | none => simp [hq] at hi
  | some i =>
    have hs : i.size = cs.length := by simpa [hq] using hi
    have hagg : (isAgg ty).run P w = .ok true w := by
      unfold isAgg
      rw [Sem.run_bind, run_underlying hu w]
      cases d <;> simp_all
    simp [loadVar, Sem.run_bind, hagg, sizeOf, typeInfo, hq, hs, hl]
theorem wpList_load_any {ops : Array Oper} {rest : List Oper} {op : Oper} {a : Act} {w : World} {Q : Exit → Act → World → Prop} (hgd : op.guard = none) (ty : TypeId) (x : Operand) (ho : op.op = .load ty x)
    (ad : Addr) (hx : a.eval x = .pointer (some ad)) (cs : List Value) (d : TypeDesc) (hc : ∀ j v, cs[j]? = some v → w.cell? (ad.add j) = some v)
    (hu : P.underlying ty = some d) (hd : d.isRow = true) (hi : (P.info? ty).map (·.size) = some cs.length)
    (h : wpList P ops Q rest (a.put op.dst (.agg cs.toArray)) w) : wpList P ops Q (op :: rest) a w :=
  wpList_plain hgd fun K hK => by
    unfold Oper.wp execOp
    simp only [ho, hx, Instr.loadAt, Instr.sureAddr, Sem.run_bind, Sem.run_pure, Result.andThen_ok, run_loadVar_any w ad ty cs d hc hu hd hi]
    exact hK _ _ h
end
theorem below_setCells {w W : World} {g o : Nat} (h : Below w.heap.size w W) (hg : w.heap.size ≤ g) (vs : List Value) : Below w.heap.size w (W.setCells g o vs) := by
  obtain ⟨h1, h2, h3, h4⟩ := setCells_same g vs o W
  exact ⟨h1.trans h.os, h2.trans h.tape, h3.trans h.output, by rw [h4]; exact h.size, fun k hk => (setCells_far vs o k (by omega)).trans (h.block k hk)⟩
end Go.Proofs.Ytnbomjfpnpmllaa.Q
