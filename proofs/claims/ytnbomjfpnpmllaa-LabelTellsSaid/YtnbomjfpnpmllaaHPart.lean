/- Arrays of eight partitions as variables. -/
import Derived.Test.YtnbomjfpnpmllaaHRefBytes
set_option linter.unusedSimpArgs false
set_option linter.unusedVariables false
namespace Go.Proofs.Ytnbomjfpnpmllaa.Q
open Go.RowKit Go.Proofs.YtnbomjfpnpmllaaW.PrintWords Go.Proofs.YtnbomjfpnpmllaaW.PrintLast Go.Proofs.YtnbomjfpnpmllaaW.PrintMore
def noParts : List Part := List.replicate 8 (0, 0)
def PCell (w : World) (g : Nat) (ps : List Part) : Prop := w.heap[g]? = some (.cells (partCells ps).toArray 25 (0, 0))
theorem alloc25 (h : Bool) (W : World) : (Instr.alloc 25 h undef).run Try.prog W = .ok (.pointer (some ⟨W.heap.size, 0, none⟩)) (W.alloc (.cells (partCells noParts).toArray 25 (0, 0))) := by
  cases h <;> kernel_rfl
theorem PCell.get0 {w : World} {g : Nat} {ps : List Part} (h : PCell w g ps) (i : Nat) (hi : i < ps.length) : w.cell? ⟨g, i * 2, none⟩ = some (.int .u32 (ps.getD i (0, 0)).1) := by
  rw [blk_cell h, Nat.mul_comm]; simpa using (partCells_get ps i hi).1
theorem PCell.get1 {w : World} {g : Nat} {ps : List Part} (h : PCell w g ps) (i : Nat) (hi : i < ps.length) : w.cell? ⟨g, i * 2 + 1, none⟩ = some (.int .u32 (ps.getD i (0, 0)).2) := by
  rw [blk_cell h, Nat.mul_comm]; simpa using (partCells_get ps i hi).2
theorem partCells_set0 (ps : List Part) (i : Nat) (hi : i < ps.length) (a : Int) : (partCells ps).set (2 * i) (.int .u32 a) = partCells (ps.set i (a, (ps.getD i (0, 0)).2)) := by
  induction ps generalizing i with
  | nil => simp at hi
  | cons p ps ih =>
    cases i with
    | zero => rfl
    | succ i =>
      have := ih i (by simpa using hi)
      simp only [partCells, List.flatMap_cons, List.set_cons_succ] at this ⊢
      rw [show 2 * (i + 1) = 2 * i + 1 + 1 by omega]
      simpa using this
theorem partCells_set1 (ps : List Part) (i : Nat) (hi : i < ps.length) (a : Int) : (partCells ps).set (2 * i + 1) (.int .u32 a) = partCells (ps.set i ((ps.getD i (0, 0)).1, a)) := by
  induction ps generalizing i with
  | nil => simp at hi
  | cons p ps ih =>
    cases i with
    | zero => rfl
    | succ i =>
      have := ih i (by simpa using hi)
      simp only [partCells, List.flatMap_cons, List.set_cons_succ] at this ⊢
      rw [show 2 * (i + 1) = 2 * i + 1 + 1 by omega]
      simpa using this
theorem PCell.set0 {w : World} {g : Nat} {ps : List Part} (h : PCell w g ps) (i : Nat) (hi : i < ps.length) (a : Int) : PCell (w.setCell ⟨g, i * 2, none⟩ (.int .u32 a)) g (ps.set i (a, (ps.getD i (0, 0)).2)) :=
  blk_put h (i * 2) (.int .u32 a) (by rw [← partCells_set0 ps i hi, Nat.mul_comm]; simp)
theorem PCell.set1 {w : World} {g : Nat} {ps : List Part} (h : PCell w g ps) (i : Nat) (hi : i < ps.length) (a : Int) : PCell (w.setCell ⟨g, i * 2 + 1, none⟩ (.int .u32 a)) g (ps.set i ((ps.getD i (0, 0)).1, a)) :=
  blk_put h (i * 2 + 1) (.int .u32 a) (by rw [← partCells_set1 ps i hi, Nat.mul_comm]; simp)
theorem PCell.below {w w1 : World} {g : Nat} {ps : List Part} (h : PCell w g ps) (hb : Below w.heap.size w w1) : PCell w1 g ps := blk_below h hb
theorem run_store_parts {P : Program} (hi : (P.info? 25).map (·.size) = some 16) {w : World} {g : Nat} {cur cs : List Value} (hg : w.heap[g]? = some (.cells cur.toArray 25 (0, 0))) (hc : cur.length = 16) (hl : cs.length = 16) (h1 : ∀ v ∈ cs, v.oneCell' = true) :
    (Instr.storeAt 25 (.pointer (some ⟨g, 0, none⟩)) (.agg cs.toArray)).run P w = .ok () (w.setRow g cs.toArray) := by
  obtain ⟨i0, hi0, hsz⟩ := Option.map_eq_some_iff.1 hi
  have hst := run_storeCells_at P g 0 25 cs 0 cur.toArray w hg (by simp; omega) h1
  simp only [Nat.zero_add, List.take_zero, List.nil_append, List.drop_of_length_le (l := cur) (i := cs.length) (by omega), List.append_nil] at hst
  simp [Instr.storeAt, Instr.sureAddr, storeVar, sizeOf, typeInfo, hi0, hsz, Value.cells, hl, hst]
theorem store_parts {ops : Array Oper} {rest : List Oper} {o : Oper} {a : Act} {Q : Exit → Act → World → Prop} {w : World} (hgd : o.guard = none) (x y : Operand) (ho : o.op = .store 25 x y) (g : Nat) (qs ps : List Part)
    (hx : a.eval x = .pointer (some ⟨g, 0, none⟩)) (hy : a.eval y = .agg (partCells ps).toArray) (hg : PCell w g qs) (hq : qs.length = 8) (hl : ps.length = 8)
    (h : ∀ w1, PCell w1 g ps → w.grownBy w1 (some g) → wpList Try.prog ops Q rest (a.put o.dst undef) w1) : wpList Try.prog ops Q (o :: rest) a w := by
  have hr := run_store_parts (P := Try.prog) size25 hg (by rw [partCells_len]; omega) (by rw [partCells_len]; omega) (partCells_one ps)
  refine wpList_plain hgd fun K hK => ?_
  unfold Oper.wp execOp
  simp only [ho, hx, hy, Sem.run_bind, hr, Result.andThen_ok, Sem.run_pure]
  exact hK _ _ (h _ (setRow_heap w g _ _ 25 (0, 0) hg) (setRow_grown _ _ _))
theorem load_parts {ops : Array Oper} {rest : List Oper} {o : Oper} {a : Act} {Q : Exit → Act → World → Prop} {w : World} (hgd : o.guard = none) (x : Operand) (ho : o.op = .load 25 x) (g : Nat) (ps : List Part)
    (hx : a.eval x = .pointer (some ⟨g, 0, none⟩)) (hg : PCell w g ps) (hl : ps.length = 8) (h : wpList Try.prog ops Q rest (a.put o.dst (.agg (partCells ps).toArray)) w) : wpList Try.prog ops Q (o :: rest) a w :=
  wpList_load_any hgd 25 x ho ⟨g, 0, none⟩ hx (partCells ps) (.array 8 24) (fun j v hv => by rw [Addr.add_mid, Nat.zero_add, blk_cell hg]; simpa using hv) Try.underlying25 rfl (by rw [partCells_len, hl]; exact size25) h
theorem results_parts {fn : Func} {p u : Tmp} (h : fn.results = #[.cell p 25, .tmp u]) (tmps : Array Value) (w : World) (g : Nat) (ps : List Part) (hp : tmps.getD p undef = .pointer (some ⟨g, 0, none⟩)) (hg : PCell w g ps) (hl : ps.length = 8) :
    (results fn tmps).run Try.prog w = .ok (.tuple #[.agg (partCells ps).toArray, tmps.getD u undef]) w :=
  results_ct h tmps w g 25 _ (0, 0) (.array 8 24) hp hg Try.underlying25 rfl (by rw [List.size_toArray, partCells_len, hl]; exact size25)
theorem noParts_len : noParts.length = 8 := rfl
end Go.Proofs.Ytnbomjfpnpmllaa.Q
