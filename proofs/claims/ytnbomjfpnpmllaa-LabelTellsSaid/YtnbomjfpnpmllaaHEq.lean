/- Two bytes, and eight partitions, compared as values. -/
import Derived.Test.YtnbomjfpnpmllaaHPart
import Derived.Test.YtnbomjfpnpmllaaWEqStruct
import Derived.ChangeKeysEq
set_option linter.unusedSimpArgs false
set_option linter.unusedVariables false
namespace Go.Proofs.Ytnbomjfpnpmllaa.Q
open Go.RowKit Go.Proofs.YtnbomjfpnpmllaaW.PrintWords Go.Proofs.YtnbomjfpnpmllaaW.PrintLast Go.Proofs.YtnbomjfpnpmllaaW.PrintMore
theorem cellsOf5 : Try.prog.cellsOf 5 = 1 := by kernel_rfl
theorem cellsOf24 : Try.prog.cellsOf 24 = 2 := by kernel_rfl
theorem stood24 : Try.prog.stoodInHeld 24 = false := by kernel_rfl
theorem plain5 : Try.prog.plainKey 5 = true := by kernel_rfl
theorem plain22 : Try.prog.plainKey 22 = true := by kernel_rfl
theorem eq24 (d : Nat) (a b a' b' : Int) (w : World) : (Op.equalIn (d + 2) 24 (.agg #[.int .u32 a, .int .u32 b]) (.agg #[.int .u32 a', .int .u32 b'])).run Try.prog w = .ok ((a == a') && (b == b')) w :=
  eqA_of Try.underlying24 stood24 (eqf_cons rfl (run_part_plain w plain22 rfl) (run_part_plain w plain22 rfl) (run_equalIn_int w d 22 .u32 .u32 a a' Try.underlying22)
    (eqf_last rfl (run_part_plain w plain22 rfl) (run_part_plain w plain22 rfl) (run_equalIn_int w d 22 .u32 .u32 b b' Try.underlying22)))
theorem extract2 (cs : List Value) (i : Nat) (a b : Value) (ha : cs[2 * i]? = some a) (hb : cs[2 * i + 1]? = some b) : cs.toArray.extract (i * 2) (i * 2 + 2) = #[a, b] := by
  have h1 := (List.getElem?_eq_some_iff.1 hb).1
  apply Array.ext_getElem?
  intro k
  rw [Array.getElem?_extract]
  simp only [List.size_toArray, List.getElem?_toArray]
  match k with
  | 0 => rw [if_pos (by simp only [Nat.min_def]; split <;> omega), Nat.add_zero, Nat.mul_comm, ha]; rfl
  | 1 => rw [if_pos (by simp only [Nat.min_def]; split <;> omega), Nat.mul_comm, hb]; rfl
  | k + 2 => rw [if_neg (by simp only [Nat.min_def]; split <;> omega)]; rfl
theorem part24 (W : World) (ps : List Part) (i : Nat) (hi : i < ps.length) : (part 24 (partCells ps).toArray (i * 2)).run Try.prog W = .ok (.agg #[.int .u32 (ps.getD i (0, 0)).1, .int .u32 (ps.getD i (0, 0)).2]) W := by
  obtain ⟨i24, hi24, hsz⟩ := Option.map_eq_some_iff.1 size24
  have hsize : (sizeOf 24).run Try.prog W = .ok 2 W := by simp [sizeOf, typeInfo, hi24, hsz]
  have hagg : (isAgg 24).run Try.prog W = .ok true W := by
    unfold isAgg
    rw [Sem.run_bind, run_underlying Try.underlying24 W]
    rfl
  have hg := partCells_get ps i hi
  have hex := extract2 _ i _ _ hg.1 hg.2
  unfold part
  rw [Sem.run_bind, hagg, Result.andThen_ok, if_pos rfl, Sem.run_bind, hsize, Result.andThen_ok, hex]
  rfl
theorem eqItems25 (d : Nat) (W : World) (ps qs : List Part) : ∀ is : List Nat, (∀ i ∈ is, i < ps.length ∧ i < qs.length) →
    (Op.eqItems (d + 2) 24 2 (partCells ps).toArray (partCells qs).toArray is).run Try.prog W = .ok (is.all fun i => ps.getD i (0, 0) == qs.getD i (0, 0)) W
  | [], _ => by simp [Op.eqItems]
  | i :: is, h => by
    have h1 := h i (List.mem_cons_self ..)
    have ih := eqItems25 d W ps qs is (fun j hj => h j (List.mem_cons_of_mem _ hj))
    rw [Op.eqItems, Sem.run_bind, part24 W ps i h1.1, Result.andThen_ok, Sem.run_bind, part24 W qs i h1.2, Result.andThen_ok, Sem.run_bind, eq24, Result.andThen_ok, List.all_cons]
    have e : (ps.getD i (0, 0) == qs.getD i (0, 0)) = (((ps.getD i (0, 0)).1 == (qs.getD i (0, 0)).1) && ((ps.getD i (0, 0)).2 == (qs.getD i (0, 0)).2)) := rfl
    rw [e]
    cases (((ps.getD i (0, 0)).1 == (qs.getD i (0, 0)).1) && ((ps.getD i (0, 0)).2 == (qs.getD i (0, 0)).2))
    · simp
    · simpa using ih
theorem all_getD (ps qs : List Part) (hp : ps.length = 8) (hq : qs.length = 8) : ((List.range 8).all fun i => ps.getD i (0, 0) == qs.getD i (0, 0)) = decide (ps = qs) := by
  by_cases h : ps = qs
  · subst h
    simp
  · rw [decide_eq_false h, Bool.eq_false_iff]
    intro ha
    refine h (List.ext_getElem? fun i => ?_)
    by_cases hi : i < 8
    · have := List.all_eq_true.1 ha i (List.mem_range.2 hi)
      have := beq_iff_eq.1 this
      rw [List.getD_eq_getElem?_getD, List.getD_eq_getElem?_getD, List.getElem?_eq_getElem (by omega), List.getElem?_eq_getElem (by omega)] at this
      rw [List.getElem?_eq_getElem (by omega), List.getElem?_eq_getElem (by omega)]
      exact congrArg some this
    · rw [List.getElem?_eq_none (by omega), List.getElem?_eq_none (by omega)]
theorem eq25 (d : Nat) (w : World) (ps qs : List Part) (hp : ps.length = 8) (hq : qs.length = 8) : (Op.equalIn (d + 3) 25 (.agg (partCells ps).toArray) (.agg (partCells qs).toArray)).run Try.prog w = .ok (decide (ps = qs)) w := by
  obtain ⟨i24, hi24, _⟩ := Option.map_eq_some_iff.1 size24
  rw [run_equalIn_array w (d + 2) _ _ Try.underlying25 hi24, cellsOf24, eqItems25 d w ps qs _ (fun i hi => by have := List.mem_range.1 hi; omega), all_getD ps qs hp hq]
theorem eq52 (d : Nat) (w : World) (x y x' y' : Int) : (Op.equalIn (d + 2) 52 (.agg #[.int .u8 x, .int .u8 y]) (.agg #[.int .u8 x', .int .u8 y'])).run Try.prog w = .ok ((x == x') && (y == y')) w := by
  obtain ⟨i5, hi5, _⟩ := info_parts info5s
  rw [run_equalIn_array w (d + 1) _ _ Try.underlying52 hi5, cellsOf5, show List.range 2 = [0, 1] from rfl]
  have q1 : (part 5 #[Value.int .u8 x, Value.int .u8 y] (0 * 1)).run Try.prog w = .ok (.int .u8 x) w := run_part_plain w plain5 rfl
  have q2 : (part 5 #[Value.int .u8 x', Value.int .u8 y'] (0 * 1)).run Try.prog w = .ok (.int .u8 x') w := run_part_plain w plain5 rfl
  have q3 : (part 5 #[Value.int .u8 x, Value.int .u8 y] (1 * 1)).run Try.prog w = .ok (.int .u8 y) w := run_part_plain w plain5 rfl
  have q4 : (part 5 #[Value.int .u8 x', Value.int .u8 y'] (1 * 1)).run Try.prog w = .ok (.int .u8 y') w := run_part_plain w plain5 rfl
  have e1 := run_equalIn_int w d 5 .u8 .u8 x x' Try.underlying5
  have e2 := run_equalIn_int w d 5 .u8 .u8 y y' Try.underlying5
  simp only [Op.eqItems, Sem.run_bind, q1, q2, Result.andThen_ok, e1]
  cases x == x'
  · rfl
  · simp only [Bool.not_true, Bool.false_eq_true, if_false, Sem.run_bind, q3, q4, Result.andThen_ok, e2]
    cases y == y' <;> rfl
end Go.Proofs.Ytnbomjfpnpmllaa.Q
