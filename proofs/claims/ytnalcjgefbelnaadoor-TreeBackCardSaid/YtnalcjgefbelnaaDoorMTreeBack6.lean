/- Contracts of Go functions and plain facts, of several texts, one behind the other; no condition. -/
import Derived.Test.YtnalcjgefbelnaaDoorMTreeBack5
import Derived.Test.YtnalcjgefbelnaaDoorMTreeBack2
import Derived.Test.YtnalcjgefbelnaaDoorMTreeBack4
import Derived.Test.YtnalcjgefbelnaaDoorMTreeBack3
import Derived.Deep.QuietTactic
import Derived.BigQuiet
import Derived.Laws.Cover1
import Derived.ChangeArms
import Derived.OpenShut
import Derived.SizedLaws
section
set_option linter.unusedSimpArgs false
set_option linter.unusedVariables false
namespace Go.Proofs.YtnalcjgefbelnaaDoor.Q
open Go.RowKit Go.Proofs.YtnalcjgefbelnaaDoorW.PrintWords Go.Proofs.YtnalcjgefbelnaaDoorW.PrintLast
/-- How many bytes stand ahead of the first c. -/
def nextB (c : UInt8) : List UInt8 → Nat
  | [] => 0
  | a :: l => if a = c then 0 else nextB c l + 1
theorem nextB_le (c : UInt8) : ∀ l : List UInt8, nextB c l ≤ l.length
  | [] => Nat.le_refl _
  | a :: l => by
    have := nextB_le c l
    rw [nextB]
    split
    · exact Nat.zero_le _
    · rw [List.length_cons]; omega
theorem nextB_none (c : UInt8) : ∀ (l : List UInt8) (j : Nat), j < nextB c l → l[j]? ≠ some c
  | [], j, h => absurd h (by simp [nextB])
  | a :: l, j, h => by
    rw [nextB] at h
    split at h
    · omega
    · rename_i ha
      cases j with
      | zero => simpa using ha
      | succ j => rw [List.getElem?_cons_succ]; exact nextB_none c l j (by omega)
theorem nextB_at (c : UInt8) : ∀ l : List UInt8, nextB c l < l.length → l[nextB c l]? = some c
  | [], h => absurd h (by simp)
  | a :: l, h => by
    rw [nextB] at h ⊢
    split
    · rename_i ha; simp [ha]
    · rename_i ha
      rw [if_neg ha, List.length_cons] at h
      rw [List.getElem?_cons_succ]
      exact nextB_at c l (by omega)
theorem index_next (c : UInt8) : ∀ l : List UInt8, Lib.indexByte l c = if nextB c l < l.length then (nextB c l : Int) else -1
  | [] => by rw [Lib.indexByte]; rfl
  | a :: l => by
    have ih := index_next c l
    have hle := nextB_le c l
    rw [Lib.indexByte, nextB]
    by_cases ha : a = c
    · rw [if_pos ha, if_pos (beq_iff_eq.2 ha), if_pos (by simp)]
      rfl
    · rw [if_neg ha, if_neg (by simpa using ha), ih]
      by_cases hl : nextB c l < l.length
      · rw [if_pos hl, if_neg (show ¬ (((nextB c l : Nat) : Int) == -1) = true by simp), if_pos (by rw [List.length_cons]; omega)]
        omega
      · rw [if_neg hl, if_pos (show ((-1 : Int) == -1) = true by decide), if_neg (by rw [List.length_cons]; omega)]
theorem cuts_next (c : UInt8) (l : List UInt8) : cuts c l = if nextB c l < l.length then l.take (nextB c l) :: cuts c (l.drop (nextB c l + 1)) else [l] := by
  by_cases h : nextB c l < l.length
  · rw [if_pos h]
    exact cuts_at c _ l (nextB_none c l) (nextB_at c l h)
  · rw [if_neg h]
    refine cuts_end c l (fun j hj => ?_)
    have hlt := (List.getElem?_eq_some_iff.1 hj).1
    have hle := nextB_le c l
    exact nextB_none c l j (by omega) hj
theorem bytes_len (s : ByteArray) : s.data.toList.length = s.size := Array.length_toList
theorem byte_btc (s : ByteArray) (c : UInt8) (j : Nat) (h : j < s.size) : s.data.toList[j]? = some c ↔ bt s (j : Int) = (c.toNat : Int) := by
  unfold bt
  rw [dif_pos (show ((j : Int)).toNat < s.size from h)]
  rw [List.getElem?_eq_getElem (by rw [Array.length_toList]; exact h), Option.some.injEq, Array.getElem_toList]
  show s.data[j] = c ↔ ((s.data[j]).toNat : Int) = (c.toNat : Int)
  constructor
  · intro e; rw [e]
  · intro e
    apply UInt8.toNat_inj.1
    omega
theorem place_go (s : ByteArray) (c : UInt8) (hs : s.size ≤ 1000000000) : ∀ (d k i : Nat), i + d = s.size → d + 1 ≤ k → tinderref07_Place.l0 k s (i : Int) (c.toNat : Int) = some ((i + nextB c (s.data.toList.drop i) : Nat) : Int)
  | 0, k, i, hi, hk => by
    obtain ⟨k, rfl⟩ : ∃ m, k = m + 1 := ⟨k - 1, by omega⟩
    unfold tinderref07_Place.l0
    rw [if_neg (by omega), List.drop_eq_nil_of_le (by rw [bytes_len]; omega)]
    rfl
  | d + 1, k, i, hi, hk => by
    obtain ⟨k, rfl⟩ : ∃ m, k = m + 1 := ⟨k - 1, by omega⟩
    have hl : i < s.data.toList.length := by rw [bytes_len]; omega
    unfold tinderref07_Place.l0
    rw [if_pos (by omega), if_pos (by omega), List.drop_eq_getElem_cons hl, nextB]
    have hb := byte_btc s c i (by omega)
    rw [List.getElem?_eq_getElem hl, Option.some.injEq] at hb
    by_cases he : bt s (i : Int) = (c.toNat : Int)
    · rw [if_pos he, if_pos (hb.2 he)]
      rfl
    · rw [if_neg he, if_neg (fun h => he (hb.1 h)), show wrap64 ((i : Int) + 1) = ((i + 1 : Nat) : Int) by unfold wrap64; omega, place_go s c hs d k (i + 1) (by omega) (by omega)]
      congr 2
      omega
theorem place_eq (k : Nat) (s : ByteArray) (c : UInt8) (i : Nat) (hs : s.size ≤ 1000000000) (hi : i ≤ s.size) (hk : s.size + 1 ≤ k) : tinderref07_Place.f k s (i : Int) (c.toNat : Int) = some ((i + nextB c (s.data.toList.drop i) : Nat) : Int) :=
  place_go s c hs (s.size - i) k i (by omega) (by omega)
theorem head_next (c : UInt8) (s : ByteArray) : headC c s = s.extract 0 (nextB c s.data.toList) ∧ (0 ≤ ixC c s ↔ nextB c s.data.toList < s.size) ∧ tailC c s = if nextB c s.data.toList < s.size then s.extract (nextB c s.data.toList + 1) s.size else ⟨#[]⟩ := by
  have hle := nextB_le c s.data.toList
  have e := index_next c s.data.toList
  rw [bytes_len] at hle e
  unfold headC tailC ixC
  rw [e]
  by_cases h : nextB c s.data.toList < s.size
  · rw [if_pos h, if_pos (by omega), if_pos (by omega), if_pos h]
    exact ⟨rfl, ⟨fun _ => h, fun _ => by omega⟩, rfl⟩
  · rw [if_neg h, if_neg (by decide), if_neg (by decide), if_neg h]
    refine ⟨?_, ⟨fun h2 => absurd h2 (by decide), fun h2 => absurd h2 h⟩, rfl⟩
    rw [show nextB c s.data.toList = s.size by omega]
    simp
theorem refstep_eq (k : Nat) (s : ByteArray) (hs : s.size ≤ 1000000) (hk : s.size + 500 ≤ k) : ∃ nm U ar, tinderref07_step.f k s = some (nm, U, ar, (stepF s).2) ∧ ((stepF s).2 = true → nm = (stepF s).1.f0 ∧ U = (stepF s).1.f1 ∧ ar = (stepF s).1.f2) := by
  obtain ⟨k, rfl⟩ : ∃ m, k = m + 1 := ⟨k - 1, by omega⟩
  obtain ⟨h1, h2, h3⟩ := head_next 58 s
  have hl1 := nextB_le 58 s.data.toList
  rw [bytes_len] at hl1
  have e1 : tinderref07_Place.f (k + 1) s 0 58 = some ((nextB 58 s.data.toList : Nat) : Int) := by
    have := place_eq (k + 1) s 58 0 (by omega) (by omega) (by omega)
    rw [Nat.zero_add, List.drop_zero] at this
    exact this
  obtain ⟨n, hn⟩ : ∃ n, n = nextB 58 s.data.toList := ⟨_, rfl⟩
  rw [← hn] at h1 h2 h3 hl1 e1
  obtain ⟨s1, hs1⟩ : ∃ s1, s1 = s.extract 0 n := ⟨_, rfl⟩
  rw [← hs1] at h1
  have hsz : s1.size = n := by rw [hs1, ByteArray.size_extract]; omega
  obtain ⟨g1, g2, g3⟩ := head_next 64 s1
  have hl2 := nextB_le 64 s1.data.toList
  rw [bytes_len] at hl2
  have e2 : tinderref07_Place.f k s1 0 64 = some ((nextB 64 s1.data.toList : Nat) : Int) := by
    have := place_eq k s1 64 0 (by omega) (by omega) (by omega)
    rw [Nat.zero_add, List.drop_zero] at this
    exact this
  obtain ⟨m, hm⟩ : ∃ m, m = nextB 64 s1.data.toList := ⟨_, rfl⟩
  rw [← hm] at g1 g2 g3 hl2 e2
  have key : ∀ ar : ByteArray, ar = tailC 58 s → ∃ nm U ar', tinderref07_step.j0 (k + 1) s (n : Int) ⟨#[]⟩ ar = some (nm, U, ar', (stepF s).2) ∧ ((stepF s).2 = true → nm = (stepF s).1.f0 ∧ U = (stepF s).1.f1 ∧ ar' = (stepF s).1.f2) := by
    intro ar har
    rw [tinderref07_step.j0]
    rw [if_pos (by omega), if_pos (by omega), Int.toNat_natCast, ← hs1, e2, Option.bind_some]
    unfold stepF
    rw [h1]
    by_cases hu : m < s1.size
    · have w1 : wrap64 ((m : Int) + 1) = ((m + 1 : Nat) : Int) := by unfold wrap64; omega
      rw [if_pos (by omega), w1, if_pos (by omega), if_pos (by omega), Int.toNat_natCast, Int.toNat_natCast]
      have ht : tailC 64 s1 = s1.extract (m + 1) s1.size := by rw [g3, if_pos hu]
      rw [← ht, ← g1]
      have hts := tailC_size 64 s1
      have eu : tinderref05_ParseUnit.f (tailC 64 s1) = some (unitF (tailC 64 s1)) := by unfold tinderref05_ParseUnit.f; rw [if_pos (by omega)]
      rw [eu, Option.bind_some, if_pos (g2.2 (by omega)), refnamed_eq k (by omega)]
      by_cases hz : (unitF (tailC 64 s1)).2 = 0
      · rw [if_pos hz, if_pos hz, if_pos (by omega), if_pos (by omega), Option.bind_some]
        by_cases hnm : namedF (headC 64 s1) = true
        · rw [if_pos hnm, hnm]
          exact ⟨_, _, _, rfl, fun _ => ⟨rfl, rfl, har⟩⟩
        · rw [if_neg hnm, Bool.eq_false_iff.2 hnm]
          exact ⟨_, _, _, rfl, fun h => by cases h⟩
      · rw [if_neg hz, if_neg hz]
        by_cases hnm : namedF (headC 64 s1) = true
        · rw [if_pos hnm]
          exact ⟨_, _, _, rfl, fun h => by cases h⟩
        · rw [if_neg hnm]
          exact ⟨_, _, _, rfl, fun h => by cases h⟩
    · rw [if_neg (by omega), if_pos (by omega), if_pos (by omega), Int.toNat_natCast, ← g1, if_neg (show ¬ 0 ≤ ixC 64 s1 from fun h => hu (by have := g2.1 h; omega)), refnamed_eq k (by omega), Option.bind_some]
      by_cases hnm : namedF (headC 64 s1) = true
      · rw [if_pos hnm, hnm]
        exact ⟨_, _, _, rfl, fun _ => ⟨rfl, rfl, har⟩⟩
      · rw [if_neg hnm, Bool.eq_false_iff.2 hnm]
        exact ⟨_, _, _, rfl, fun h => by cases h⟩
  unfold tinderref07_step.f
  rw [e1, Option.bind_some]
  by_cases hc : n < s.size
  · have w1 : wrap64 ((n : Int) + 1) = ((n + 1 : Nat) : Int) := by unfold wrap64; omega
    rw [if_pos (by omega), w1, if_pos (by omega), if_pos (by omega), Int.toNat_natCast]
    exact key _ (by rw [h3, if_pos hc])
  · rw [if_neg (by omega)]
    exact key _ (by rw [h3, if_neg hc])
theorem refparse_go2 (s : ByteArray) (hs : s.size ≤ 256) : ∀ (n k i : Nat) (acc : List S49), s.size - i < n → n + 2000 ≤ k → i < s.size → acc.length ≤ i →
    tinderref07_Parse.l0 k s acc (i : Int) = some (if (cuts 47 (s.data.toList.drop (i + 1))).all okS = true then (acc ++ (cuts 47 (s.data.toList.drop (i + 1))).map stepV, 0) else ([], 15))
  | 0, _, _, _, h, _, _, _ => absurd h (by omega)
  | n + 1, k, i, acc, h, hk, hi, ha => by
    obtain ⟨k, rfl⟩ : ∃ m, k = m + 1 := ⟨k - 1, by omega⟩
    have w1 : wrap64 ((i : Int) + 1) = ((i + 1 : Nat) : Int) := by unfold wrap64; omega
    have e1 := place_eq k s 47 (i + 1) (by omega) (by omega) (by omega)
    have hle := nextB_le 47 (s.data.toList.drop (i + 1))
    rw [List.length_drop, bytes_len] at hle
    have hcut := cuts_next 47 (s.data.toList.drop (i + 1))
    rw [List.length_drop, bytes_len, List.drop_drop] at hcut
    obtain ⟨q, hq⟩ : ∃ q, q = nextB 47 (s.data.toList.drop (i + 1)) := ⟨_, rfl⟩
    rw [← hq] at e1 hle hcut
    obtain ⟨p, hp⟩ : ∃ p, p = (s.data.toList.drop (i + 1)).take q := ⟨_, rfl⟩
    have hpb : s.extract (i + 1) (i + 1 + q) = bOf p := by
      rw [extract_bOf, hp, show i + 1 + q - (i + 1) = q by omega]
    have hps : (bOf p).size ≤ 256 := by rw [bOf_size, hp, List.length_take, List.length_drop, bytes_len]; omega
    obtain ⟨nm, U, ar, e2, e3⟩ := refstep_eq k (bOf p) (by omega) (by omega)
    have hlast : ¬ q < s.size - (i + 1) → s.data.toList.drop (i + 1) = p := fun hh => by
      rw [hp, List.take_of_length_le (by rw [List.length_drop, bytes_len]; omega)]
    rw [← hp] at hcut
    have hcut2 : cuts 47 (s.data.toList.drop (i + 1)) = if q < s.size - (i + 1) then p :: cuts 47 (s.data.toList.drop (i + 1 + q + 1)) else [p] := by
      rw [hcut]
      by_cases hh : q < s.size - (i + 1)
      · rw [if_pos hh, if_pos hh, show i + 1 + (q + 1) = i + 1 + q + 1 by omega]
      · rw [if_neg hh, if_neg hh, hlast hh]
    unfold tinderref07_Parse.l0
    rw [if_pos (by omega), w1, show (47 : Int) = (((47 : UInt8).toNat : Nat) : Int) from rfl, e1, Option.bind_some, if_pos (by omega), if_pos (by omega), if_pos (by omega), Int.toNat_natCast, Int.toNat_natCast, hpb, e2, Option.bind_some]
    dsimp only
    have hokp : okS p = (stepF (bOf p)).2 := rfl
    have hvp : stepV p = (stepF (bOf p)).1 := rfl
    by_cases hok : (stepF (bOf p)).2 = true
    · obtain ⟨f0, f1, f2⟩ := e3 hok
      have hx : (⟨nm, U, ar⟩ : S49) = stepV p := by rw [hvp, f0, f1, f2]
      rw [if_pos hok, if_pos (by omega), hx, hcut2]
      by_cases hh : q < s.size - (i + 1)
      · rw [if_pos hh, refparse_go2 s hs n k (i + 1 + q) (acc ++ [stepV p]) (by omega) (by omega) (by omega) (by rw [List.length_append, List.length_singleton]; omega)]
        rw [List.all_cons, hokp, hok, Bool.true_and, List.map_cons]
        congr 1
        by_cases hall : (cuts 47 (s.data.toList.drop (i + 1 + q + 1))).all okS = true
        · rw [if_pos hall, if_pos hall, List.append_assoc]; rfl
        · rw [if_neg hall, if_neg hall]
      · rw [if_neg hh]
        obtain ⟨k, rfl⟩ : ∃ m, k = m + 1 := ⟨k - 1, by omega⟩
        unfold tinderref07_Parse.l0
        rw [if_neg (by omega), List.all_cons, hokp, hok, Bool.true_and, List.all_nil, if_pos rfl, List.map_cons, List.map_nil]
    · rw [if_neg hok, hcut2]
      have hf := Bool.eq_false_iff.2 hok
      by_cases hh : q < s.size - (i + 1)
      · rw [if_pos hh, List.all_cons, hokp, hf, Bool.false_and, if_neg (by decide)]
      · rw [if_neg hh, List.all_cons, hokp, hf, Bool.false_and, if_neg (by decide)]
theorem refParse_eq (k : Nat) (s : ByteArray) (hk : 3000 ≤ k) : tinderref07_Parse.f k s = some (parseF s) := by
  obtain ⟨k, rfl⟩ : ∃ m, k = m + 1 := ⟨k - 1, by omega⟩
  have hsz : s.data.toList.length = s.size := bytes_len s
  unfold tinderref07_Parse.f parseF
  by_cases hs : 256 < s.size
  · rw [if_pos (by omega), if_pos hs]
  · rw [if_neg (by omega), if_neg hs, ByteArray.toList_eq]
    cases hd : s.data.toList with
    | nil =>
      rw [if_neg (by decide), if_pos rfl, tinderref07_Parse.j0, if_pos rfl]
    | cons a r =>
      rw [hd, List.length_cons] at hsz
      dsimp only
      have hb := byte_btc s 47 0 (by omega)
      rw [hd, List.getElem?_cons_zero, Option.some.injEq] at hb
      have hb0 : bt s 0 = bt s ((0 : Nat) : Int) := rfl
      by_cases ha : a = 47
      · have hb47 : bt s 0 = 47 := hb.1 ha
        by_cases hr : r = []
        · rw [if_pos (by rw [ha, hr]), if_pos ha, if_pos hr]
        · have hl : 0 < r.length := by
            cases r with
            | nil => exact absurd rfl hr
            | cons b r => simp
          have hgo := refparse_go2 s (by omega) (s.size + 1) k 0 [] (by omega) (by omega) (by omega) (by simp)
          rw [hd] at hgo
          rw [if_neg (fun h => hr (List.cons.inj h).2), if_neg (by simp), if_pos (by omega), hb47, tinderref07_Parse.j0, if_neg (by decide), if_pos ha, if_neg hr]
          exact hgo
      · rw [if_neg (fun h => ha (List.cons.inj h).1), if_neg (by simp), if_pos (by omega), tinderref07_Parse.j0, if_pos (by
          rw [bne_iff_ne]
          exact fun h => ha (hb.2 h)), if_neg ha]
end Go.Proofs.YtnalcjgefbelnaaDoor.Q
end
section
namespace Go.Proofs.YtnalcjgefbelnaaDoor.Q
open Go.RowKit Go.Proofs.YtnalcjgefbelnaaDoorW.PrintWords Go.Proofs.YtnalcjgefbelnaaDoorW.PrintLast Go.Proofs.YtnalcjgefbelnaaDoorW.PrintMore
set_option linter.unusedVariables false
set_option linter.unusedSimpArgs false

attribute [local go_sem] max2_int min2_int max_two min_two max_three min_three max_four min_four
/-! ### tinderref07_Show: function 60 -/
mutual
def tinderref07_Show.l0 : Nat → List (S49) → Int → Option (ByteArray × Int)
  | 0, _, _ => none
  | k + 1, x0, x5 => if x5 < (x0.length : Int) then (if 0 ≤ x5 then ((tinderref05_Named.f k ((rd_T49 x0 x5).f0)).bind fun t61003 => (if t61003 = true then (if (((rd_T49 x0 x5).f1).length : Int) > 4 then (some ((⟨#[]⟩ : ByteArray), 1)) else ((tinderref07_Place.f k ((rd_T49 x0 x5).f2) 0 47).bind fun t61004 => (if t61004 < (((rd_T49 x0 x5).f2).size : Int) then (some ((⟨#[]⟩ : ByteArray), 1)) else (tinderref07_Show.l0 k x0 (wrap64 (x5 + 1)))))) else (some ((⟨#[]⟩ : ByteArray), 1)))) else (none)) else (tinderref07_Show.l1 k x0 ([] : List Int) 0)
def tinderref07_Show.l1 : Nat → List (S49) → List Int → Int → Option (ByteArray × Int)
  | 0, _, _, _ => none
  | k + 1, x0, x4, x7 => if x7 < (x0.length : Int) then (if 0 ≤ x7 then (if x4.length < 140737488355328 then ((some (x4 ++ [47] : List Int)).bind fun y61007 => (if y61007.length + ((rd_T49 x0 x7).f0).size < 140737488355328 then ((some (y61007 ++ bytesOf ((rd_T49 x0 x7).f0) : List Int)).bind fun y61010 => (if (((rd_T49 x0 x7).f1).length : Int) > 0 then (if y61010.length < 140737488355328 then ((some (y61010 ++ [64] : List Int)).bind fun y61013 => ((tinderref05_ShowUnit.f k ((rd_T49 x0 x7).f1)).bind fun t61016 => (if y61013.length + t61016.size < 140737488355328 then ((some (y61013 ++ bytesOf t61016 : List Int)).bind fun y61017 => (if ((rd_T49 x0 x7).f2).toList = ([] : List UInt8) then (tinderref07_Show.l1 k x0 y61017 (wrap64 (x7 + 1))) else (if y61017.length < 140737488355328 then ((some (y61017 ++ [58] : List Int)).bind fun y61020 => (if y61020.length + ((rd_T49 x0 x7).f2).size < 140737488355328 then (tinderref07_Show.l1 k x0 (y61020 ++ bytesOf ((rd_T49 x0 x7).f2)) (wrap64 (x7 + 1))) else (none))) else (none)))) else (none)))) else (none)) else (if ((rd_T49 x0 x7).f2).toList = ([] : List UInt8) then (tinderref07_Show.l1 k x0 y61010 (wrap64 (x7 + 1))) else (if y61010.length < 140737488355328 then ((some (y61010 ++ [58] : List Int)).bind fun y61026 => (if y61026.length + ((rd_T49 x0 x7).f2).size < 140737488355328 then (tinderref07_Show.l1 k x0 (y61026 ++ bytesOf ((rd_T49 x0 x7).f2)) (wrap64 (x7 + 1))) else (none))) else (none))))) else (none))) else (none)) else (none)) else (if (x0.length : Int) = 0 then (some ((⟨#[47]⟩ : ByteArray), 0)) else (if (x4.length : Int) > 256 then (some ((⟨#[]⟩ : ByteArray), 3)) else (some (strOfNums x4, 0))))
end
def tinderref07_Show.f (k : Nat) (l0 : List (S49)) : Option (ByteArray × Int) := tinderref07_Show.l0 k l0 0

end Go.Proofs.YtnalcjgefbelnaaDoor.Q
end
section
set_option linter.unusedSimpArgs false
set_option linter.unusedVariables false
namespace Go.Proofs.YtnalcjgefbelnaaDoor.Q
open Go.RowKit Go.Proofs.YtnalcjgefbelnaaDoorW.PrintWords Go.Proofs.YtnalcjgefbelnaaDoorW.PrintLast
def numsB (l : List UInt8) : List Int := l.map fun b => (b.toNat : Int)
/-- How much steps weigh. -/
def wt81 (x : S49) : Nat := x.f0.size + ((x.f1.map fun _ => 0 + 1).sum + x.f2.size)
def wtL (l : List S49) : Nat := (l.map fun x => wt81 x + 1).sum
theorem sum_ones (l : List Int) : (l.map fun _ => 0 + 1).sum = l.length := by
  induction l with
  | nil => rfl
  | cons a l ih => rw [List.map_cons, List.sum_cons, ih, List.length_cons]; omega
theorem stepB_len (x : S49) (hu : U32L x.f1) : (stepB x).length ≤ 40 * (wt81 x + 1) := by
  have h1 := units_len x.f1 hu x.f1.length (Nat.le_refl _)
  rw [List.take_length] at h1
  have h2 : wt81 x = x.f0.size + (x.f1.length + x.f2.size) := by unfold wt81; rw [sum_ones]
  unfold stepB
  rw [h2, List.length_append, List.length_append, List.length_cons, data_length]
  have a1 : (if 0 < x.f1.length then 64 :: unitsL x.f1 else []).length ≤ 1 + 33 * x.f1.length := by
    split
    · rw [List.length_cons]; omega
    · simp
  have a2 : (if x.f2.size = 0 then [] else 58 :: x.f2.data.toList).length ≤ 1 + x.f2.size := by
    split
    · simp
    · rw [List.length_cons, data_length]; omega
  omega
theorem pathL_len (l : List S49) (hu : ∀ x ∈ l, U32L x.f1) : (pathL l).length ≤ 40 * wtL l := by
  induction l with
  | nil => simp [pathL]
  | cons a l ih =>
    have h1 := stepB_len a (hu a (by simp))
    have h2 := ih (fun x hx => hu x (by simp [hx]))
    unfold pathL at h2 ⊢
    unfold wtL at h2 ⊢
    rw [List.map_cons, List.flatten_cons, List.length_append, List.map_cons, List.sum_cons]
    omega
end Go.Proofs.YtnalcjgefbelnaaDoor.Q
end
section
set_option linter.unusedSimpArgs false
set_option linter.unusedVariables false
namespace Go.Proofs.YtnalcjgefbelnaaDoor.Q
open Go.RowKit Go.Proofs.YtnalcjgefbelnaaDoorW.PrintWords Go.Proofs.YtnalcjgefbelnaaDoorW.PrintLast
def PropG (p : S53) : Prop := p.f0.size ≤ 140737488351232 ∧ (p.f1.length * 1 ≤ 140737488351232 ∧ ∀ b ∈ p.f1, (Lit.int .u8 b).wf = true)
def NodeG (a : S44) : Prop := a.f0.size ≤ 140737488351232 ∧ (a.f1.length * 4 ≤ 140737488351232 ∧ ∀ b ∈ a.f1, (Lit.int .u32 b).wf = true) ∧ (Lit.int .i64 a.f2).wf = true ∧ (a.f3.length * 40 ≤ 140737488351232 ∧ ∀ b ∈ a.f3, PropG b) ∧ (a.f4.length * 4 ≤ 140737488351232 ∧ ∀ b ∈ a.f4, (Lit.int .u32 b).wf = true)
def TreeG (z : List S44) : Prop := z.length * 96 ≤ 140737488351232 ∧ ∀ a ∈ z, NodeG a
def CaseG (z : S30) : Prop := TreeG z.f0 ∧ (Lit.int .i64 z.f1).wf = true ∧ z.f2.size ≤ 140737488351232 ∧ (z.f3.length * 1 ≤ 140737488351232 ∧ ∀ b ∈ z.f3, (Lit.int .u8 b).wf = true)
def UnitG (l : List Int) : Prop := l.length * 4 ≤ 140737488351232 ∧ ∀ b ∈ l, (Lit.int .u32 b).wf = true
theorem good_of {z : List S44} (h : TreeG z) : GoodT z := by
  refine ⟨by have := h.1; omega, fun x hx => ?_⟩
  obtain ⟨-, h1, -, h3, h4⟩ := h.2 x hx
  refine ⟨by have := h1.1; omega, by have := h4.1; omega, by have := h3.1; omega, fun p hp => ?_⟩
  have := (h3.2 p hp).2.1
  omega
end Go.Proofs.YtnalcjgefbelnaaDoor.Q
end
section
set_option linter.unusedSimpArgs false
set_option linter.unusedVariables false
namespace Go.Proofs.YtnalcjgefbelnaaDoor.Q
open Go.RowKit Go.Proofs.YtnalcjgefbelnaaDoorW.PrintWords Go.Proofs.YtnalcjgefbelnaaDoorW.PrintLast Go.Proofs.YtnalcjgefbelnaaDoorW.PrintMore
attribute [local go_sem] max2_int min2_int max_two min_two max_three min_three max_four min_four
/-- Is a device a child of that parent to which the step leads? -/
def isF (p : Int) (s : ByteArray) (u : List Int) (x : S44) : Bool := (x.f2 == p) && ((x.f0.toList == s.toList) && (((u.length : Int) == 0) || decide (x.f1 = u)))
set_option maxHeartbeats 2000000 in
theorem findC_calls (x : S44) (A1 : Option Addr) (c1 : Nat) (A3 : Option Addr) (c3 : Nat) (A4 : Option Addr) (c4 : Nat) (p : Int) (s s2 : ByteArray) (u : List Int) (AU : Option Addr) (cu : Nat) (g1 g2 : Nat) (w : World) (h1 : w.heap[g1]? = some (.cells #[.int .i64 p] 3 (0, 0))) (h2 : w.heap[g2]? = some (.cells #[.string s, .slice AU u.length cu, .string s2] 49 (0, 0)))
    (hx : Kd.C (Kd.int .u32) w A1 x.f1.length x.f1) (hxc : x.f1.length ≤ c1) (hu : Kd.C (Kd.int .u32) w AU u.length u) (huc : u.length ≤ cu) :
    Calls Tryd.prog 56 #[.agg #[.string x.f0, .slice A1 x.f1.length c1, .int .i64 x.f2, .slice A3 x.f3.length c3, .slice A4 x.f4.length c4], .pointer (some ⟨g1, 0, none⟩), .pointer (some ⟨g2, 0, none⟩)] w fun e w' => e = .returned (.bool (isF p s u x)) ∧ Below w.heap.size w w' := by
  have hu44 := Tryd.underlying44
  have hu49 := Tryd.underlying49
  have hm := Kd.C_max hx
  have hEq := fun (W : World) (hb : Below w.heap.size w W) => slices_Equal_uint32_uint32.calls 9223372036854775808 A1 c1 x.f1 AU cu u (decide (x.f1 = u)) W (Kd.C_below hx hb) hxc (Kd.C_below hu hb) huc (equal_eq x.f1 u (by omega) _ (by omega))
  have HEQ := Aside0.mk hEq
  have HL := Aside0.mk (⟨blk_lt h1, blk_lt h2⟩ : g1 < w.heap.size ∧ g2 < w.heap.size)
  have H1 := Aside0.mk h1
  have H2 := Aside0.mk h2
  have HI := Aside0.mk (show isF p s u x = ((x.f2 == p) && ((x.f0.toList == s.toList) && (((u.length : Int) == 0) || decide (x.f1 = u)))) from rfl)
  clear h1 h2 hx hxc hu huc hm hEq
  cases b1 : (x.f2 == p) <;> cases b2 : (x.f0.toList == s.toList) <;> cases b3 : ((u.length : Int) == 0)
  all_goals (
    rw [b1, b2, b3] at HI
    go_enter Tryd.func56, Tryd.ntmps56
    go_wp2_with (first
      | ((with_reducible refine gate_dst (N := 3) rfl ?_); refine box_event ?hg (N := 3) ?hd (cs := #[.string x.f0, .slice A1 x.f1.length c1, .int .i64 x.f2, .slice A3 x.f3.length c3, .slice A4 x.f4.length c4]) (t := 44) ?hr ?_; (case hd => rfl); (case hg => rfl); (case hr => first | (go_simp; done) | (go_simp; rfl)); intro ga hga w1 hbox hb; have BK := Aside0.mk hbox; have hz0 := (blk_cell BK.out 0).trans rfl; have hz1 := (blk_cell BK.out 1).trans rfl; have hz2 := (blk_cell BK.out 2).trans rfl; have hf0 := blk_frozen BK.out 0; have hf1 := blk_frozen BK.out 1; have hf2 := blk_frozen BK.out 2; have hy1 : w1.cell? ⟨g1, 0, none⟩ = some (.int .i64 p) := (hb.cell (p := ⟨g1, 0, none⟩) HL.out.1).trans ((blk_cell H1.out 0).trans rfl); have hy2 : w1.cell? ⟨g2, 0, none⟩ = some (.string s) := (hb.cell (p := ⟨g2, 0, none⟩) HL.out.2).trans ((blk_cell H2.out 0).trans rfl); have hy3 : w1.cell? ⟨g2, 1, none⟩ = some (.slice AU u.length cu) := (hb.cell (p := ⟨g2, 1, none⟩) HL.out.2).trans ((blk_cell H2.out 1).trans rfl); have HB := Aside0.mk hb; clear hbox hb hga)
      | (go_at_call 57; (with_reducible refine (HEQ.out _ HB.out).mono ?_); rintro e w2 ⟨rfl, hd⟩; obtain ⟨n, rfl⟩ := hd.out; clear hd))
    go_ret
    exact ⟨by rw [HI.out]; rfl, by first | exact HB.out | exact pw_below_drewN HB.out _⟩)
set_option maxHeartbeats 2000000 in
set_option maxRecDepth 100000 in
theorem indexFind_calls (p : Int) (s s2 : ByteArray) (u : List Int) (AU : Option Addr) (cu : Nat) (g1 g2 : Nat) (A : Option Addr) (c : Nat) (l : List S44) (w : World) (hC : Kd.C k44 w A l.length l) (h1 : w.heap[g1]? = some (.cells #[.int .i64 p] 3 (0, 0))) (h2 : w.heap[g2]? = some (.cells #[.string s, .slice AU u.length cu, .string s2] 49 (0, 0))) (hu : Kd.C (Kd.int .u32) w AU u.length u) (huc : u.length ≤ cu) :
    Calls Tryd.prog 55 #[.slice A l.length c, .func (.func 56) #[] #[.pointer (some ⟨g1, 0, none⟩), .pointer (some ⟨g2, 0, none⟩)]] w fun e w' => e = .returned (.int .i64 (idxP (isF p s u) l)) ∧ Below w.heap.size w w' := by
  have hu44 := Tryd.underlying44
  have t1 := blk_lt h1
  have t2 := blk_lt h2
  have HC := Aside0.mk hC
  have HF := Aside0.mk (fun (x : S44) (A1 : Option Addr) (c1 : Nat) (A3 : Option Addr) (c3 : Nat) (A4 : Option Addr) (c4 : Nat) (W : World) (hb : Below w.heap.size w W) (hx : Kd.C (Kd.int .u32) W A1 x.f1.length x.f1) (hxc : x.f1.length ≤ c1) => findC_calls x A1 c1 A3 c3 A4 c4 p s s2 u AU cu g1 g2 W (by rw [hb.block g1 t1]; exact h1) (by rw [hb.block g2 t2]; exact h2) hx hxc (Kd.C_below hu hb) huc)
  clear hC h1 h2 hu huc
  go_enter Tryd.func55, Tryd.ntmps55
  go_wp2
  go_loopg [8] l.length (fun kq v8 w' => ∃ i : Int, v8 = .int .i64 i ∧ Aside0 (0 ≤ i ∧ i + kq = l.length) ∧ Aside0 (∀ j : Nat, j < i.toNat → (isF p s u) (l.getD j z44) = false) ∧ Aside0 (Below w.heap.size w w'))
  case atStart => exact ⟨0, rfl, ⟨by omega, by omega⟩, ⟨fun j hj => absurd hj (by simp)⟩, ⟨Below.refl _ _⟩⟩
  case round =>
    obtain ⟨i, rfl, HI, HZ, HB⟩ := hrel
    cases gk with
    | zero =>
      have hlt : decide (i < (l.length : Int)) = false := decide_eq_false (by have := HI.out; omega)
      go_wp2
      go_ret
      have hz := HZ.out
      have hi := HI.out
      refine ⟨?_, HB.out⟩
      rw [idxP_drop (isF p s u) z44 l i.toNat hz, List.drop_eq_nil_of_le (by omega)]
      rfl
    | succ k1 =>
      have hi := HI.out
      have hm := Kd.C_max HC.out
      have hlt : decide (i < (l.length : Int)) = true := decide_eq_true (by omega)
      have p1 : (0 ≤ i) = True := eq_true (by omega)
      have p2 : (i < (l.length : Int)) = True := eq_true (by omega)
      obtain ⟨ad, A1, c1, A3, c3, A4, c4, eA, hx0, hx1, hx2, hx3, hx4, hl1, hg1, hl3, hg3, hl4, hg4⟩ := at_T44 (Kd.C_below HC.out HB.out) i (by omega) (by omega)
      cases eA
      have HGD := Aside0.mk (show rd_T44 l i = l.getD i.toNat z44 from rfl)
      have HIN := Aside0.mk (show (isF p s u) (rd_T44 l i) = true → idxP (isF p s u) l = i from fun h => by
        rw [idxP_here (isF p s u) z44 l i.toNat HZ.out (by omega) h]
        omega)
      have hwr : IntKind.i64.wrap (i + 1) = i + 1 := (i64_w _).trans (by unfold wrap64; omega)
      have hwr2 : wrap64 (i + 1) = i + 1 := by unfold wrap64; omega
      have HG1 := Aside0.mk hg1; have HL1 := Aside0.mk hl1; clear hl1 hg1 hl3 hg3 hl4 hg4
      clear hi hm
      obtain ⟨b, hb0⟩ : ∃ b, b = (isF p s u) (rd_T44 l i) := ⟨_, rfl⟩
      have HBP := Aside0.mk hb0
      cases b with
      | true =>
        clear hb0
        go_wp2_with (first
          | (go_at_call 56; (with_reducible refine (HF.out (rd_T44 l i) A1 c1 A3 c3 A4 c4 _ HB.out HG1.out HL1.out).mono ?_); rintro e w2 ⟨rfl, hb⟩; rw [← HBP.out]; have HB2 := Aside0.mk (below_step HB.out hb); clear hb))
        go_ret
        exact ⟨by rw [HIN.out HBP.out.symm]; rfl, HB2.out⟩
      | false =>
        clear hb0
        go_wp2_with (first
          | (go_at_call 56; (with_reducible refine (HF.out (rd_T44 l i) A1 c1 A3 c3 A4 c4 _ HB.out HG1.out HL1.out).mono ?_); rintro e w2 ⟨rfl, hb⟩; rw [← HBP.out]; have HB2 := Aside0.mk (below_step HB.out hb); clear hb))
        go_roundg k1
        case measure => omega
        case rel =>
          have hi := HI.out
          refine ⟨i + 1, rfl, ⟨by omega, by omega⟩, ⟨fun j hj => ?_⟩, HB2⟩
          by_cases hji : j = i.toNat
          · subst hji
            rw [← HGD.out]
            exact HBP.out.symm
          · exact HZ.out j (by omega)
/-- Where steps lead from a device. -/
def findF (t : List S44) : List S49 → Int → Int × Int
  | [], p => (p, 0)
  | s :: r, p => if idxP (isF p s.f0 s.f1) t < 0 then (0, 19) else findF t r (idxP (isF p s.f0 s.f1) t)
def tree_Find.f (l0 : List S44) (l1 : List S49) : Option (Int × Int) := if treeF l0 = true then some (findF l0 l1 0) else some (0, 1)
theorem find_drop (t : List S44) (l : List S49) (i : Nat) (h : i < l.length) (p : Int) : findF t (l.drop i) p = if idxP (isF p (l.getD i z49).f0 (l.getD i z49).f1) t < 0 then (0, 19) else findF t (l.drop (i + 1)) (idxP (isF p (l.getD i z49).f0 (l.getD i z49).f1) t) := by
  have e : l.getD i z49 = l[i] := by rw [List.getD_eq_getElem?_getD, List.getElem?_eq_getElem h]; rfl
  rw [e, List.drop_eq_getElem_cons h, findF]
theorem cell1 {W : World} {g t : Nat} {u v : Value} (hh : W.heap[g]? = some (.cells #[u] t (0, 0))) : (W.setCell ⟨g, 0, none⟩ v).heap[g]? = some (.cells #[v] t (0, 0)) ∧ W.grownBy (W.setCell ⟨g, 0, none⟩ v) (some g) := by
  obtain ⟨cur', h1, h2, h3, h4⟩ := put_row (o := 0) hh v (show 0 < 1 from Nat.zero_lt_one)
  have : cur' = #[v] := by
    apply Array.toList_inj.1
    rw [h3]
    rfl
  rw [this] at h1
  exact ⟨h1, h4⟩
set_option maxHeartbeats 8000000 in
set_option maxRecDepth 100000 in
theorem tree_Find.calls (A0 : Option Addr) (c0 : Nat) (l0 : List S44) (A1 : Option Addr) (c1 : Nat) (l1 : List S49) (r1 r2 : Int) (w : World) (hr0 : Kd.C k44 w A0 l0.length l0) (hc0 : l0.length ≤ c0) (hr1 : Kd.C k49 w A1 l1.length l1) (hc1 : l1.length ≤ c1) (h : tree_Find.f l0 l1 = some (r1, r2)) :
    Calls Tryd.prog 21 #[.slice A0 l0.length c0, .slice A1 l1.length c1] w fun e w' => e = .returned (.tuple #[.int .i64 r1, .int .i64 r2]) ∧ Below w.heap.size w w' := by
  have hu44 := Tryd.underlying44
  have hu49 := Tryd.underlying49
  have hm := Kd.C_max hr1
  unfold tree_Find.f at h
  have HF := Aside0.mk (treeFormed_calls A0 c0 l0 w hr0 hc0)
  have HC0 := Aside0.mk hr0
  have HC1 := Aside0.mk hr1
  cases hb : treeF l0
  · rw [if_neg (by rw [hb]; decide)] at h
    simp only [Option.some.injEq, Prod.mk.injEq] at h
    obtain ⟨rfl, rfl⟩ := h
    rw [hb] at HF
    clear hr0 hc0 hr1 hc1 hb hm
    go_enter Tryd.func21, Tryd.ntmps21
    go_wp2_with (go_at_call 12; refine HF.out.mono ?_; rintro e w1 ⟨rfl, hb⟩; have HB := Aside0.mk hb; clear hb)
    go_ret2
    exact ⟨rfl, HB.out⟩
  · rw [if_pos hb] at h
    have HR := Aside0.mk (Option.some.inj h)
    rw [hb] at HF
    have HM := Aside0.mk hm
    clear hr0 hc0 hr1 hc1 hb h hm
    go_enter Tryd.func21, Tryd.ntmps21
    go_wp2_with (go_at_call 12; refine HF.out.mono ?_; rintro e w1 ⟨rfl, hb⟩; have HB := Aside0.mk hb; clear hb)
    obtain ⟨gA, hgA⟩ : ∃ gA, gA = w1.heap.size := ⟨_, rfl⟩
    have HGA := Aside0.mk (show w.heap.size ≤ gA by rw [hgA]; exact HB.out.size)
    have H0 := Aside0.mk (show (w1.alloc (.cells #[.int .i64 0] 3)).heap[gA]? = some (.cells #[.int .i64 0] 3 (0, 0)) by rw [hgA]; exact heap_alloc_new w1 _)
    rw [← hgA]
    clear hgA
    go_loopg [15] l1.length (fun kq v15 w' => ∃ (i : Nat) (p : Int), v15 = .int .i64 i ∧ Aside0 (i + kq = l1.length) ∧ Aside0 (findF l0 (l1.drop i) p = (r1, r2)) ∧ Aside0 (w'.heap[gA]? = some (.cells #[.int .i64 p] 3 (0, 0))) ∧ Aside0 (Below w.heap.size w w'))
    case atStart => exact ⟨0, 0, rfl, ⟨by omega⟩, HR, H0, ⟨below_alloc HB.out _⟩⟩
    case round =>
      obtain ⟨i, p, rfl, HI, HQ, HH, HB⟩ := hrel
      have hz := (blk_cell HH.out 0).trans rfl
      cases gk with
      | zero =>
        have hltN : decide (i < l1.length) = false := decide_eq_false (by have := HI.out; omega)
        have hq := HQ.out
        rw [List.drop_eq_nil_of_le (by have := HI.out; omega), findF] at hq
        obtain ⟨rfl, rfl⟩ : p = r1 ∧ (0 : Int) = r2 := by simpa using hq
        go_wp2
        go_ret2
        exact ⟨rfl, HB.out⟩
      | succ k1 =>
        have hi := HI.out
        have hil : i < l1.length := by omega
        have hltN : decide (i < l1.length) = true := decide_eq_true hil
        have p1 : (0 ≤ (i : Int)) = True := eq_true (by omega)
        have p2 : ((i : Int) < (l1.length : Int)) = True := eq_true (by omega)
        have p3 : (i < l1.length) = True := eq_true hil
        obtain ⟨ad, B1, b1, eA, hx0, hx1, hx2, hl1, hg1⟩ := at_T49 (Kd.C_below HC1.out HB.out) (i : Int) (by omega) (by omega)
        cases eA
        rw [Int.toNat_natCast] at hx0 hx1 hx2
        have hq := HQ.out
        rw [find_drop l0 l1 i hil p] at hq
        have HE := Aside0.mk (show rd_T49 l1 (i : Int) = l1.getD i z49 from rfl)
        rw [← HE.out] at hq
        generalize rd_T49 l1 (i : Int) = s at *
        have HIX := Aside0.mk (indexFind_calls p s.f0 s.f2 s.f1 B1 b1 gA wr.heap.size A0 c0 l0 (wr.alloc (.cells #[.string s.f0, .slice B1 s.f1.length b1, .string s.f2] 49)) (Kd.C_alloc (Kd.C_below HC0.out HB.out) _) (((below_alloc (Below.refl wr.heap.size wr) _).block gA (blk_lt HH.out)).trans HH.out) (heap_alloc_new wr _) (Kd.C_alloc hg1 _) hl1)
        have hwr : wrap64 ((i : Int) + 1) = ((i + 1 : Nat) : Int) := by unfold wrap64; have := HM.out; omega
        have HGL := Aside0.mk (blk_lt HH.out)
        have HWR := Aside0.mk hwr
        clear hwr
        have HQ2 := Aside0.mk hq
        clear hi hil hg1 hl1 hq
        by_cases hk : idxP (isF p s.f0 s.f1) l0 < 0
        · have dk : decide (idxP (isF p s.f0 s.f1) l0 < 0) = true := decide_eq_true hk
          have hq := HQ2.out
          rw [if_pos hk] at hq
          obtain ⟨rfl, rfl⟩ : (0 : Int) = r1 ∧ (19 : Int) = r2 := by simpa using hq
          clear hk hq
          go_wp2_with (go_at_call 55; refine HIX.out.mono ?_; rintro e w2 ⟨rfl, hb⟩; have HB2 := Aside0.mk (below_step (below_alloc HB.out _) hb); clear hb)
          go_ret2
          exact ⟨rfl, HB2.out⟩
        · have dk : decide (idxP (isF p s.f0 s.f1) l0 < 0) = false := decide_eq_false hk
          have hq := HQ2.out
          rw [if_neg hk] at hq
          have HQ3 := Aside0.mk hq
          generalize idxP (isF p s.f0 s.f1) l0 = k at *
          clear hk hq hz
          go_wp2_with (go_at_call 55; refine HIX.out.mono ?_; rintro e w2 ⟨rfl, hb⟩; have HB2 := Aside0.mk (below_step (below_alloc HB.out _) hb); have HH2 := Aside0.mk ((hb.block gA (by rw [World.size_alloc]; have := HGL.out; omega)).trans (((below_alloc (Below.refl wr.heap.size wr) _).block gA HGL.out).trans HH.out)); have hz2 := (blk_cell HH2.out 0).trans rfl; have hf2 := blk_frozen HH2.out 0; clear hb)
          go_roundg k1
          case measure => omega
          case rel =>
            obtain ⟨h5, h6⟩ := cell1 (v := .int .i64 k) HH2.out
            exact ⟨i + 1, k, by rw [HWR.out], ⟨by have := HI.out; omega⟩, HQ3, ⟨h5⟩, ⟨HB2.out.grown h6 (show w.heap.size ≤ w2.heap.size from HB2.out.size) (fun k' hk' => by injection hk' with hk'; have := HGA.out; omega)⟩⟩
end Go.Proofs.YtnalcjgefbelnaaDoor.Q
end
section
set_option linter.unusedSimpArgs false
set_option linter.unusedVariables false
namespace Go.Proofs.YtnalcjgefbelnaaDoor.Q
open Go.RowKit Go.Proofs.YtnalcjgefbelnaaDoorW.PrintWords Go.Proofs.YtnalcjgefbelnaaDoorW.PrintLast
theorem upF_le (t : List S44) (k : Nat) (n : Int) (h : n ≤ 0) : upF t k n = [] := by
  cases k with
  | zero => rfl
  | succ k => rw [upF, if_neg (by omega)]
theorem upF_more {t : List S44} (hF : treeF t = true) : ∀ (m k : Nat) (n : Int), n.toNat ≤ m → m ≤ k → n < t.length → upF t k n = upF t m n
  | 0, k, n, h1, h2, h3 => by rw [upF_le t k n (by omega), upF_le t 0 n (by omega)]
  | m + 1, k, n, h1, h2, h3 => by
    obtain ⟨k, rfl⟩ : ∃ j, k = j + 1 := ⟨k - 1, by omega⟩
    rw [upF, upF]
    by_cases h0 : 0 < n
    · have hu := form_up hF n h0 h3
      rw [if_pos h0, if_pos h0, upF_more hF m k _ (by omega) (by omega) (by omega)]
    · rw [if_neg h0, if_neg h0]
theorem upF_step {t : List S44} (hF : treeF t = true) (n : Int) (h0 : 0 < n) (h3 : n < t.length) : upF t n.toNat n = (⟨(rd_T44 t n).f0, (rd_T44 t n).f1, ⟨#[]⟩⟩ : S49) :: upF t (rd_T44 t n).f2.toNat (rd_T44 t n).f2 := by
  have hu := form_up hF n h0 h3
  obtain ⟨k, hk⟩ : ∃ j, n.toNat = j + 1 := ⟨n.toNat - 1, by omega⟩
  rw [hk, upF, if_pos h0, upF_more hF (rd_T44 t n).f2.toNat k _ (by omega) (by omega) (by omega)]
theorem findF_snoc (t : List S44) (s : S49) : ∀ (l : List S49) (q p : Int), findF t l q = (p, 0) → findF t (l ++ [s]) q = if idxP (isF p s.f0 s.f1) t < 0 then (0, 19) else (idxP (isF p s.f0 s.f1) t, 0)
  | [], q, p, h => by
    rw [findF] at h
    obtain ⟨rfl, -⟩ := Prod.mk.inj h
    rw [List.nil_append, findF]
    split
    · rfl
    · rw [findF]
  | x :: r, q, p, h => by
    rw [List.cons_append, findF]
    rw [findF] at h
    split at h
    · exact absurd (Prod.mk.inj h).2 (by decide)
    · rename_i hn
      rw [if_neg hn]
      exact findF_snoc t s r _ p h
/-- Has a device no unit address and an elder brother of its name? -/
def elderF (t : List S44) (n : Int) : Bool := (((rd_T44 t n).f1.length : Int) == 0) && (t.take n.toNat).any fun x => (x.f2 == (rd_T44 t n).f2) && (x.f0.toList == (rd_T44 t n).f0.toList)
def noElder (t : List S44) : Nat → Int → Bool
  | 0, _ => true
  | k + 1, n => if 0 < n then !elderF t n && noElder t k (rd_T44 t n).f2 else true
theorem noElder_more {t : List S44} (hF : treeF t = true) : ∀ (m k : Nat) (n : Int), n.toNat ≤ m → m ≤ k → n < t.length → noElder t k n = noElder t m n
  | 0, k, n, h1, h2, h3 => by
    cases k with
    | zero => rfl
    | succ k => rw [noElder, noElder, if_neg (by omega)]
  | m + 1, k, n, h1, h2, h3 => by
    obtain ⟨k, rfl⟩ : ∃ j, k = j + 1 := ⟨k - 1, by omega⟩
    rw [noElder, noElder]
    by_cases h0 : 0 < n
    · have hu := form_up hF n h0 h3
      rw [if_pos h0, if_pos h0, noElder_more hF m k _ (by omega) (by omega) (by omega)]
    · rw [if_neg h0, if_neg h0]
theorem take_get (t : List S44) (n j : Nat) (hj : j < n) (hn : n ≤ t.length) : t.getD j z44 ∈ t.take n := by
  rw [List.getD_eq_getElem?_getD, List.getElem?_eq_getElem (show j < t.length by omega)]
  refine List.mem_iff_getElem.2 ⟨j, by rw [List.length_take]; omega, ?_⟩
  rw [List.getElem_take]
  rfl
theorem find_up {t : List S44} (hF : treeF t = true) : ∀ (m : Nat) (n : Int), n.toNat ≤ m → 0 ≤ n → n < t.length → noElder t n.toNat n = true → findF t (upF t n.toNat n).reverse 0 = (n, 0)
  | m, n, hm, h0, h3, hE => by
    by_cases hn : 0 < n
    · obtain ⟨m, rfl⟩ : ∃ j, m = j + 1 := ⟨m - 1, by omega⟩
      have hu := form_up hF n hn h3
      obtain ⟨k, hk⟩ : ∃ j, n.toNat = j + 1 := ⟨n.toNat - 1, by omega⟩
      rw [hk, noElder, if_pos hn, Bool.and_eq_true, noElder_more hF (rd_T44 t n).f2.toNat k _ (by omega) (by omega) (by omega)] at hE
      have ih := find_up hF m (rd_T44 t n).f2 (by omega) (by omega) (by omega) hE.2
      rw [upF_step hF n hn h3, List.reverse_cons, findF_snoc t _ _ _ _ ih]
      have hko := kid_ok hF n hn h3
      unfold kidOk at hko
      simp only [Bool.and_eq_true, Bool.not_eq_true', decide_eq_false_iff_not] at hko
      obtain ⟨-, -, -, -, hany⟩ := hko
      have hx : idxP (isF (rd_T44 t n).f2 (rd_T44 t n).f0 (rd_T44 t n).f1) t = ((n.toNat : Nat) : Int) := by
        refine idxP_here _ z44 t n.toNat (fun j hj => ?_) (by omega) ?_
        · have hmem := take_get t n.toNat j hj (by omega)
          have h1 : isN (rd_T44 t n).f2 (rd_T44 t n).f0 (rd_T44 t n).f1 (t.getD j z44) = false := by
            cases hh : isN (rd_T44 t n).f2 (rd_T44 t n).f0 (rd_T44 t n).f1 (t.getD j z44) with
            | false => rfl
            | true => rw [List.any_eq_true.2 ⟨_, hmem, hh⟩] at hany; cases hany
          have h2 : elderF t n = false := by
            have := hE.1
            rwa [Bool.not_eq_true'] at this
          unfold elderF at h2
          unfold isN at h1
          unfold isF
          cases ha : ((t.getD j z44).f2 == (rd_T44 t n).f2) with
          | false => rfl
          | true =>
            rw [ha] at h1
            cases hb : ((t.getD j z44).f0.toList == (rd_T44 t n).f0.toList) with
            | false => rfl
            | true =>
              rw [hb] at h1
              simp only [Bool.true_and] at h1 ⊢
              rw [h1, Bool.or_false]
              cases hc : (((rd_T44 t n).f1.length : Int) == 0) with
              | false => rfl
              | true =>
                rw [hc, Bool.true_and, List.any_eq_true.2 ⟨_, hmem, by rw [ha, hb]; rfl⟩] at h2
                cases h2
        · rw [show t.getD n.toNat z44 = rd_T44 t n from rfl]
          unfold isF
          simp
      rw [hx, if_neg (by omega), show ((n.toNat : Nat) : Int) = n by omega]
    · rw [upF_le t _ n (by omega)]
      rw [show n = 0 by omega]
      rfl
  termination_by m => m
theorem upF_last {t : List S44} (hF : treeF t = true) (n : Int) (hn : 0 < n) (h3 : n < t.length) : ∃ l, (upF t n.toNat n).reverse = l ++ [(⟨(rd_T44 t n).f0, (rd_T44 t n).f1, ⟨#[]⟩⟩ : S49)] := by
  rw [upF_step hF n hn h3, List.reverse_cons]
  exact ⟨_, rfl⟩
end Go.Proofs.YtnalcjgefbelnaaDoor.Q
end
section
namespace Go.Proofs.YtnalcjgefbelnaaDoor.Q
open Go.RowKit Go.Proofs.YtnalcjgefbelnaaDoorW.PrintWords Go.Proofs.YtnalcjgefbelnaaDoorW.PrintLast Go.Proofs.YtnalcjgefbelnaaDoorW.PrintMore
set_option linter.unusedVariables false
set_option linter.unusedSimpArgs false

attribute [local go_sem] max2_int min2_int max_two min_two max_three min_three max_four min_four
/-! ### tinderref08_Find: function 22 -/
mutual
def tinderref08_Find.l0 : Nat → List (S44) → List (S49) → Int → Int → Option (Int × Int)
  | 0, _, _, _, _ => none
  | k + 1, x0, x1, x6, x7 => if x7 < (x1.length : Int) then (tinderref08_Find.l1 k x0 x1 x6 x7 (-1) (wrap64 ((x0.length : Int) - 1))) else (some (x6, 0))
def tinderref08_Find.l1 : Nat → List (S44) → List (S49) → Int → Int → Int → Int → Option (Int × Int)
  | 0, _, _, _, _, _, _ => none
  | k + 1, x0, x1, x6, x7, x8, x9 => if x9 > 0 then (if 0 ≤ x9 then (if x9 < (x0.length : Int) then (if ((rd_T44 x0 x9).f2) = x6 then (if 0 ≤ x7 then (if x7 < (x1.length : Int) then (if ((rd_T44 x0 x9).f0).toList = ((rd_T49 x1 x7).f0).toList then (if (((rd_T49 x1 x7).f1).length : Int) = 0 then (tinderref08_Find.l1 k x0 x1 x6 x7 x9 (wrap64 (x9 - 1))) else ((tinderref03_Same.f k ((rd_T44 x0 x9).f1) ((rd_T49 x1 x7).f1)).bind fun t23008 => (if t23008 = true then (tinderref08_Find.l1 k x0 x1 x6 x7 x9 (wrap64 (x9 - 1))) else (tinderref08_Find.l1 k x0 x1 x6 x7 x8 (wrap64 (x9 - 1)))))) else (tinderref08_Find.l1 k x0 x1 x6 x7 x8 (wrap64 (x9 - 1)))) else (none)) else (none)) else (tinderref08_Find.l1 k x0 x1 x6 x7 x8 (wrap64 (x9 - 1)))) else (none)) else (none)) else (if x8 < 0 then (some (0, 19)) else (tinderref08_Find.l0 k x0 x1 x8 (wrap64 (x7 + 1))))
end
def tinderref08_Find.f (k : Nat) (l0 : List (S44)) (l1 : List (S49)) : Option (Int × Int) := (tinderref08_Formed.f k l0).bind fun t23001 => (if t23001 = true then (tinderref08_Find.l0 k l0 l1 0 0) else (some (0, 1)))
def tinderref08_Find.T11 : Bool × List (List Nat × List Nat) := (true, [([], []), ([], []), ([0, 1], [0, 1]), ([2], [2]), ([3], [3]), ([], []), ([4, 5], [4, 5]), ([6], [6]), ([7], [7]), ([7], [7]), ([8, 9, 7], [7, 8, 9]), ([10, 7], [7, 10]), ([11, 7], [7, 11]), ([7], [7]), ([7], [7]), ([13, 14, 7], [7, 13, 14]), ([15, 7], [7, 15]), ([16, 7], [7, 16]), ([12, 17, 7], [7, 12, 17]), ([7, 18], [7, 18]), ([19, 7], [19]), ([20], [20]), ([20], [20]), ([21, 22, 20], [20, 21, 22]), ([23, 20], [20, 23]), ([24, 20], [20, 24]), ([25, 20], [20, 25]), ([26, 20], [20, 26]), ([27, 20, 20], [20, 27]), ([28], [28]), ([28], [28]), ([29, 30, 28], [28, 29, 30]), ([31, 28], [28, 31]), ([32, 28], [28, 32]), ([28], [28]), ([28], [28]), ([34, 35, 28], [28, 34, 35]), ([36, 28], [28, 36]), ([37, 28], [28, 37]), ([33, 38, 28, 28], [28, 33, 38]), ([28, 39, 20], [20, 28, 39]), ([20, 40], [20, 40])])
def tinderref08_Find.B11 : List Nat := [0, 0, 3, 7, 15, 0, 63, 127, 255, 255, 1023, 2047, 4095, 255, 255, 24831, 57599, 123135, 262143, 524287, 1048575, 2097151, 2097151, 8388607, 16777215, 33554431, 67108863, 134217727, 268435455, 536870911, 536870911, 2147483647, 4294967295, 8589934591, 536870911, 536870911, 52076478463, 120795955199, 258234908671, 549755813887, 1099511627775, 2199023255551]

end Go.Proofs.YtnalcjgefbelnaaDoor.Q
end
section
namespace Go.Proofs.YtnalcjgefbelnaaDoor.Q
open Go.RowKit Go.Proofs.YtnalcjgefbelnaaDoorW.PrintWords Go.Proofs.YtnalcjgefbelnaaDoorW.PrintLast Go.Proofs.YtnalcjgefbelnaaDoorW.PrintMore
set_option linter.unusedVariables false
set_option linter.unusedSimpArgs false

attribute [local go_sem] max2_int min2_int max_two min_two max_three min_three max_four min_four
/-! ### tinderref08_Steps: function 61 -/
def tinderref08_Steps.l0 : Nat → List (S44) → Int → List (S49) → Option ((List (S49)))
  | 0, _, _, _ => none
  | k + 1, x0, x1, x5 => if x1 > 0 then (if 0 ≤ x1 then (if x1 < (x0.length : Int) then ((tinderref03_Copy.f ((rd_T44 x0 x1).f1)).bind fun t62003 => ((some (([(⟨(rd_T44 x0 x1).f0, t62003, (⟨#[]⟩ : ByteArray)⟩ : S49)] : List (S49)) : List (S49))).bind fun y62006 => (if y62006.length + x5.length < 2513169434916 then (tinderref08_Steps.l0 k x0 ((rd_T44 x0 x1).f2) (y62006 ++ x5)) else (none)))) else (none)) else (none)) else (some x5)
def tinderref08_Steps.f (k : Nat) (l0 : List (S44)) (a1 : Int) : Option ((List (S49))) := tinderref08_Steps.l0 k l0 a1 ([] : List (S49))
def tinderref08_Steps.T3 : Bool × List (List Nat × List Nat) := (true, [([], []), ([], []), ([0, 1], [0, 1]), ([2], [2]), ([3], [3]), ([], []), ([], []), ([5, 6], [5, 6]), ([7], [7]), ([8], [8]), ([9], [9]), ([4, 10], [4, 10]), ([11], [11]), ([12, 10, 0, 1, 2, 3, 4, 5, 6, 7, 8, 9, 10, 11, 12], [12])])
def tinderref08_Steps.B3 : List Nat := [0, 0, 3, 7, 15, 0, 0, 96, 224, 480, 992, 2047, 4095, 8191]

end Go.Proofs.YtnalcjgefbelnaaDoor.Q
end
section
namespace Go.Proofs.YtnalcjgefbelnaaDoor.Q
open Go.RowKit Go.Proofs.YtnalcjgefbelnaaDoorW.PrintWords Go.Proofs.YtnalcjgefbelnaaDoorW.PrintLast Go.Proofs.YtnalcjgefbelnaaDoorW.PrintMore
set_option linter.unusedVariables false
set_option linter.unusedSimpArgs false

attribute [local go_sem] max2_int min2_int max_two min_two max_three min_three max_four min_four
/-! ### tinderref08_Path: function 24 -/
def tinderref08_Path.f (k : Nat) (l0 : List (S44)) (a1 : Int) : Option (ByteArray × Int) := (tinderref08_wrong.f k l0 a1).bind fun t25001 => (if t25001 = 0 then ((tinderref08_Steps.f k l0 a1).bind fun t25002 => ((tinderref07_Show.f k t25002).bind fun bt25005 => (some (bt25005.1, bt25005.2)))) else (some ((⟨#[]⟩ : ByteArray), t25001)))

end Go.Proofs.YtnalcjgefbelnaaDoor.Q
end
section
set_option linter.unusedSimpArgs false
set_option linter.unusedVariables false
namespace Go.Proofs.YtnalcjgefbelnaaDoor.Q
open Go.RowKit Go.Proofs.YtnalcjgefbelnaaDoorW.PrintWords Go.Proofs.YtnalcjgefbelnaaDoorW.PrintLast
/-- Steps of a formed tree: short names, few numbers, no words behind. -/
def StepS (x : S49) : Prop := x.f0.size ≤ 31 ∧ x.f1.length ≤ 4 ∧ x.f2 = ⟨#[]⟩ ∧ U32L x.f1
theorem up_short {t : List S44} (hF : treeF t = true) (hW : ∀ x ∈ t, U32L x.f1) : ∀ (m : Nat) (n : Int), n.toNat ≤ m → n < t.length → ∀ x ∈ upF t n.toNat n, StepS x
  | m, n, hm, hn, x, hx => by
    by_cases h0 : 0 < n
    · obtain ⟨m, rfl⟩ : ∃ j, m = j + 1 := ⟨m - 1, by omega⟩
      have hu := form_up hF n h0 hn
      rw [upF_step hF n h0 hn] at hx
      rcases List.mem_cons.1 hx with hx | hx
      · subst hx
        have hko := kid_ok hF n h0 hn
        unfold kidOk namedF at hko
        simp only [Bool.and_eq_true, Bool.not_eq_true', decide_eq_false_iff_not, decide_eq_true_eq] at hko
        exact ⟨hko.1.1.2, by have := hko.2.1; show (rd_T44 t n).f1.length ≤ 4; omega, rfl, hW _ (rd44_mem t n (by omega) hn)⟩
      · exact up_short hF hW m (rd_T44 t n).f2 (by omega) (by omega) x hx
    · rw [upF_le t _ n (by omega)] at hx
      exact absurd hx List.not_mem_nil
  termination_by m => m
theorem steps_wt : ∀ (l : List S49), (∀ x ∈ l, StepS x) → wtL l ≤ 40 * l.length
  | [], _ => by unfold wtL; simp
  | x :: r, h => by
    have h1 := steps_wt r (fun y hy => h y (List.mem_cons_of_mem _ hy))
    obtain ⟨a1, a2, a3, -⟩ := h x List.mem_cons_self
    have e : wtL (x :: r) = wt81 x + 1 + wtL r := by unfold wtL; rw [List.map_cons, List.sum_cons]
    have e2 : wt81 x = x.f0.size + (x.f1.length + 0) := by unfold wt81; rw [sum_ones, a3]; rfl
    rw [e, e2, List.length_cons]
    omega
theorem path_facts {t : List S44} (hF : treeF t = true) (hW : ∀ x ∈ t, U32L x.f1) (n : Int) (hn : n < t.length) : (∀ x ∈ (upF t n.toNat n).reverse, StepS x) ∧ (upF t n.toNat n).reverse.length ≤ 32 ∧ wtL (upF t n.toNat n).reverse ≤ 1048576 ∧ pathOk (upF t n.toNat n).reverse = true := by
  have hl := form_len hF
  have h1 : ∀ x ∈ (upF t n.toNat n).reverse, StepS x := fun x hx => up_short hF hW n.toNat n (Nat.le_refl _) hn x (List.mem_reverse.1 hx)
  have h2 : (upF t n.toNat n).reverse.length ≤ 32 := by
    rw [List.length_reverse]
    have := upF_len t n.toNat n
    omega
  have h3 := steps_wt _ h1
  have h4 := pathL_len (upF t n.toNat n).reverse (fun x hx => (h1 x hx).2.2.2)
  refine ⟨h1, h2, by omega, ?_⟩
  unfold pathOk
  rw [Bool.and_eq_true]
  refine ⟨List.all_eq_true.2 fun x hx => List.all_eq_true.2 fun u hu => decide_eq_true ((h1 x hx).2.2.2 u hu), decide_eq_true (by omega)⟩
theorem path_ok8 {t : List S44} (hW : ∀ x ∈ t, U32L x.f1) {n : Int} (he : tree_check.f t n = some 0) : tree_Path.f t n = some (showP (upF t n.toNat n).reverse) := by
  have hF := check_form he
  obtain ⟨h0, h1⟩ := check_in he
  unfold tree_Path.f
  rw [he, Option.bind_some, if_pos rfl, if_pos (path_facts hF hW n h1).2.2.2]
theorem path_bad8 {t : List S44} {n e : Int} (he : tree_check.f t n = some e) (h0 : e ≠ 0) : tree_Path.f t n = some (⟨#[]⟩, e) := by
  unfold tree_Path.f
  rw [he, Option.bind_some, if_neg h0]
theorem tree_u32 {z : List S44} (h : TreeG z) : ∀ x ∈ z, U32L x.f1 := fun x hx b hb => by
  have := (h.2 x hx).2.1.2 b hb
  simp only [Lit.wf, Bool.and_eq_true, decide_eq_true_eq, show IntKind.u32.min = 0 from rfl, show IntKind.u32.max = 4294967295 from rfl] at this
  omega
end Go.Proofs.YtnalcjgefbelnaaDoor.Q
end
section
set_option linter.unusedSimpArgs false
set_option linter.unusedVariables false
namespace Go.Proofs.YtnalcjgefbelnaaDoor.Q
open Go.RowKit Go.Proofs.YtnalcjgefbelnaaDoorW.PrintWords Go.Proofs.YtnalcjgefbelnaaDoorW.PrintLast
theorem showB_size (b u : Int) : (showB b u).size = (showL b.toNat u.toNat).length := by
  show (showL b.toNat u.toNat).toArray.size = _
  rw [List.size_toArray]
theorem showB_small (b u : Int) (hb : 2 ≤ b) (hu : 0 ≤ u ∧ u < 4294967296) : 1 ≤ (showB b u).size ∧ (showB b u).size ≤ 32 := by
  rw [showB_size]
  exact ⟨showL_pos _ _, showL_len b.toNat (by omega) 31 u.toNat (by omega)⟩
theorem bytes_show (b u : Int) : bytesOf (showB b u) = showI b u := rfl
theorem num_ch (r : Int) (h : 0 ≤ r ∧ r < 36) : numF (chI r) = r := by
  unfold numF chI
  split <;> split <;> (try split) <;> (try split) <;> omega
theorem val_ch (r b : Int) (h : 0 ≤ r ∧ r < b) (hb : 2 ≤ b ∧ b ≤ 36) : valF (chI r) b = (r, true) := by
  unfold valF
  rw [num_ch r (by omega), if_pos (by omega)]
theorem parL_snoc (b c : Int) (l : List Int) : ∀ n g, parL b (l ++ [c]) n g = (parL b l n g).bind fun p => parL b [c] p.1 p.2 := by
  induction l with
  | nil => intro n g; rfl
  | cons x l ih =>
    intro n g
    rw [List.cons_append, parL_cons, parL_cons]
    by_cases h1 : (valF x b).2 = true
    · rw [if_pos h1, if_pos h1]
      cases g
      · rw [if_neg Bool.false_ne_true, if_neg Bool.false_ne_true]; exact ih _ _
      · rw [if_pos rfl, if_pos rfl]; exact ih _ _
    · rw [if_neg h1, if_neg h1]; rfl
theorem par_show (b : Int) (hb : 2 ≤ b ∧ b ≤ 36) (m : Nat) : (m : Int) < 4294967296 → parL b (showI b m) 0 false = some ((m : Int), false) := by
  induction m using Nat.strongRecOn with
  | ind m ih =>
    intro hm
    by_cases h : (m : Int) < b
    · rw [showI_small (by omega) h hb.2, parL_cons, val_ch m b ⟨by omega, h⟩ hb, if_pos rfl, if_neg Bool.false_ne_true]
      show parL b [] (0 * b + (m : Int)) (decide (0 * b + (m : Int) ≥ 4294967296)) = _
      rw [Int.zero_mul, Int.zero_add, decide_eq_false (by omega), parL_nil]
    · have hq : (m : Int) / b = ((m / b.toNat : Nat) : Int) := by
        obtain ⟨x, rfl⟩ := Int.eq_ofNat_of_zero_le (show 0 ≤ b by omega)
        rfl
      have hlt : m / b.toNat < m := Nat.div_lt_self (by omega) (by omega)
      have hdm := Int.mul_ediv_add_emod (m : Int) b
      have hm0 := Int.emod_nonneg (m : Int) (show b ≠ 0 by omega)
      have hm1 := Int.emod_lt_of_pos (m : Int) (show 0 < b by omega)
      rw [showI_big hb.1 hb.2 (by omega), parL_snoc, hq, ih _ hlt (by omega), Option.bind_some, parL_cons, val_ch _ b ⟨hm0, hm1⟩ hb, if_pos rfl, if_neg Bool.false_ne_true]
      rw [← hq]
      have e : (m : Int) / b * b + (m : Int) % b = m := by rw [Int.mul_comm]; exact hdm
      show parL b [] ((m : Int) / b * b + (m : Int) % b) (decide ((m : Int) / b * b + (m : Int) % b ≥ 4294967296)) = _
      rw [e, decide_eq_false (by omega), parL_nil]
theorem par_show' (b u : Int) (hb : 2 ≤ b ∧ b ≤ 36) (hu : 0 ≤ u ∧ u < 4294967296) : parL b (showI b u) 0 false = some (u, false) := by
  obtain ⟨m, rfl⟩ := Int.eq_ofNat_of_zero_le hu.1
  exact par_show b hb m hu.2
theorem ch_big (r : Int) (h : 0 ≤ r) : 48 ≤ chI r := by unfold chI; split <;> omega
theorem show_first (b : Int) (hb : 2 ≤ b ∧ b ≤ 36) (m : Nat) : ∀ c ∈ showI b m, 48 ≤ c := by
  induction m using Nat.strongRecOn with
  | ind m ih =>
    intro c hc
    by_cases h : (m : Int) < b
    · rw [showI_small (by omega) h hb.2] at hc
      rw [List.mem_singleton.1 hc]
      exact ch_big _ (by omega)
    · have hq : (m : Int) / b = ((m / b.toNat : Nat) : Int) := by
        obtain ⟨x, rfl⟩ := Int.eq_ofNat_of_zero_le (show 0 ≤ b by omega)
        rfl
      have hm0 := Int.emod_nonneg (m : Int) (show b ≠ 0 by omega)
      rw [showI_big hb.1 hb.2 (by omega), hq] at hc
      rcases List.mem_append.1 hc with hc | hc
      · exact ih _ (Nat.div_lt_self (by omega) (by omega)) c hc
      · rw [List.mem_singleton.1 hc]
        exact ch_big _ hm0
theorem show_nominus (b u : Int) (hb : 2 ≤ b ∧ b ≤ 36) (hu : 0 ≤ u ∧ u < 4294967296) : ¬ bt (showB b u) 0 = 45 := by
  obtain ⟨m, rfl⟩ := Int.eq_ofNat_of_zero_le hu.1
  have hs := showB_small b m hb.1 hu
  have hl : 0 < (showI b m).length := by rw [← bytes_show, bytesOf_length]; omega
  have h := show_first b hb m ((showI b m)[0]) (List.getElem_mem hl)
  intro he
  rw [← rd_bytesOf, bytes_show] at he
  have : rd (showI b m) 0 = (showI b m)[0] := by simp [rd, List.getD_eq_getElem?_getD, List.getElem?_eq_getElem hl]
  omega
theorem parF_show (b u : Int) (hb : 2 ≤ b ∧ b ≤ 36) (hu : 0 ≤ u ∧ u < 4294967296) : parF (showB b u) b = (u, 0) := by
  have hs := showB_small b u hb.1 hu
  unfold parF
  rw [if_pos hb, if_neg (fun h => show_nominus b u hb hu h.2), if_neg (by omega), bytes_show, par_show' b u hb hu, resF_pos]
theorem hex_all (m : Nat) : ∀ c ∈ showL 16 m, (48 ≤ c.toNat ∧ c.toNat ≤ 57) ∨ (97 ≤ c.toNat ∧ c.toNat ≤ 102) := by
  induction m using Nat.strongRecOn with
  | ind m ih =>
    have hd : ∀ r, r < 16 → (48 ≤ (UInt8.ofNat (chN r)).toNat ∧ (UInt8.ofNat (chN r)).toNat ≤ 57) ∨ (97 ≤ (UInt8.ofNat (chN r)).toNat ∧ (UInt8.ofNat (chN r)).toNat ≤ 102) := by
      intro r hr
      rw [UInt8.toNat_ofNat']
      unfold chN
      split <;> omega
    by_cases h : m < 16
    · rw [showL_small h]
      intro c hc
      rw [List.mem_singleton.1 hc]
      exact hd m h
    · rw [showL_big (by decide) (by omega)]
      intro c hc
      rcases List.mem_append.1 hc with hc | hc
      · exact ih (m / 16) (by omega) c hc
      · rw [List.mem_singleton.1 hc]
        exact hd (m % 16) (by omega)
theorem hex_len (k : Nat) : ∀ u : Nat, u < 16 ^ (k + 1) → (showL 16 u).length ≤ k + 1 := by
  induction k with
  | zero =>
    intro u h
    rw [showL_small (by omega)]
    simp
  | succ k ih =>
    intro u h
    by_cases hs : u < 16
    · rw [showL_small hs]
      simp
    · rw [showL_big (by decide) (by omega), List.length_append, List.length_singleton]
      have := ih (u / 16) (by rw [Nat.pow_succ] at h; omega)
      omega
theorem shL_len8 (v : Int) (h : 0 ≤ v ∧ v < 4294967296) : (shL v).length ≤ 8 := by
  have e : (16 : Nat) ^ (7 + 1) = 4294967296 := by decide
  exact hex_len 7 v.toNat (by omega)
theorem shL_no (v : Int) (c : UInt8) (hc : c = 44 ∨ c = 47 ∨ c = 58 ∨ c = 64) : c ∉ shL v := fun h => by
  have h2 := hex_all v.toNat c h
  rcases hc with rfl | rfl | rfl | rfl <;> revert h2 <;> decide
theorem no_get {c : UInt8} {l : List UInt8} (h : c ∉ l) (j : Nat) : l[j]? ≠ some c := fun e => h (List.mem_of_getElem? e)
theorem nextB_no (c : UInt8) : ∀ (a : List UInt8), c ∉ a → nextB c a = a.length
  | [], _ => rfl
  | x :: a, h => by
    rw [nextB, if_neg (fun e => h (by simp [e])), nextB_no c a (fun e => h (by simp [e]))]
    rfl
theorem nextB_app (c : UInt8) (b : List UInt8) : ∀ (a : List UInt8), c ∉ a → nextB c (a ++ c :: b) = a.length
  | [], _ => by rw [List.nil_append, nextB, if_pos rfl]; rfl
  | x :: a, h => by
    rw [List.cons_append, nextB, if_neg (fun e => h (by simp [e])), nextB_app c b a (fun e => h (by simp [e]))]
    rfl
theorem cuts_join (c : UInt8) : ∀ (x : List UInt8) (xs : List (List UInt8)), (∀ p ∈ x :: xs, c ∉ p) → cuts c (Lib.join (x :: xs) [c]) = x :: xs
  | x, [], h => by
    rw [Lib.join_one]
    exact cuts_end c x (fun j => no_get (h x (by simp)) j)
  | x, y :: ys, h => by
    have hj : Lib.join (x :: y :: ys) [c] = x ++ c :: Lib.join (y :: ys) [c] := by
      rw [Lib.join_cons, Lib.join_cons]
      unfold Lib.joinTail
      rw [List.map_cons, List.flatten_cons]
      simp
    have hx := h x (by simp)
    rw [hj, cuts_next, nextB_app c _ x hx, if_pos (by rw [List.length_append, List.length_cons]; omega), List.take_left]
    rw [show (x ++ c :: Lib.join (y :: ys) [c]).drop (x.length + 1) = Lib.join (y :: ys) [c] by
      rw [← List.drop_drop, List.drop_left]
      rfl]
    rw [cuts_join c y ys (fun p hp => h p (by simp [hp]))]
theorem okU_show (v : Int) (h : 0 ≤ v ∧ v < 4294967296) : okU (shL v) = true ∧ valU (shL v) = v := by
  have e := parF_show 16 v (by decide) h
  have hb : bOf (shL v) = showB 16 v := rfl
  have hm := show_nominus 16 v (by decide) h
  have hl := shL_len8 v h
  unfold okU valU
  rw [hb, e]
  refine ⟨?_, rfl⟩
  rw [decide_eq_false hm, decide_eq_true hl]
  rfl
theorem units_back (l : List Int) (hl : U32L l) (h0 : 0 < l.length) (h4 : l.length ≤ 4) : unitF (unitsB l) = (l, 0) := by
  have hd : (unitsB l).data.toList = unitsL l := rfl
  obtain ⟨a, r, rfl⟩ : ∃ a r, l = a :: r := by
    cases l with
    | nil => simp at h0
    | cons a r => exact ⟨a, r, rfl⟩
  have hc : cuts 44 (unitsL (a :: r)) = (a :: r).map shL := cuts_join 44 (shL a) (r.map shL) (fun p hp => by
    rw [← List.map_cons (f := shL)] at hp
    obtain ⟨v, _, rfl⟩ := List.mem_map.1 hp
    exact shL_no v 44 (.inl rfl))
  unfold unitF
  rw [hd, hc]
  have hall : ((a :: r).map shL).all okU = true := List.all_eq_true.2 (fun p hp => by
    obtain ⟨v, hv, rfl⟩ := List.mem_map.1 hp
    exact (okU_show v (hl v hv)).1)
  rw [if_pos hall, List.length_map, if_neg (by omega), List.map_map]
  congr 1
  conv => rhs; rw [← List.map_id (a :: r)]
  apply List.map_congr_left
  intro v hv
  exact (okU_show v (hl v hv)).2
theorem units_no (l : List Int) (c : UInt8) (hc : c = 47 ∨ c = 58 ∨ c = 64) : c ∉ unitsL l := by
  unfold unitsL
  induction l with
  | nil => simp [Lib.join_nil]
  | cons a r ih =>
    intro h
    have h3 : c ∉ shL a := shL_no a c (.inr hc)
    cases r with
    | nil =>
      rw [List.map_cons, List.map_nil, Lib.join_one] at h
      exact h3 h
    | cons b r =>
      have hj : Lib.join ((a :: b :: r).map shL) [44] = shL a ++ 44 :: Lib.join ((b :: r).map shL) [44] := by
        rw [List.map_cons, List.map_cons, Lib.join_cons, Lib.join_cons]
        unfold Lib.joinTail
        rw [List.map_cons, List.flatten_cons]
        simp
      rw [hj] at h
      rcases List.mem_append.1 h with h | h
      · exact h3 h
      · rcases List.mem_cons.1 h with h | h
        · rcases hc with rfl | rfl | rfl <;> revert h <;> decide
        · exact ih h
theorem name_no (s : ByteArray) (h : namedF s = true) (c : UInt8) (hc : c = 47 ∨ c = 58 ∨ c = 64) : c ∉ s.data.toList := fun hm => by
  unfold namedF at h
  simp only [Bool.and_eq_true, decide_eq_true_eq] at h
  have h2 := List.all_eq_true.1 h.2 (c.toNat : Int) (List.mem_map.2 ⟨c, hm, rfl⟩)
  rcases hc with rfl | rfl | rfl <;> revert h2 <;> decide
theorem args_no (x : S49) (h : okP x = true) : (47 : UInt8) ∉ x.f2.data.toList := fun hm => by
  unfold okP at h
  simp only [Bool.and_eq_true, Bool.not_eq_true', decide_eq_false_iff_not] at h
  have h2 := h.2
  have hg := Lib.indexByte_ge x.f2.data.toList 47
  have hn : Lib.indexByte x.f2.data.toList 47 = -1 := by omega
  obtain ⟨j, hj, he⟩ := List.getElem_of_mem hm
  exact Lib.indexByte_none hn j (by rw [List.getElem?_eq_getElem hj, he])
end Go.Proofs.YtnalcjgefbelnaaDoor.Q
end
section
set_option linter.unusedSimpArgs false
set_option linter.unusedVariables false
namespace Go.Proofs.YtnalcjgefbelnaaDoor.Q
open Go.RowKit Go.Proofs.YtnalcjgefbelnaaDoorW.PrintWords Go.Proofs.YtnalcjgefbelnaaDoorW.PrintLast
theorem bOf_list (p : List UInt8) : (bOf p).data.toList = p := rfl
theorem bOf_self (s : ByteArray) : bOf s.data.toList = s := by
  apply ByteArray.ext
  simp [bOf]
theorem head_app (c : UInt8) (A B : List UInt8) (h : c ∉ A) : headC c (bOf (A ++ c :: B)) = bOf A ∧ tailC c (bOf (A ++ c :: B)) = bOf B ∧ 0 ≤ ixC c (bOf (A ++ c :: B)) := by
  obtain ⟨h1, h2, h3⟩ := head_next c (bOf (A ++ c :: B))
  rw [bOf_list, nextB_app c B A h] at h1 h2 h3
  have hs : (bOf (A ++ c :: B)).size = A.length + (B.length + 1) := by rw [bOf_size, List.length_append, List.length_cons]
  rw [hs] at h2 h3
  refine ⟨?_, ?_, h2.2 (by omega)⟩
  · rw [h1, extract_bOf, bOf_list, List.drop_zero, Nat.sub_zero, List.take_left]
  · rw [h3, if_pos (by omega), extract_bOf, bOf_list, ← List.drop_drop, List.drop_left]
    congr 1
    rw [List.take_of_length_le (by simp; omega)]
    rfl
theorem head_no (c : UInt8) (A : List UInt8) (h : c ∉ A) : headC c (bOf A) = bOf A ∧ tailC c (bOf A) = ⟨#[]⟩ ∧ ¬ 0 ≤ ixC c (bOf A) := by
  obtain ⟨h1, h2, h3⟩ := head_next c (bOf A)
  rw [bOf_list, nextB_no c A h] at h1 h2 h3
  rw [bOf_size] at h2 h3
  refine ⟨?_, ?_, fun hh => by have := h2.1 hh; omega⟩
  · rw [h1, extract_bOf, bOf_list, List.drop_zero, Nat.sub_zero, List.take_of_length_le (Nat.le_refl _)]
  · rw [h3, if_neg (by omega)]
theorem size0 {s : ByteArray} (h : s.size = 0) : s = ⟨#[]⟩ := by
  apply ByteArray.ext
  apply Array.ext'
  exact List.eq_nil_of_length_eq_zero (by rw [Array.length_toList]; exact h)
/-- A step's text without its stroke. -/
def unB (x : S49) : List UInt8 := x.f0.data.toList ++ (if 0 < x.f1.length then 64 :: unitsL x.f1 else [])
def tlB (x : S49) : List UInt8 := unB x ++ (if x.f2.size = 0 then [] else 58 :: x.f2.data.toList)
theorem stepB_tl (x : S49) : stepB x = 47 :: tlB x := by
  unfold stepB tlB unB
  simp
theorem ok_named {x : S49} (h : okP x = true) : namedF x.f0 = true ∧ x.f1.length ≤ 4 := by
  unfold okP at h
  simp only [Bool.and_eq_true, decide_eq_true_eq] at h
  exact ⟨h.1.1, h.1.2⟩
theorem unB_no (x : S49) (h : okP x = true) (c : UInt8) (hc : c = 47 ∨ c = 58) : c ∉ unB x := by
  unfold unB
  intro hm
  rcases List.mem_append.1 hm with hm | hm
  · exact name_no x.f0 (ok_named h).1 c (by rcases hc with h | h <;> simp [h]) hm
  · split at hm
    · rcases List.mem_cons.1 hm with hm | hm
      · rcases hc with rfl | rfl <;> revert hm <;> decide
      · exact units_no x.f1 c (by rcases hc with h | h <;> simp [h]) hm
    · cases hm
theorem step_back (x : S49) (h : okP x = true) (hu : U32L x.f1) : stepF (bOf (tlB x)) = (x, true) := by
  obtain ⟨hn, h4⟩ := ok_named h
  have h58 : headC 58 (bOf (tlB x)) = bOf (unB x) ∧ tailC 58 (bOf (tlB x)) = x.f2 := by
    unfold tlB
    by_cases ha : x.f2.size = 0
    · rw [if_pos ha, List.append_nil]
      obtain ⟨h1, h2, _⟩ := head_no 58 (unB x) (unB_no x h 58 (.inr rfl))
      exact ⟨h1, by rw [h2, size0 ha]⟩
    · rw [if_neg ha]
      obtain ⟨h1, h2, _⟩ := head_app 58 (unB x) x.f2.data.toList (unB_no x h 58 (.inr rfl))
      exact ⟨h1, by rw [h2, bOf_self]⟩
  have hn64 := name_no x.f0 hn 64 (.inr (.inr rfl))
  unfold stepF
  rw [h58.1, h58.2]
  unfold unB
  by_cases hun : 0 < x.f1.length
  · rw [if_pos hun]
    obtain ⟨h1, h2, h3⟩ := head_app 64 x.f0.data.toList (unitsL x.f1) hn64
    have hb := units_back x.f1 hu hun h4
    have e : bOf (unitsL x.f1) = unitsB x.f1 := rfl
    rw [h1, h2, bOf_self, if_pos hn, if_pos h3, e, hb, if_pos rfl]
  · rw [if_neg hun, List.append_nil]
    obtain ⟨h1, h2, h3⟩ := head_no 64 x.f0.data.toList hn64
    rw [h1, bOf_self, if_pos hn, if_neg (by rw [bOf_self] at h3; exact h3)]
    have e : x.f1 = [] := List.eq_nil_of_length_eq_zero (by omega)
    rw [← e]
theorem tlB_no (x : S49) (h : okP x = true) : (47 : UInt8) ∉ tlB x := by
  unfold tlB
  intro hm
  rcases List.mem_append.1 hm with hm | hm
  · exact unB_no x h 47 (.inl rfl) hm
  · split at hm
    · cases hm
    · rcases List.mem_cons.1 hm with hm | hm
      · revert hm; decide
      · exact args_no x h hm
theorem path_join (x : S49) (l : List S49) : pathL (x :: l) = 47 :: Lib.join ((x :: l).map tlB) [47] := by
  rw [List.map_cons, Lib.join_cons]
  unfold pathL Lib.joinTail
  rw [List.map_cons, List.flatten_cons, List.map_map, stepB_tl, List.cons_append]
  congr 3
theorem parse_back (x : S49) (l : List S49) (hu : ∀ y ∈ x :: l, U32L y.f1) (ho : ∀ y ∈ x :: l, okP y = true) (hl : (pathL (x :: l)).length ≤ 256) : parseF ⟨(pathL (x :: l)).toArray⟩ = (x :: l, 0) := by
  have hd : (⟨(pathL (x :: l)).toArray⟩ : ByteArray).data.toList = 47 :: Lib.join ((x :: l).map tlB) [47] := path_join x l
  have hsz : (⟨(pathL (x :: l)).toArray⟩ : ByteArray).size = (pathL (x :: l)).length := by simp [ByteArray.size]
  have hc : cuts 47 (Lib.join ((x :: l).map tlB) [47]) = (x :: l).map tlB := cuts_join 47 (tlB x) (l.map tlB) (fun p hp => by
    rw [← List.map_cons (f := tlB)] at hp
    obtain ⟨y, hy, rfl⟩ := List.mem_map.1 hp
    exact tlB_no y (ho y hy))
  have hne : Lib.join ((x :: l).map tlB) [47] ≠ [] := by
    rw [List.map_cons, Lib.join_cons]
    have hn := (ok_named (ho x (by simp))).1
    unfold namedF at hn
    simp only [Bool.and_eq_true, decide_eq_true_eq] at hn
    intro h
    have h2 := congrArg List.length h
    rw [List.length_append, List.length_nil] at h2
    have h3 : x.f0.size ≤ (tlB x).length := by
      unfold tlB unB
      rw [List.length_append, List.length_append, data_length]
      omega
    have h4 := hn.1.1
    omega
  unfold parseF
  rw [hd, if_neg (by omega)]
  dsimp only
  rw [if_pos rfl, if_neg hne, hc]
  have hall : ((x :: l).map tlB).all okS = true := List.all_eq_true.2 (fun p hp => by
    obtain ⟨y, hy, rfl⟩ := List.mem_map.1 hp
    unfold okS
    rw [step_back y (ho y hy) (hu y hy)])
  rw [if_pos hall, List.map_map]
  congr 1
  conv => rhs; rw [← List.map_id (x :: l)]
  apply List.map_congr_left
  intro y hy
  show (stepF (bOf (tlB y))).1 = y
  rw [step_back y (ho y hy) (hu y hy)]
theorem parse_root_eq : parseF ⟨#[47]⟩ = ([], 0) := by
  unfold parseF
  rw [show (⟨#[47]⟩ : ByteArray).data.toList = [47] from rfl, if_neg (by decide)]
  rfl
/-- What is shown is parsed as the same steps. -/
theorem back_eq (l : List S49) (hu : ∀ y ∈ l, U32L y.f1) (h : (showP l).2 = 0) : parseF (showP l).1 = (l, 0) ∧ l.length ≤ 256 ∧ ∀ y ∈ l, y.f1.length ≤ 4 := by
  cases l with
  | nil => exact ⟨parse_root_eq, Nat.zero_le _, fun y hy => by cases hy⟩
  | cons x l =>
    unfold showP at h ⊢
    rw [if_neg (by simp)] at h ⊢
    by_cases ho : (x :: l).all okP = true
    · rw [if_pos ho] at h ⊢
      have ho2 := List.all_eq_true.1 ho
      by_cases hl : 256 < (pathL (x :: l)).length
      · rw [if_pos hl] at h
        cases h
      · rw [if_neg hl]
        refine ⟨parse_back x l hu ho2 (by omega), ?_, fun y hy => (ok_named (ho2 y hy)).2⟩
        have h2 : ∀ m : List S49, m.length ≤ (pathL m).length := by
          intro m
          induction m with
          | nil => exact Nat.zero_le _
          | cons a m ih =>
            unfold pathL at ih ⊢
            rw [List.map_cons, List.flatten_cons, List.length_append, stepB_tl, List.length_cons, List.length_cons]
            omega
        have := h2 (x :: l)
        omega
    · rw [if_neg ho] at h
      cases h
theorem show_err (l : List S49) (h : (showP l).2 ≠ 0) : (showP l).1 = ⟨#[]⟩ ∧ ((showP l).2 = 1 ∨ (showP l).2 = 3) := by
  unfold showP at h ⊢
  split
  · rename_i h0
    rw [if_pos h0] at h
    exact absurd rfl h
  · rename_i h0
    rw [if_neg h0] at h
    split
    · rename_i h1
      rw [if_pos h1] at h
      split
      · exact ⟨rfl, .inr rfl⟩
      · rename_i h2
        rw [if_neg h2] at h
        exact absurd rfl h
    · exact ⟨rfl, .inl rfl⟩
end Go.Proofs.YtnalcjgefbelnaaDoor.Q
end
section
set_option linter.unusedSimpArgs false
set_option linter.unusedVariables false
namespace Go.Proofs.YtnalcjgefbelnaaDoor.Q
open Go.RowKit Go.Proofs.YtnalcjgefbelnaaDoorW.PrintWords Go.Proofs.YtnalcjgefbelnaaDoorW.PrintLast Go.Proofs.YtnalcjgefbelnaaDoorW.PrintMore
attribute [local go_sem] max2_int min2_int max_two min_two max_three min_three max_four min_four
def isE (t : List S44) (n : Int) (x : S44) : Bool := (x.f2 == (rd_T44 t n).f2) && ((x.f0.toList == (rd_T44 t n).f0.toList) && (((rd_T44 t n).f1.length : Int) == 0))
theorem noElder_step {t : List S44} (hF : treeF t = true) (n : Int) (h0 : 0 < n) (h3 : n < t.length) : noElder t n.toNat n = (!elderF t n && noElder t (rd_T44 t n).f2.toNat (rd_T44 t n).f2) := by
  have hu := form_up hF n h0 h3
  obtain ⟨k, hk⟩ : ∃ j, n.toNat = j + 1 := ⟨n.toNat - 1, by omega⟩
  rw [hk, noElder, if_pos h0, noElder_more hF (rd_T44 t n).f2.toNat k _ (by omega) (by omega) (by omega)]
theorem elder_not {t : List S44} (n : Int) (hn : n ≤ t.length) (h : ∀ q : Nat, q < n.toNat → isE t n (t.getD q z44) = false) : elderF t n = false := by
  unfold elderF
  cases hu : (((rd_T44 t n).f1.length : Int) == 0) with
  | false => rfl
  | true =>
    rw [Bool.true_and]
    cases ha : (t.take n.toNat).any fun x => (x.f2 == (rd_T44 t n).f2) && (x.f0.toList == (rd_T44 t n).f0.toList) with
    | false => rfl
    | true =>
      obtain ⟨x, hx, hp⟩ := List.any_eq_true.1 ha
      obtain ⟨j, hj, rfl⟩ := List.mem_iff_getElem.1 hx
      rw [List.length_take] at hj
      have h1 := h j (by omega)
      rw [List.getElem_take] at hp
      rw [List.getD_eq_getElem?_getD, List.getElem?_eq_getElem (show j < t.length by omega), Option.getD_some] at h1
      unfold isE at h1
      rw [hu, Bool.and_true, hp] at h1
      cases h1
set_option maxRecDepth 100000 in
set_option maxHeartbeats 8000000 in
theorem treeBack_bad {w : World} (ht : QB.Tabs w) (A : Option Addr) (c : Nat) (z : List S44) (hC : Kd.C k44 w A z.length z) (hc : z.length ≤ c) (n : Int) (e0 : Int) (hp : tree_Path.f z n = some (⟨#[]⟩, e0)) (h0 : e0 ≠ 0) :
    Calls Tryd.prog 6 #[.slice A z.length c, .int .i64 n] w fun e w' => e = .returned (.bool true) ∧ Below w.heap.size w w' := by
  have HA := Aside0.mk (tinderlaw08_alive.calls true w ht alive08_f)
  have HP := Aside0.mk (fun (W : World) (hb : Below w.heap.size w W) => tree_Path.calls A c z n ⟨#[]⟩ e0 W (QB.Tabs.below ht hb) (Kd.C_below hC hb) hc hp)
  have heb : (e0 != 0) = true := bne_iff_ne.2 h0
  have heb2 : (e0 == 0) = false := beq_eq_false_iff_ne.2 h0
  clear ht hC hc hp h0
  go_enter Tryd.func6, Tryd.ntmps6
  go_wp2_with (first
    | (go_at_call 11; (with_reducible refine HA.out.mono ?_); rintro e w1 ⟨rfl, hb⟩; have HB1 := Aside0.mk hb; clear hb)
    | (go_at_call 23; (with_reducible refine (HP.out _ HB1.out).mono ?_); rintro e w2 ⟨rfl, hb⟩; have HB2 := Aside0.mk (below_step HB1.out hb); clear hb))
  go_ret
  exact ⟨rfl, HB2.out⟩
set_option maxRecDepth 100000 in
set_option maxHeartbeats 16000000 in
theorem treeBack_good {w : World} (ht : QB.Tabs w) (A : Option Addr) (c : Nat) (z : List S44) (hC : Kd.C k44 w A z.length z) (hc : z.length ≤ c) (hg : TreeG z) (n : Int) (he : tree_check.f z n = some 0) (h0 : (showP (upF z n.toNat n).reverse).2 = 0) :
    Calls Tryd.prog 6 #[.slice A z.length c, .int .i64 n] w fun e w' => e = .returned (.bool true) ∧ Below w.heap.size w w' := by
  have mixed : Tryd.prog.follows Departure.mixedOrders = true := by kernel_rfl
  have hu44 := Tryd.underlying44
  have hu49 := Tryd.underlying49
  have hG := good_of hg
  have hW := tree_u32 hg
  have hF := check_form he
  have hln := form_len hF
  obtain ⟨a0, a1⟩ := check_in he
  obtain ⟨p1, p2, p3, p4⟩ := path_facts hF hW n a1
  have hL0 := upF_len z n.toNat n
  obtain ⟨L, hL⟩ : ∃ L, L = (upF z n.toNat n).reverse := ⟨_, rfl⟩
  have hp := path_ok8 hW he
  rw [← hL] at p1 p2 h0 hp
  have hLn : L.length ≤ n.toNat := by rw [hL, List.length_reverse]; exact hL0
  obtain ⟨s, hs⟩ : ∃ s, s = (showP L).1 := ⟨_, rfl⟩
  have hbk := back_eq L (fun x hx => (p1 x hx).2.2.2) h0
  have hpp : showP L = (s, 0) := by rw [hs, ← h0]
  rw [hpp] at hp hbk
  have hup := find_up hF n.toNat n (Nat.le_refl _) a0 a1
  rw [← hL] at hup
  obtain ⟨fm, hfm⟩ : ∃ fm, fm = findF z L 0 := ⟨_, rfl⟩
  have HA := Aside0.mk (tinderlaw08_alive.calls true w ht alive08_f)
  have HP := Aside0.mk (fun (W : World) (hb : Below w.heap.size w W) => tree_Path.calls A c z n s 0 W (QB.Tabs.below ht hb) (Kd.C_below hC hb) hc hp)
  have HPA := Aside0.mk (fun (W : World) => tinderref07_Parse.calls 3000 s L 0 W (by rw [refParse_eq 3000 s (Nat.le_refl _), hbk.1]))
  have HFD := Aside0.mk (fun (A1 : Option Addr) (c1 : Nat) (W : World) (hb : Below w.heap.size w W) (hr : Kd.C k49 W A1 L.length L) (hc1 : L.length ≤ c1) => tree_Find.calls A c z A1 c1 L fm.1 fm.2 W (Kd.C_below hC hb) hc hr hc1 (by unfold tree_Find.f; rw [if_pos hF, hfm]))
  have HUP := Aside0.mk (show noElder z n.toNat n = true → fm = (n, 0) from fun h => by rw [hfm]; exact hup h)
  have HC := Aside0.mk hC
  have HF := Aside0.mk hF
  have HN := Aside0.mk (⟨a0, a1⟩ : 0 ≤ n ∧ n < z.length)
  have HLN := Aside0.mk hln
  have HLL := Aside0.mk hLn
  have HLAST := Aside0.mk (show 0 < n → ∃ l, L = l ++ [(⟨(rd_T44 z n).f0, (rd_T44 z n).f1, ⟨#[]⟩⟩ : S49)] from fun h => by rw [hL]; exact upF_last hF n h a1)
  have HGD := Aside0.mk (hG.2 _ (rd44_mem z n a0 a1))
  clear ht hC hc hg he h0 hG hW hF hln a0 a1 p1 p2 p3 p4 hL0 hp hLn hbk hpp hup hL hs hfm
  go_enter Tryd.func6, Tryd.ntmps6
  go_wp2_with (first
    | (go_at_call 11; (with_reducible refine HA.out.mono ?_); rintro e w1 ⟨rfl, hb⟩; have HB1 := Aside0.mk hb; clear hb)
    | (go_at_call 23; (with_reducible refine (HP.out _ HB1.out).mono ?_); rintro e w2 ⟨rfl, hb⟩; have HB2 := Aside0.mk (below_step HB1.out hb); clear hb))
  go_loopg [7] n.toNat (fun kq v7 w' => ∃ at_ : Int, v7 = .int .i64 at_ ∧ Aside0 (at_.toNat ≤ kq) ∧ Aside0 (0 ≤ at_ ∧ at_ < z.length) ∧ Aside0 (noElder z n.toNat n = noElder z at_.toNat at_) ∧ Aside0 (Below w.heap.size w w'))
  case atStart => exact ⟨n, rfl, ⟨Nat.le_refl _⟩, HN, ⟨rfl⟩, HB2⟩
  case round =>
    obtain ⟨at_, rfl, HK, HR, HE, HB⟩ := hrel
    rename World => wa
    by_cases hpos : 0 < at_
    · have dpos : decide (0 < at_) = true := decide_eq_true hpos
      obtain ⟨k1, rfl⟩ : ∃ k, gk = k + 1 := ⟨gk - 1, by have := HK.out; omega⟩
      have HPOS := Aside0.mk hpos
      clear hpos
      go_wp2
      go_loopg [8] at_.toNat (fun kq v8 w' => ∃ j : Nat, v8 = .int .i64 j ∧ Aside0 (j + kq = at_.toNat) ∧ Aside0 (∀ q : Nat, q < j → isE z at_ (z.getD q z44) = false) ∧ Aside0 (Below w.heap.size w w'))
      case atStart => exact ⟨0, rfl, ⟨by omega⟩, ⟨fun q hq => absurd hq (Nat.not_lt_zero q)⟩, HB⟩
      case round =>
        obtain ⟨j, rfl, JI, JQ, JB⟩ := hrel
        rename World => wj
        cases gk with
        | zero =>
          have dlt : decide ((j : Int) < at_) = false := decide_eq_false (by have := JI.out; omega)
          have hr := HR.out
          obtain ⟨adz, D1, d1, D3, d3, D4, d4, eA, hz0, hz1, hz2, hz3, hz4, -, -, -, -, -, -⟩ := at_T44 (Kd.C_below HC.out JB.out) at_ hr.1 hr.2
          cases eA
          have q1 : (0 ≤ at_) = True := eq_true hr.1
          have q2 : (at_ < (z.length : Int)) = True := eq_true hr.2
          have hel : elderF z at_ = false := elder_not at_ (by omega) (fun q hq => JQ.out q (by have := JI.out; omega))
          have hst := noElder_step HF.out at_ HPOS.out hr.2
          rw [hel] at hst
          have hup := form_up HF.out at_ HPOS.out hr.2
          have HE2 := Aside0.mk (HE.out.trans hst)
          have HUR := Aside0.mk hup
          clear hr hel hst hup hz0 hz1 hz3 hz4
          go_wp2
          go_roundg k1
          case measure => omega
          case rel => exact ⟨_, rfl, ⟨by have := HK.out; have := HUR.out; omega⟩, ⟨by have := HR.out; have := HUR.out; omega⟩, ⟨by rw [HE2.out]; rfl⟩, JB⟩
        | succ k2 =>
          have dlt : decide ((j : Int) < at_) = true := decide_eq_true (by have := JI.out; omega)
          have hr := HR.out
          have hj := JI.out
          obtain ⟨adz, D1, d1, D3, d3, D4, d4, eA, hz0, hz1, hz2, hz3, hz4, -, -, -, -, -, -⟩ := at_T44 (Kd.C_below HC.out JB.out) at_ hr.1 hr.2
          obtain ⟨adj, E1, f1, E3, f3, E4, f4, eB, hj0, hj1, hj2, hj3, hj4, -, -, -, -, -, -⟩ := at_T44 (Kd.C_below HC.out JB.out) (j : Int) (by omega) (by omega)
          cases eA
          obtain rfl := Option.some.inj eB
          rw [Int.toNat_natCast] at hj0 hj1 hj2 hj3 hj4
          have q1 : (0 ≤ at_) = True := eq_true hr.1
          have q2 : (at_ < (z.length : Int)) = True := eq_true hr.2
          have q3 : (0 ≤ (j : Int)) = True := eq_true (by omega)
          have q4 : ((j : Int) < (z.length : Int)) = True := eq_true (by omega)
          have q5 : (j < z.length) = True := eq_true (by omega)
          have hwr : IntKind.i64.wrap ((j : Int) + 1) = ((j + 1 : Nat) : Int) := (i64_w _).trans (by unfold wrap64; have := HLN.out; omega)
          have hwr2 : wrap64 ((j : Int) + 1) = ((j + 1 : Nat) : Int) := by unfold wrap64; have := HLN.out; omega
          have HX := Aside0.mk (show isE z at_ (z.getD j z44) = (((rd_T44 z (j : Int)).f2 == (rd_T44 z at_).f2) && (((rd_T44 z (j : Int)).f0.toList == (rd_T44 z at_).f0.toList) && (((rd_T44 z at_).f1.length : Int) == 0))) from rfl)
          clear hr hj eB hj1 hj3 hj4 hz3 hz4
          generalize (rd_T44 z (j : Int)).f2 = xj2 at *
          generalize (rd_T44 z (j : Int)).f0 = xj0 at *
          generalize (rd_T44 z at_).f2 = xa2 at *
          generalize (rd_T44 z at_).f0 = xa0 at *
          generalize (rd_T44 z at_).f1.length = xa1 at *
          cases b1 : (xj2 == xa2)
          · rw [b1, Bool.false_and] at HX
            go_wp2
            go_quiet (fail)
            go_wp2
            go_roundg k2
            case measure => omega
            case rel => exact ⟨j + 1, rfl, ⟨by have := JI.out; omega⟩, ⟨fun q hq => by
              by_cases hqe : q = j
              · rw [hqe]; exact HX.out
              · exact JQ.out q (by omega)⟩, ⟨pw_below_drewN JB.out _⟩⟩
          · cases b2 : (xj0.toList == xa0.toList)
            · rw [b1, b2, Bool.true_and, Bool.false_and] at HX
              go_wp2
              go_quiet (fail)
              go_wp2
              go_roundg k2
              case measure => omega
              case rel => exact ⟨j + 1, rfl, ⟨by have := JI.out; omega⟩, ⟨fun q hq => by
                by_cases hqe : q = j
                · rw [hqe]; exact HX.out
                · exact JQ.out q (by omega)⟩, ⟨pw_below_drewN JB.out _⟩⟩
            · cases b3 : ((xa1 : Int) == 0)
              · rw [b1, b2, b3, Bool.true_and, Bool.true_and] at HX
                go_wp2
                go_quiet (fail)
                go_wp2
                go_roundg k2
                case measure => omega
                case rel => exact ⟨j + 1, rfl, ⟨by have := JI.out; omega⟩, ⟨fun q hq => by
                  by_cases hqe : q = j
                  · rw [hqe]; exact HX.out
                  · exact JQ.out q (by omega)⟩, ⟨pw_below_drewN JB.out _⟩⟩
              · go_wp2
                go_quiet (fail)
                go_wp2
                go_ret
                exact ⟨rfl, pw_below_drewN JB.out _⟩
    · have dpos : decide (0 < at_) = false := decide_eq_false hpos
      have hat : at_ = 0 := by have := HR.out; omega
      have hE : noElder z n.toNat n = true := by rw [HE.out, hat]; rfl
      obtain rfl := HUP.out hE
      clear hpos hat hE
      go_wp2_with (first
        | (go_at_call 25; (with_reducible refine (HPA.out _).mono ?_); rintro e w3 ⟨v3, rfl, ho, hb⟩; obtain ⟨A3, c3, rfl⟩ := Kd.S_slice ho; obtain ⟨-, hc3, hC3⟩ := Kd.S_reads' ho; have HB3 := Aside0.mk (below_step HB.out hb); have HC3 := Aside0.mk hC3; have HK3 := Aside0.mk hc3; clear ho hb hc3 hC3)
        | (go_at_call 21; (with_reducible refine (HFD.out _ _ _ HB3.out HC3.out HK3.out).mono ?_); rintro e w4 ⟨rfl, hb⟩; have HB4 := Aside0.mk (below_step HB3.out hb); have HC4 := Aside0.mk (Kd.C_below HC3.out hb); clear hb))
      have hln2 := HLL.out
      have hn := HN.out
      have dle : decide ((L.length : Int) ≤ (z.length : Int)) = true := decide_eq_true (by omega)
      have dleN : decide (L.length ≤ z.length) = true := decide_eq_true (by omega)
      by_cases hn0 : n = 0
      · subst hn0
        clear hln2 hn
        refine start_ (n := 38) (S := fun w' => Below w4.heap.size w4 w') (ds := []) #[false, false, false, false, false, false, false, false, false, false, false, false, false, false, false, false, false, false, false, false, false, false, false, false, false, false, false, false, false, false, false, false, false, false, false, false, false, false] (by kernel_rfl) rfl rfl (below_drew1 (Below.refl w4.heap.size w4)) (fun hHeld => ?_)
        refine pure_ (i := 0) (N := some 82) (v := ?_) (a' := ?_) #[true, false, false, false, false, false, false, false, false, false, false, false, false, false, false, false, false, false, false, false, false, false, false, false, false, false, false, false, false, false, false, false, false, false, false, false, false, false] rfl rfl (by kernel_rfl) (fun _ _ _ h => h) (Or.inl ⟨by rfl, ?_⟩) ?_ ?_
        rotate_left
        · intro w'
          go_simp
          with_reducible rfl
        rotate_left
        · simp only [Act.put, List.setIfInBounds_toArray, List.set_cons_zero, List.set_cons_succ]
          rfl
        refine pure_ (i := 1) (N := some 83) (v := ?_) (a' := ?_) #[true, true, false, false, false, false, false, false, false, false, false, false, false, false, false, false, false, false, false, false, false, false, false, false, false, false, false, false, false, false, false, false, false, false, false, false, false, false] rfl rfl (by kernel_rfl) (fun _ _ _ h => h) (Or.inl ⟨by rfl, ?_⟩) ?_ ?_
        rotate_left
        · intro w'
          go_simp
          with_reducible rfl
        rotate_left
        · simp only [Act.put, List.setIfInBounds_toArray, List.set_cons_zero, List.set_cons_succ]
          rfl
        refine pure_ (i := 2) (N := some 84) (v := ?_) (a' := ?_) #[true, true, true, false, false, false, false, false, false, false, false, false, false, false, false, false, false, false, false, false, false, false, false, false, false, false, false, false, false, false, false, false, false, false, false, false, false, false] rfl rfl (by kernel_rfl) (fun _ _ _ h => h) (Or.inl ⟨by rfl, ?_⟩) ?_ ?_
        rotate_left
        · intro w'
          go_simp
          with_reducible rfl
        rotate_left
        · simp only [Act.put, List.setIfInBounds_toArray, List.set_cons_zero, List.set_cons_succ]
          rfl
        refine pure_ (i := 3) (N := some 85) (v := ?_) (a' := ?_) #[true, true, true, true, false, false, false, false, false, false, false, false, false, false, false, false, false, false, false, false, false, false, false, false, false, false, false, false, false, false, false, false, false, false, false, false, false, false] rfl rfl (by kernel_rfl) (fun _ _ _ h => h) (Or.inl ⟨by rfl, ?_⟩) ?_ ?_
        rotate_left
        · intro w'
          go_simp
          with_reducible rfl
        rotate_left
        · simp only [Act.put, List.setIfInBounds_toArray, List.set_cons_zero, List.set_cons_succ]
          rfl
        refine pure_ (i := 4) (N := some 86) (v := ?_) (a' := ?_) #[true, true, true, true, true, false, false, false, false, false, false, false, false, false, false, false, false, false, false, false, false, false, false, false, false, false, false, false, false, false, false, false, false, false, false, false, false, false] rfl rfl (by kernel_rfl) (fun _ _ _ h => h) (Or.inl ⟨by rfl, ?_⟩) ?_ ?_
        rotate_left
        · intro w'
          go_simp
          with_reducible rfl
        rotate_left
        · simp only [Act.put, List.setIfInBounds_toArray, List.set_cons_zero, List.set_cons_succ]
          rfl
        refine pure_ (i := 5) (N := some 87) (v := ?_) (a' := ?_) #[true, true, true, true, true, true, false, false, false, false, false, false, false, false, false, false, false, false, false, false, false, false, false, false, false, false, false, false, false, false, false, false, false, false, false, false, false, false] rfl rfl (by kernel_rfl) (fun _ _ _ h => h) (Or.inl ⟨by rfl, ?_⟩) ?_ ?_
        rotate_left
        · intro w'
          go_simp
          with_reducible rfl
        rotate_left
        · simp only [Act.put, List.setIfInBounds_toArray, List.set_cons_zero, List.set_cons_succ]
          rfl
        refine pure_ (i := 6) (N := some 88) (v := ?_) (a' := ?_) #[true, true, true, true, true, true, true, false, false, false, false, false, false, false, false, false, false, false, false, false, false, false, false, false, false, false, false, false, false, false, false, false, false, false, false, false, false, false] rfl rfl (by kernel_rfl) (fun _ _ _ h => h) (Or.inl ⟨by rfl, ?_⟩) ?_ ?_
        rotate_left
        · intro w'
          go_simp
          with_reducible rfl
        rotate_left
        · simp only [Act.put, List.setIfInBounds_toArray, List.set_cons_zero, List.set_cons_succ]
          rfl
        refine pure_ (i := 7) (N := some 89) (v := ?_) (a' := ?_) #[true, true, true, true, true, true, true, true, false, false, false, false, false, false, false, false, false, false, false, false, false, false, false, false, false, false, false, false, false, false, false, false, false, false, false, false, false, false] rfl rfl (by kernel_rfl) (fun _ _ _ h => h) (Or.inl ⟨by rfl, ?_⟩) ?_ ?_
        rotate_left
        · intro w'
          go_simp
          with_reducible rfl
        rotate_left
        · simp only [Act.put, List.setIfInBounds_toArray, List.set_cons_zero, List.set_cons_succ]
          rfl
        refine pure_ (i := 8) (N := some 90) (v := ?_) (a' := ?_) #[true, true, true, true, true, true, true, true, true, false, false, false, false, false, false, false, false, false, false, false, false, false, false, false, false, false, false, false, false, false, false, false, false, false, false, false, false, false] rfl rfl (by kernel_rfl) (fun _ _ _ h => h) (Or.inl ⟨by rfl, ?_⟩) ?_ ?_
        rotate_left
        · intro w'
          go_simp
          with_reducible rfl
        rotate_left
        · simp only [Act.put, List.setIfInBounds_toArray, List.set_cons_zero, List.set_cons_succ]
          rfl
        refine pure_ (i := 9) (N := some 91) (v := ?_) (a' := ?_) #[true, true, true, true, true, true, true, true, true, true, false, false, false, false, false, false, false, false, false, false, false, false, false, false, false, false, false, false, false, false, false, false, false, false, false, false, false, false] rfl rfl (by kernel_rfl) (fun _ _ _ h => h) (Or.inl ⟨by rfl, ?_⟩) ?_ ?_
        rotate_left
        · intro w'
          go_simp
          with_reducible rfl
        rotate_left
        · simp only [Act.put, List.setIfInBounds_toArray, List.set_cons_zero, List.set_cons_succ]
          rfl
        refine pure_ (i := 10) (N := some 92) (v := ?_) (a' := ?_) #[true, true, true, true, true, true, true, true, true, true, true, false, false, false, false, false, false, false, false, false, false, false, false, false, false, false, false, false, false, false, false, false, false, false, false, false, false, false] rfl rfl (by kernel_rfl) (fun _ _ _ h => h) (Or.inl ⟨by rfl, ?_⟩) ?_ ?_
        rotate_left
        · intro w'
          go_simp
          with_reducible rfl
        rotate_left
        · simp only [Act.put, List.setIfInBounds_toArray, List.set_cons_zero, List.set_cons_succ]
          rfl
        refine pure_ (i := 11) (N := some 93) (v := ?_) (a' := ?_) #[true, true, true, true, true, true, true, true, true, true, true, true, false, false, false, false, false, false, false, false, false, false, false, false, false, false, false, false, false, false, false, false, false, false, false, false, false, false] rfl rfl (by kernel_rfl) (fun _ _ _ h => h) (Or.inl ⟨by rfl, ?_⟩) ?_ ?_
        rotate_left
        · intro w'
          go_simp
          with_reducible rfl
        rotate_left
        · simp only [Act.put, List.setIfInBounds_toArray, List.set_cons_zero, List.set_cons_succ]
          rfl
        refine pure_ (i := 12) (N := some 94) (v := ?_) (a' := ?_) #[true, true, true, true, true, true, true, true, true, true, true, true, true, false, false, false, false, false, false, false, false, false, false, false, false, false, false, false, false, false, false, false, false, false, false, false, false, false] rfl rfl (by kernel_rfl) (fun _ _ _ h => h) (Or.inl ⟨by rfl, ?_⟩) ?_ ?_
        rotate_left
        · intro w'
          go_simp
          with_reducible rfl
        rotate_left
        · simp only [Act.put, List.setIfInBounds_toArray, List.set_cons_zero, List.set_cons_succ]
          rfl
        refine pure_ (i := 13) (N := some 95) (v := ?_) (a' := ?_) #[true, true, true, true, true, true, true, true, true, true, true, true, true, true, false, false, false, false, false, false, false, false, false, false, false, false, false, false, false, false, false, false, false, false, false, false, false, false] rfl rfl (by kernel_rfl) (fun _ _ _ h => h) (Or.inl ⟨by rfl, ?_⟩) ?_ ?_
        rotate_left
        · intro w'
          go_simp
          with_reducible rfl
        rotate_left
        · simp only [Act.put, List.setIfInBounds_toArray, List.set_cons_zero, List.set_cons_succ]
          rfl
        refine pure_ (i := 14) (N := some 96) (v := ?_) (a' := ?_) #[true, true, true, true, true, true, true, true, true, true, true, true, true, true, true, false, false, false, false, false, false, false, false, false, false, false, false, false, false, false, false, false, false, false, false, false, false, false] rfl rfl (by kernel_rfl) (fun _ _ _ h => h) (Or.inl ⟨by rfl, ?_⟩) ?_ ?_
        rotate_left
        · intro w'
          go_simp
          with_reducible rfl
        rotate_left
        · simp only [Act.put, List.setIfInBounds_toArray, List.set_cons_zero, List.set_cons_succ]
          rfl
        refine pure_ (i := 15) (N := some 97) (v := ?_) (a' := ?_) #[true, true, true, true, true, true, true, true, true, true, true, true, true, true, true, true, false, false, false, false, false, false, false, false, false, false, false, false, false, false, false, false, false, false, false, false, false, false] rfl rfl (by kernel_rfl) (fun _ _ _ h => h) (Or.inl ⟨by rfl, ?_⟩) ?_ ?_
        rotate_left
        · intro w'
          go_simp
          with_reducible rfl
        rotate_left
        · simp only [Act.put, List.setIfInBounds_toArray, List.set_cons_zero, List.set_cons_succ]
          rfl
        refine pure_ (i := 16) (N := some 98) (v := ?_) (a' := ?_) #[true, true, true, true, true, true, true, true, true, true, true, true, true, true, true, true, true, false, false, false, false, false, false, false, false, false, false, false, false, false, false, false, false, false, false, false, false, false] rfl rfl (by kernel_rfl) (fun _ _ _ h => h) (Or.inl ⟨by rfl, ?_⟩) ?_ ?_
        rotate_left
        · intro w'
          go_simp
          with_reducible rfl
        rotate_left
        · simp only [Act.put, List.setIfInBounds_toArray, List.set_cons_zero, List.set_cons_succ]
          rfl
        refine pure_ (i := 17) (N := some 99) (v := ?_) (a' := ?_) #[true, true, true, true, true, true, true, true, true, true, true, true, true, true, true, true, true, true, false, false, false, false, false, false, false, false, false, false, false, false, false, false, false, false, false, false, false, false] rfl rfl (by kernel_rfl) (fun _ _ _ h => h) (Or.inl ⟨by rfl, ?_⟩) ?_ ?_
        rotate_left
        · intro w'
          go_simp
          with_reducible rfl
        rotate_left
        · simp only [Act.put, List.setIfInBounds_toArray, List.set_cons_zero, List.set_cons_succ]
          rfl
        refine pure_ (i := 18) (N := some 100) (v := ?_) (a' := ?_) #[true, true, true, true, true, true, true, true, true, true, true, true, true, true, true, true, true, true, true, false, false, false, false, false, false, false, false, false, false, false, false, false, false, false, false, false, false, false] rfl rfl (by kernel_rfl) (fun _ _ _ h => h) (Or.inl ⟨by rfl, ?_⟩) ?_ ?_
        rotate_left
        · intro w'
          go_simp
          with_reducible rfl
        rotate_left
        · simp only [Act.put, List.setIfInBounds_toArray, List.set_cons_zero, List.set_cons_succ]
          rfl
        refine pure_ (i := 19) (N := some 101) (v := ?_) (a' := ?_) #[true, true, true, true, true, true, true, true, true, true, true, true, true, true, true, true, true, true, true, true, false, false, false, false, false, false, false, false, false, false, false, false, false, false, false, false, false, false] rfl rfl (by kernel_rfl) (fun _ _ _ h => h) (Or.inl ⟨by rfl, ?_⟩) ?_ ?_
        rotate_left
        · intro w'
          go_simp
          with_reducible rfl
        rotate_left
        · simp only [Act.put, List.setIfInBounds_toArray, List.set_cons_zero, List.set_cons_succ]
          rfl
        refine pure_ (i := 20) (N := some 102) (v := ?_) (a' := ?_) #[true, true, true, true, true, true, true, true, true, true, true, true, true, true, true, true, true, true, true, true, true, false, false, false, false, false, false, false, false, false, false, false, false, false, false, false, false, false] rfl rfl (by kernel_rfl) (fun _ _ _ h => h) (Or.inl ⟨by rfl, ?_⟩) ?_ ?_
        rotate_left
        · intro w'
          go_simp
          with_reducible rfl
        rotate_left
        · simp only [Act.put, List.setIfInBounds_toArray, List.set_cons_zero, List.set_cons_succ]
          rfl
        refine pure_ (i := 21) (N := some 103) (v := ?_) (a' := ?_) #[true, true, true, true, true, true, true, true, true, true, true, true, true, true, true, true, true, true, true, true, true, true, false, false, false, false, false, false, false, false, false, false, false, false, false, false, false, false] rfl rfl (by kernel_rfl) (fun _ _ _ h => h) (Or.inl ⟨by rfl, ?_⟩) ?_ ?_
        rotate_left
        · intro w'
          go_simp
          with_reducible rfl
        rotate_left
        · simp only [Act.put, List.setIfInBounds_toArray, List.set_cons_zero, List.set_cons_succ]
          rfl
        refine pure_ (i := 22) (N := some 104) (v := undef) (a' := ?_) #[true, true, true, true, true, true, true, true, true, true, true, true, true, true, true, true, true, true, true, true, true, true, true, false, false, false, false, false, false, false, false, false, false, false, false, false, false, false] rfl rfl (by kernel_rfl) (fun _ _ _ h => h) (Or.inr ⟨by rfl, rfl⟩) ?_ ?_
        rotate_left
        · simp only [Act.put, List.setIfInBounds_toArray, List.set_cons_zero, List.set_cons_succ]
          rfl
        refine pure_ (i := 23) (N := some 105) (v := undef) (a' := ?_) #[true, true, true, true, true, true, true, true, true, true, true, true, true, true, true, true, true, true, true, true, true, true, true, true, false, false, false, false, false, false, false, false, false, false, false, false, false, false] rfl rfl (by kernel_rfl) (fun _ _ _ h => h) (Or.inr ⟨by rfl, rfl⟩) ?_ ?_
        rotate_left
        · simp only [Act.put, List.setIfInBounds_toArray, List.set_cons_zero, List.set_cons_succ]
          rfl
        refine pure_ (i := 24) (N := some 106) (v := undef) (a' := ?_) #[true, true, true, true, true, true, true, true, true, true, true, true, true, true, true, true, true, true, true, true, true, true, true, true, true, false, false, false, false, false, false, false, false, false, false, false, false, false] rfl rfl (by kernel_rfl) (fun _ _ _ h => h) (Or.inr ⟨by rfl, rfl⟩) ?_ ?_
        rotate_left
        · simp only [Act.put, List.setIfInBounds_toArray, List.set_cons_zero, List.set_cons_succ]
          rfl
        refine pure_ (i := 25) (N := some 107) (v := undef) (a' := ?_) #[true, true, true, true, true, true, true, true, true, true, true, true, true, true, true, true, true, true, true, true, true, true, true, true, true, true, false, false, false, false, false, false, false, false, false, false, false, false] rfl rfl (by kernel_rfl) (fun _ _ _ h => h) (Or.inr ⟨by rfl, rfl⟩) ?_ ?_
        rotate_left
        · simp only [Act.put, List.setIfInBounds_toArray, List.set_cons_zero, List.set_cons_succ]
          rfl
        refine pure_ (i := 26) (N := some 108) (v := undef) (a' := ?_) #[true, true, true, true, true, true, true, true, true, true, true, true, true, true, true, true, true, true, true, true, true, true, true, true, true, true, true, false, false, false, false, false, false, false, false, false, false, false] rfl rfl (by kernel_rfl) (fun _ _ _ h => h) (Or.inr ⟨by rfl, rfl⟩) ?_ ?_
        rotate_left
        · simp only [Act.put, List.setIfInBounds_toArray, List.set_cons_zero, List.set_cons_succ]
          rfl
        refine pure_ (i := 27) (N := some 109) (v := undef) (a' := ?_) #[true, true, true, true, true, true, true, true, true, true, true, true, true, true, true, true, true, true, true, true, true, true, true, true, true, true, true, true, false, false, false, false, false, false, false, false, false, false] rfl rfl (by kernel_rfl) (fun _ _ _ h => h) (Or.inr ⟨by rfl, rfl⟩) ?_ ?_
        rotate_left
        · simp only [Act.put, List.setIfInBounds_toArray, List.set_cons_zero, List.set_cons_succ]
          rfl
        refine pure_ (i := 28) (N := some 110) (v := undef) (a' := ?_) #[true, true, true, true, true, true, true, true, true, true, true, true, true, true, true, true, true, true, true, true, true, true, true, true, true, true, true, true, true, false, false, false, false, false, false, false, false, false] rfl rfl (by kernel_rfl) (fun _ _ _ h => h) (Or.inr ⟨by rfl, rfl⟩) ?_ ?_
        rotate_left
        · simp only [Act.put, List.setIfInBounds_toArray, List.set_cons_zero, List.set_cons_succ]
          rfl
        refine pure_ (i := 29) (N := some 111) (v := undef) (a' := ?_) #[true, true, true, true, true, true, true, true, true, true, true, true, true, true, true, true, true, true, true, true, true, true, true, true, true, true, true, true, true, true, false, false, false, false, false, false, false, false] rfl rfl (by kernel_rfl) (fun _ _ _ h => h) (Or.inr ⟨by rfl, rfl⟩) ?_ ?_
        rotate_left
        · simp only [Act.put, List.setIfInBounds_toArray, List.set_cons_zero, List.set_cons_succ]
          rfl
        refine pure_ (i := 30) (N := some 112) (v := undef) (a' := ?_) #[true, true, true, true, true, true, true, true, true, true, true, true, true, true, true, true, true, true, true, true, true, true, true, true, true, true, true, true, true, true, true, false, false, false, false, false, false, false] rfl rfl (by kernel_rfl) (fun _ _ _ h => h) (Or.inr ⟨by rfl, rfl⟩) ?_ ?_
        rotate_left
        · simp only [Act.put, List.setIfInBounds_toArray, List.set_cons_zero, List.set_cons_succ]
          rfl
        refine pure_ (i := 31) (N := some 113) (v := undef) (a' := ?_) #[true, true, true, true, true, true, true, true, true, true, true, true, true, true, true, true, true, true, true, true, true, true, true, true, true, true, true, true, true, true, true, true, false, false, false, false, false, false] rfl rfl (by kernel_rfl) (fun _ _ _ h => h) (Or.inr ⟨by rfl, rfl⟩) ?_ ?_
        rotate_left
        · simp only [Act.put, List.setIfInBounds_toArray, List.set_cons_zero, List.set_cons_succ]
          rfl
        refine pure_ (i := 32) (N := some 114) (v := undef) (a' := ?_) #[true, true, true, true, true, true, true, true, true, true, true, true, true, true, true, true, true, true, true, true, true, true, true, true, true, true, true, true, true, true, true, true, true, false, false, false, false, false] rfl rfl (by kernel_rfl) (fun _ _ _ h => h) (Or.inr ⟨by rfl, rfl⟩) ?_ ?_
        rotate_left
        · simp only [Act.put, List.setIfInBounds_toArray, List.set_cons_zero, List.set_cons_succ]
          rfl
        refine pure_ (i := 33) (N := some 115) (v := undef) (a' := ?_) #[true, true, true, true, true, true, true, true, true, true, true, true, true, true, true, true, true, true, true, true, true, true, true, true, true, true, true, true, true, true, true, true, true, true, false, false, false, false] rfl rfl (by kernel_rfl) (fun _ _ _ h => h) (Or.inr ⟨by rfl, rfl⟩) ?_ ?_
        rotate_left
        · simp only [Act.put, List.setIfInBounds_toArray, List.set_cons_zero, List.set_cons_succ]
          rfl
        refine pure_ (i := 34) (N := some 116) (v := undef) (a' := ?_) #[true, true, true, true, true, true, true, true, true, true, true, true, true, true, true, true, true, true, true, true, true, true, true, true, true, true, true, true, true, true, true, true, true, true, true, false, false, false] rfl rfl (by kernel_rfl) (fun _ _ _ h => h) (Or.inr ⟨by rfl, rfl⟩) ?_ ?_
        rotate_left
        · simp only [Act.put, List.setIfInBounds_toArray, List.set_cons_zero, List.set_cons_succ]
          rfl
        refine pure_ (i := 35) (N := some 117) (v := ?_) (a' := ?_) #[true, true, true, true, true, true, true, true, true, true, true, true, true, true, true, true, true, true, true, true, true, true, true, true, true, true, true, true, true, true, true, true, true, true, true, true, false, false] rfl rfl (by kernel_rfl) (fun _ _ _ h => h) (Or.inl ⟨by rfl, ?_⟩) ?_ ?_
        rotate_left
        · intro w'
          go_simp
          with_reducible rfl
        rotate_left
        · simp only [Act.put, List.setIfInBounds_toArray, List.set_cons_zero, List.set_cons_succ]
          rfl
        refine pure_ (i := 36) (N := some 118) (v := ?_) (a' := ?_) #[true, true, true, true, true, true, true, true, true, true, true, true, true, true, true, true, true, true, true, true, true, true, true, true, true, true, true, true, true, true, true, true, true, true, true, true, true, false] rfl rfl (by kernel_rfl) (fun _ _ _ h => h) (Or.inl ⟨by rfl, ?_⟩) ?_ ?_
        rotate_left
        · intro w'
          go_simp
          with_reducible rfl
        rotate_left
        · simp only [Act.put, List.setIfInBounds_toArray, List.set_cons_zero, List.set_cons_succ]
          rfl
        refine pure_ (i := 37) (N := some 4) (v := ?_) (a' := ?_) #[true, true, true, true, true, true, true, true, true, true, true, true, true, true, true, true, true, true, true, true, true, true, true, true, true, true, true, true, true, true, true, true, true, true, true, true, true, true] rfl rfl (by kernel_rfl) (fun _ _ _ h => h) (Or.inl ⟨by rfl, ?_⟩) ?_ ?_
        rotate_left
        · intro w'
          go_simp
          with_reducible rfl
        rotate_left
        · simp only [Act.put, List.setIfInBounds_toArray, List.set_cons_zero, List.set_cons_succ]
          rfl
        refine done_ (n := 0) (by kernel_rfl) ?_
        go_wp2
        go_ret
        exact ⟨rfl, below_step HB4.out hHeld⟩
      · have hnb : (n == 0) = false := beq_eq_false_iff_ne.2 hn0
        obtain ⟨l, hl⟩ := HLAST.out (by omega)
        obtain ⟨iL, hiL⟩ : ∃ iL : Int, iL = (L.length : Int) - 1 := ⟨_, rfl⟩
        have hz32 := HLN.out
        have hll : L.length = l.length + 1 := by rw [hl, List.length_append, List.length_singleton]
        have hU : (rd_T49 L iL).f1 = (rd_T44 z n).f1 := by
          unfold rd_T49
          rw [show iL.toNat = l.length by omega, hl, List.getD_eq_getElem?_getD, List.getElem?_append_right (Nat.le_refl _), Nat.sub_self]
          rfl
        have hw1 : IntKind.i64.wrap ((L.length : Int) - 1) = iL := (i64_w _).trans (by unfold wrap64; omega)
        have hw2 : wrap64 ((L.length : Int) - 1) = iL := by unfold wrap64; omega
        have r1 : (0 ≤ iL) = True := eq_true (by omega)
        have r2 : (iL < (L.length : Int)) = True := eq_true (by omega)
        have r3 : (0 ≤ n) = True := eq_true hn.1
        have r4 : (n < (z.length : Int)) = True := eq_true hn.2
        obtain ⟨adl, B1, b1, eL, -, hcl, -, hkl, hgl⟩ := at_T49 HC4.out iL (by omega) (by omega)
        obtain ⟨ad, D1, d1, D3, d3, D4, d4, eA, -, hcz, -, -, -, hkz, hgz, -, -, -, -⟩ := at_T44 (Kd.C_below HC.out HB4.out) n hn.1 hn.2
        have hun := HGD.out.1
        rw [hU] at hcl hkl hgl
        generalize (rd_T44 z n).f1 = U at *
        cases eL
        cases eA
        have HSM := Aside0.mk (fun (W : World) (hb : Below w4.heap.size w4 W) => tinderref03_Same.calls 35184372088833 B1 b1 U D1 d1 U true W (Kd.C_below hgl hb) hkl (Kd.C_below hgz hb) hkz (by rw [same3_eq U U (by omega) _ (by omega), decide_eq_true rfl]))
        clear hz32 hln2 hn hn0 hl hiL hll hU hkl hgl hkz hgz hun
        refine start_ (n := 38) (S := fun w' => w'.cell? ⟨(adl.add (iL.toNat * 3)).block, (adl.add (iL.toNat * 3)).off + 1, none⟩ = some (.slice B1 U.length b1) ∧ w'.cell? ⟨(ad.add (n.toNat * 5)).block, (ad.add (n.toNat * 5)).off + 1, none⟩ = some (.slice D1 U.length d1) ∧ Below w4.heap.size w4 w') (ds := []) #[false, false, false, false, false, false, false, false, false, false, false, false, false, false, false, false, false, false, false, false, false, false, false, false, false, false, false, false, false, false, false, false, false, false, false, false, false, false] (by kernel_rfl) rfl rfl ⟨hcl, hcz, below_drew1 (Below.refl w4.heap.size w4)⟩ (fun hHeld => ?_)
        refine pure_ (i := 0) (N := some 82) (v := ?_) (a' := ?_) #[true, false, false, false, false, false, false, false, false, false, false, false, false, false, false, false, false, false, false, false, false, false, false, false, false, false, false, false, false, false, false, false, false, false, false, false, false, false] rfl rfl (by kernel_rfl) (fun _ _ _ h => h) (Or.inl ⟨by rfl, ?_⟩) ?_ ?_
        rotate_left
        · intro w'
          go_simp
          with_reducible rfl
        rotate_left
        · simp only [Act.put, List.setIfInBounds_toArray, List.set_cons_zero, List.set_cons_succ]
          rfl
        refine pure_ (i := 1) (N := some 83) (v := ?_) (a' := ?_) #[true, true, false, false, false, false, false, false, false, false, false, false, false, false, false, false, false, false, false, false, false, false, false, false, false, false, false, false, false, false, false, false, false, false, false, false, false, false] rfl rfl (by kernel_rfl) (fun _ _ _ h => h) (Or.inl ⟨by rfl, ?_⟩) ?_ ?_
        rotate_left
        · intro w'
          go_simp
          with_reducible rfl
        rotate_left
        · simp only [Act.put, List.setIfInBounds_toArray, List.set_cons_zero, List.set_cons_succ]
          rfl
        refine pure_ (i := 2) (N := some 84) (v := ?_) (a' := ?_) #[true, true, true, false, false, false, false, false, false, false, false, false, false, false, false, false, false, false, false, false, false, false, false, false, false, false, false, false, false, false, false, false, false, false, false, false, false, false] rfl rfl (by kernel_rfl) (fun _ _ _ h => h) (Or.inl ⟨by rfl, ?_⟩) ?_ ?_
        rotate_left
        · intro w'
          go_simp
          with_reducible rfl
        rotate_left
        · simp only [Act.put, List.setIfInBounds_toArray, List.set_cons_zero, List.set_cons_succ]
          rfl
        refine pure_ (i := 3) (N := some 85) (v := ?_) (a' := ?_) #[true, true, true, true, false, false, false, false, false, false, false, false, false, false, false, false, false, false, false, false, false, false, false, false, false, false, false, false, false, false, false, false, false, false, false, false, false, false] rfl rfl (by kernel_rfl) (fun _ _ _ h => h) (Or.inl ⟨by rfl, ?_⟩) ?_ ?_
        rotate_left
        · intro w'
          go_simp
          with_reducible rfl
        rotate_left
        · simp only [Act.put, List.setIfInBounds_toArray, List.set_cons_zero, List.set_cons_succ]
          rfl
        refine pure_ (i := 4) (N := some 86) (v := ?_) (a' := ?_) #[true, true, true, true, true, false, false, false, false, false, false, false, false, false, false, false, false, false, false, false, false, false, false, false, false, false, false, false, false, false, false, false, false, false, false, false, false, false] rfl rfl (by kernel_rfl) (fun _ _ _ h => h) (Or.inl ⟨by rfl, ?_⟩) ?_ ?_
        rotate_left
        · intro w'
          go_simp
          with_reducible rfl
        rotate_left
        · simp only [Act.put, List.setIfInBounds_toArray, List.set_cons_zero, List.set_cons_succ]
          rfl
        refine pure_ (i := 5) (N := some 87) (v := ?_) (a' := ?_) #[true, true, true, true, true, true, false, false, false, false, false, false, false, false, false, false, false, false, false, false, false, false, false, false, false, false, false, false, false, false, false, false, false, false, false, false, false, false] rfl rfl (by kernel_rfl) (fun _ _ _ h => h) (Or.inl ⟨by rfl, ?_⟩) ?_ ?_
        rotate_left
        · intro w'
          go_simp
          with_reducible rfl
        rotate_left
        · simp only [Act.put, List.setIfInBounds_toArray, List.set_cons_zero, List.set_cons_succ]
          rfl
        refine pure_ (i := 6) (N := some 88) (v := ?_) (a' := ?_) #[true, true, true, true, true, true, true, false, false, false, false, false, false, false, false, false, false, false, false, false, false, false, false, false, false, false, false, false, false, false, false, false, false, false, false, false, false, false] rfl rfl (by kernel_rfl) (fun _ _ _ h => h) (Or.inl ⟨by rfl, ?_⟩) ?_ ?_
        rotate_left
        · intro w'
          go_simp
          with_reducible rfl
        rotate_left
        · simp only [Act.put, List.setIfInBounds_toArray, List.set_cons_zero, List.set_cons_succ]
          rfl
        refine pure_ (i := 7) (N := some 89) (v := ?_) (a' := ?_) #[true, true, true, true, true, true, true, true, false, false, false, false, false, false, false, false, false, false, false, false, false, false, false, false, false, false, false, false, false, false, false, false, false, false, false, false, false, false] rfl rfl (by kernel_rfl) (fun _ _ _ h => h) (Or.inl ⟨by rfl, ?_⟩) ?_ ?_
        rotate_left
        · intro w'
          go_simp
          with_reducible rfl
        rotate_left
        · simp only [Act.put, List.setIfInBounds_toArray, List.set_cons_zero, List.set_cons_succ]
          rfl
        refine pure_ (i := 8) (N := some 90) (v := ?_) (a' := ?_) #[true, true, true, true, true, true, true, true, true, false, false, false, false, false, false, false, false, false, false, false, false, false, false, false, false, false, false, false, false, false, false, false, false, false, false, false, false, false] rfl rfl (by kernel_rfl) (fun _ _ _ h => h) (Or.inl ⟨by rfl, ?_⟩) ?_ ?_
        rotate_left
        · intro w'
          go_simp
          with_reducible rfl
        rotate_left
        · simp only [Act.put, List.setIfInBounds_toArray, List.set_cons_zero, List.set_cons_succ]
          rfl
        refine pure_ (i := 9) (N := some 91) (v := ?_) (a' := ?_) #[true, true, true, true, true, true, true, true, true, true, false, false, false, false, false, false, false, false, false, false, false, false, false, false, false, false, false, false, false, false, false, false, false, false, false, false, false, false] rfl rfl (by kernel_rfl) (fun _ _ _ h => h) (Or.inl ⟨by rfl, ?_⟩) ?_ ?_
        rotate_left
        · intro w'
          go_simp
          with_reducible rfl
        rotate_left
        · simp only [Act.put, List.setIfInBounds_toArray, List.set_cons_zero, List.set_cons_succ]
          rfl
        refine pure_ (i := 10) (N := some 92) (v := ?_) (a' := ?_) #[true, true, true, true, true, true, true, true, true, true, true, false, false, false, false, false, false, false, false, false, false, false, false, false, false, false, false, false, false, false, false, false, false, false, false, false, false, false] rfl rfl (by kernel_rfl) (fun _ _ _ h => h) (Or.inl ⟨by rfl, ?_⟩) ?_ ?_
        rotate_left
        · intro w'
          go_simp
          with_reducible rfl
        rotate_left
        · simp only [Act.put, List.setIfInBounds_toArray, List.set_cons_zero, List.set_cons_succ]
          rfl
        refine pure_ (i := 11) (N := some 93) (v := ?_) (a' := ?_) #[true, true, true, true, true, true, true, true, true, true, true, true, false, false, false, false, false, false, false, false, false, false, false, false, false, false, false, false, false, false, false, false, false, false, false, false, false, false] rfl rfl (by kernel_rfl) (fun _ _ _ h => h) (Or.inl ⟨by rfl, ?_⟩) ?_ ?_
        rotate_left
        · intro w'
          go_simp
          with_reducible rfl
        rotate_left
        · simp only [Act.put, List.setIfInBounds_toArray, List.set_cons_zero, List.set_cons_succ]
          rfl
        refine pure_ (i := 12) (N := some 94) (v := ?_) (a' := ?_) #[true, true, true, true, true, true, true, true, true, true, true, true, true, false, false, false, false, false, false, false, false, false, false, false, false, false, false, false, false, false, false, false, false, false, false, false, false, false] rfl rfl (by kernel_rfl) (fun _ _ _ h => h) (Or.inl ⟨by rfl, ?_⟩) ?_ ?_
        rotate_left
        · intro w'
          go_simp
          with_reducible rfl
        rotate_left
        · simp only [Act.put, List.setIfInBounds_toArray, List.set_cons_zero, List.set_cons_succ]
          rfl
        refine pure_ (i := 13) (N := some 95) (v := ?_) (a' := ?_) #[true, true, true, true, true, true, true, true, true, true, true, true, true, true, false, false, false, false, false, false, false, false, false, false, false, false, false, false, false, false, false, false, false, false, false, false, false, false] rfl rfl (by kernel_rfl) (fun _ _ _ h => h) (Or.inl ⟨by rfl, ?_⟩) ?_ ?_
        rotate_left
        · intro w'
          go_simp
          with_reducible rfl
        rotate_left
        · simp only [Act.put, List.setIfInBounds_toArray, List.set_cons_zero, List.set_cons_succ]
          rfl
        refine pure_ (i := 14) (N := some 96) (v := ?_) (a' := ?_) #[true, true, true, true, true, true, true, true, true, true, true, true, true, true, true, false, false, false, false, false, false, false, false, false, false, false, false, false, false, false, false, false, false, false, false, false, false, false] rfl rfl (by kernel_rfl) (fun _ _ _ h => h) (Or.inl ⟨by rfl, ?_⟩) ?_ ?_
        rotate_left
        · intro w'
          go_simp
          with_reducible rfl
        rotate_left
        · simp only [Act.put, List.setIfInBounds_toArray, List.set_cons_zero, List.set_cons_succ]
          rfl
        refine pure_ (i := 15) (N := some 97) (v := ?_) (a' := ?_) #[true, true, true, true, true, true, true, true, true, true, true, true, true, true, true, true, false, false, false, false, false, false, false, false, false, false, false, false, false, false, false, false, false, false, false, false, false, false] rfl rfl (by kernel_rfl) (fun _ _ _ h => h) (Or.inl ⟨by rfl, ?_⟩) ?_ ?_
        rotate_left
        · intro w'
          go_simp
          with_reducible rfl
        rotate_left
        · simp only [Act.put, List.setIfInBounds_toArray, List.set_cons_zero, List.set_cons_succ]
          rfl
        refine pure_ (i := 16) (N := some 98) (v := ?_) (a' := ?_) #[true, true, true, true, true, true, true, true, true, true, true, true, true, true, true, true, true, false, false, false, false, false, false, false, false, false, false, false, false, false, false, false, false, false, false, false, false, false] rfl rfl (by kernel_rfl) (fun _ _ _ h => h) (Or.inl ⟨by rfl, ?_⟩) ?_ ?_
        rotate_left
        · intro w'
          go_simp
          with_reducible rfl
        rotate_left
        · simp only [Act.put, List.setIfInBounds_toArray, List.set_cons_zero, List.set_cons_succ]
          rfl
        refine pure_ (i := 17) (N := some 99) (v := ?_) (a' := ?_) #[true, true, true, true, true, true, true, true, true, true, true, true, true, true, true, true, true, true, false, false, false, false, false, false, false, false, false, false, false, false, false, false, false, false, false, false, false, false] rfl rfl (by kernel_rfl) (fun _ _ _ h => h) (Or.inl ⟨by rfl, ?_⟩) ?_ ?_
        rotate_left
        · intro w'
          go_simp
          with_reducible rfl
        rotate_left
        · simp only [Act.put, List.setIfInBounds_toArray, List.set_cons_zero, List.set_cons_succ]
          rfl
        refine pure_ (i := 18) (N := some 100) (v := ?_) (a' := ?_) #[true, true, true, true, true, true, true, true, true, true, true, true, true, true, true, true, true, true, true, false, false, false, false, false, false, false, false, false, false, false, false, false, false, false, false, false, false, false] rfl rfl (by kernel_rfl) (fun _ _ _ h => h) (Or.inl ⟨by rfl, ?_⟩) ?_ ?_
        rotate_left
        · intro w'
          go_simp
          with_reducible rfl
        rotate_left
        · simp only [Act.put, List.setIfInBounds_toArray, List.set_cons_zero, List.set_cons_succ]
          rfl
        refine pure_ (i := 19) (N := some 101) (v := ?_) (a' := ?_) #[true, true, true, true, true, true, true, true, true, true, true, true, true, true, true, true, true, true, true, true, false, false, false, false, false, false, false, false, false, false, false, false, false, false, false, false, false, false] rfl rfl (by kernel_rfl) (fun _ _ _ h => h) (Or.inl ⟨by rfl, ?_⟩) ?_ ?_
        rotate_left
        · intro w'
          go_simp
          with_reducible rfl
        rotate_left
        · simp only [Act.put, List.setIfInBounds_toArray, List.set_cons_zero, List.set_cons_succ]
          rfl
        refine pure_ (i := 20) (N := some 102) (v := ?_) (a' := ?_) #[true, true, true, true, true, true, true, true, true, true, true, true, true, true, true, true, true, true, true, true, true, false, false, false, false, false, false, false, false, false, false, false, false, false, false, false, false, false] rfl rfl (by kernel_rfl) (fun _ _ _ h => h) (Or.inl ⟨by rfl, ?_⟩) ?_ ?_
        rotate_left
        · intro w'
          go_simp
          with_reducible rfl
        rotate_left
        · simp only [Act.put, List.setIfInBounds_toArray, List.set_cons_zero, List.set_cons_succ]
          rfl
        refine pure_ (i := 21) (N := some 103) (v := ?_) (a' := ?_) #[true, true, true, true, true, true, true, true, true, true, true, true, true, true, true, true, true, true, true, true, true, true, false, false, false, false, false, false, false, false, false, false, false, false, false, false, false, false] rfl rfl (by kernel_rfl) (fun _ _ _ h => h) (Or.inl ⟨by rfl, ?_⟩) ?_ ?_
        rotate_left
        · intro w'
          go_simp
          with_reducible rfl
        rotate_left
        · simp only [Act.put, List.setIfInBounds_toArray, List.set_cons_zero, List.set_cons_succ]
          rfl
        refine pure_ (i := 22) (N := some 104) (v := ?_) (a' := ?_) #[true, true, true, true, true, true, true, true, true, true, true, true, true, true, true, true, true, true, true, true, true, true, true, false, false, false, false, false, false, false, false, false, false, false, false, false, false, false] rfl rfl (by kernel_rfl) (fun _ _ _ h => h) (Or.inl ⟨by rfl, ?_⟩) ?_ ?_
        rotate_left
        · intro w'
          go_simp
          with_reducible rfl
        rotate_left
        · simp only [Act.put, List.setIfInBounds_toArray, List.set_cons_zero, List.set_cons_succ]
          rfl
        refine pure_ (i := 23) (N := some 105) (v := ?_) (a' := ?_) #[true, true, true, true, true, true, true, true, true, true, true, true, true, true, true, true, true, true, true, true, true, true, true, true, false, false, false, false, false, false, false, false, false, false, false, false, false, false] rfl rfl (by kernel_rfl) (fun _ _ _ h => h) (Or.inl ⟨by rfl, ?_⟩) ?_ ?_
        rotate_left
        · intro w'
          go_simp
          with_reducible rfl
        rotate_left
        · simp only [Act.put, List.setIfInBounds_toArray, List.set_cons_zero, List.set_cons_succ]
          rfl
        refine pure_ (i := 24) (N := some 106) (v := ?_) (a' := ?_) #[true, true, true, true, true, true, true, true, true, true, true, true, true, true, true, true, true, true, true, true, true, true, true, true, true, false, false, false, false, false, false, false, false, false, false, false, false, false] rfl rfl (by kernel_rfl) (fun _ _ _ h => h) (Or.inl ⟨by rfl, ?_⟩) ?_ ?_
        rotate_left
        · intro w'
          go_simp
          with_reducible rfl
        rotate_left
        · simp only [Act.put, List.setIfInBounds_toArray, List.set_cons_zero, List.set_cons_succ]
          rfl
        refine pure_ (i := 25) (N := some 107) (v := ?_) (a' := ?_) #[true, true, true, true, true, true, true, true, true, true, true, true, true, true, true, true, true, true, true, true, true, true, true, true, true, true, false, false, false, false, false, false, false, false, false, false, false, false] rfl rfl (by kernel_rfl) (fun _ _ _ h => h) (Or.inl ⟨by rfl, ?_⟩) ?_ ?_
        rotate_left
        · intro w'
          go_simp
          with_reducible rfl
        rotate_left
        · simp only [Act.put, List.setIfInBounds_toArray, List.set_cons_zero, List.set_cons_succ]
          rfl
        refine pure_ (i := 26) (N := some 108) (v := ?_) (a' := ?_) #[true, true, true, true, true, true, true, true, true, true, true, true, true, true, true, true, true, true, true, true, true, true, true, true, true, true, true, false, false, false, false, false, false, false, false, false, false, false] rfl rfl (by kernel_rfl) (fun _ _ _ h => h) (Or.inl ⟨by rfl, ?_⟩) ?_ ?_
        rotate_left
        · intro w'
          go_simp
          with_reducible rfl
        rotate_left
        · simp only [Act.put, List.setIfInBounds_toArray, List.set_cons_zero, List.set_cons_succ]
          rfl
        refine pure_ (i := 27) (N := some 109) (v := ?_) (a' := ?_) #[true, true, true, true, true, true, true, true, true, true, true, true, true, true, true, true, true, true, true, true, true, true, true, true, true, true, true, true, false, false, false, false, false, false, false, false, false, false] rfl rfl (by kernel_rfl) (fun _ _ _ h => h) (Or.inl ⟨by rfl, ?_⟩) ?_ ?_
        rotate_left
        · intro w'
          go_simp
          with_reducible rfl
        rotate_left
        · simp only [Act.put, List.setIfInBounds_toArray, List.set_cons_zero, List.set_cons_succ]
          rfl
        refine pure_ (i := 29) (N := some 111) (v := ?_) (a' := ?_) #[true, true, true, true, true, true, true, true, true, true, true, true, true, true, true, true, true, true, true, true, true, true, true, true, true, true, true, true, false, true, false, false, false, false, false, false, false, false] rfl rfl (by kernel_rfl) (fun _ _ _ h => h) (Or.inl ⟨by rfl, ?_⟩) ?_ ?_
        rotate_left
        · intro w'
          go_simp
          with_reducible rfl
        rotate_left
        · simp only [Act.put, List.setIfInBounds_toArray, List.set_cons_zero, List.set_cons_succ]
          rfl
        refine pure_ (i := 30) (N := some 112) (v := ?_) (a' := ?_) #[true, true, true, true, true, true, true, true, true, true, true, true, true, true, true, true, true, true, true, true, true, true, true, true, true, true, true, true, false, true, true, false, false, false, false, false, false, false] rfl rfl (by kernel_rfl) (fun _ _ _ h => h) (Or.inl ⟨by rfl, ?_⟩) ?_ ?_
        rotate_left
        · intro w'
          go_simp
          with_reducible rfl
        rotate_left
        · simp only [Act.put, List.setIfInBounds_toArray, List.set_cons_zero, List.set_cons_succ]
          rfl
        refine pure_ (i := 31) (N := some 113) (v := ?_) (a' := ?_) #[true, true, true, true, true, true, true, true, true, true, true, true, true, true, true, true, true, true, true, true, true, true, true, true, true, true, true, true, false, true, true, true, false, false, false, false, false, false] rfl rfl (by kernel_rfl) (fun _ _ _ h => h) (Or.inl ⟨by rfl, ?_⟩) ?_ ?_
        rotate_left
        · intro w'
          go_simp
          with_reducible rfl
        rotate_left
        · simp only [Act.put, List.setIfInBounds_toArray, List.set_cons_zero, List.set_cons_succ]
          rfl
        refine pure_ (i := 32) (N := some 114) (v := ?_) (a' := ?_) #[true, true, true, true, true, true, true, true, true, true, true, true, true, true, true, true, true, true, true, true, true, true, true, true, true, true, true, true, false, true, true, true, true, false, false, false, false, false] rfl rfl (by kernel_rfl) (fun _ _ _ h => h) (Or.inl ⟨by rfl, ?_⟩) ?_ ?_
        rotate_left
        · intro w'
          go_simp
          with_reducible rfl
        rotate_left
        · simp only [Act.put, List.setIfInBounds_toArray, List.set_cons_zero, List.set_cons_succ]
          rfl
        refine take_ (i := 28) (N := some 110) (v := (.slice B1 U.length b1)) (a' := ?_) #[true, true, true, true, true, true, true, true, true, true, true, true, true, true, true, true, true, true, true, true, true, true, true, true, true, true, true, true, true, true, true, true, true, false, false, false, false, false] rfl rfl (by kernel_rfl) (fun _ _ _ h => h) (Or.inl ⟨by rfl, ?_⟩) hHeld ?_ ?_
        rotate_left
        rotate_left
        · simp only [Act.put, List.setIfInBounds_toArray, List.set_cons_zero, List.set_cons_succ]
          rfl
        rotate_left
        · rintro w' ⟨s0, s1, s2⟩
          go_simp
        refine take_ (i := 33) (N := some 115) (v := (.slice D1 U.length d1)) (a' := ?_) #[true, true, true, true, true, true, true, true, true, true, true, true, true, true, true, true, true, true, true, true, true, true, true, true, true, true, true, true, true, true, true, true, true, true, false, false, false, false] rfl rfl (by kernel_rfl) (fun _ _ _ h => h) (Or.inl ⟨by rfl, ?_⟩) hHeld ?_ ?_
        rotate_left
        rotate_left
        · simp only [Act.put, List.setIfInBounds_toArray, List.set_cons_zero, List.set_cons_succ]
          rfl
        rotate_left
        · rintro w' ⟨s0, s1, s2⟩
          go_simp
        refine one_ (i := 34) (N := some 116) #[true, true, true, true, true, true, true, true, true, true, true, true, true, true, true, true, true, true, true, true, true, true, true, true, true, true, true, true, true, true, true, true, true, true, true, false, false, false] rfl rfl (by kernel_rfl) (by decide) (fun K hK => ?_)
        refine goes_ Tryd.func26 (by kernel_rfl) rfl #[.slice B1 U.length b1, .slice D1 U.length d1] (by rfl) rfl rfl (by first | rfl | (simp only [List.map_toArray, List.map_cons, List.map_nil]; rfl)) ?_
        refine (HSM.out _ hHeld.2.2).mono ?_
        rintro e w5 ⟨rfl, hd⟩
        have hb := hd.below
        refine ⟨_, rfl, hK.out _ _ ⟨(hb.cell (World.block_lt_of_cell? _ _ hHeld.1)).trans hHeld.1, (hb.cell (World.block_lt_of_cell? _ _ hHeld.2.1)).trans hHeld.2.1, below_step hHeld.2.2 hb⟩ (fun hHeld => ?_)⟩
        clear hd hb
        clear hK K
        simp only [Act.put, List.setIfInBounds_toArray, List.set_cons_zero, List.set_cons_succ]
        refine pure_ (i := 35) (N := some 117) (v := ?_) (a' := ?_) #[true, true, true, true, true, true, true, true, true, true, true, true, true, true, true, true, true, true, true, true, true, true, true, true, true, true, true, true, true, true, true, true, true, true, true, true, false, false] rfl rfl (by kernel_rfl) (fun _ _ _ h => h) (Or.inl ⟨by rfl, ?_⟩) ?_ ?_
        rotate_left
        · intro w'
          go_simp
          with_reducible rfl
        rotate_left
        · simp only [Act.put, List.setIfInBounds_toArray, List.set_cons_zero, List.set_cons_succ]
          rfl
        refine pure_ (i := 36) (N := some 118) (v := ?_) (a' := ?_) #[true, true, true, true, true, true, true, true, true, true, true, true, true, true, true, true, true, true, true, true, true, true, true, true, true, true, true, true, true, true, true, true, true, true, true, true, true, false] rfl rfl (by kernel_rfl) (fun _ _ _ h => h) (Or.inl ⟨by rfl, ?_⟩) ?_ ?_
        rotate_left
        · intro w'
          go_simp
          with_reducible rfl
        rotate_left
        · simp only [Act.put, List.setIfInBounds_toArray, List.set_cons_zero, List.set_cons_succ]
          rfl
        refine pure_ (i := 37) (N := some 4) (v := ?_) (a' := ?_) #[true, true, true, true, true, true, true, true, true, true, true, true, true, true, true, true, true, true, true, true, true, true, true, true, true, true, true, true, true, true, true, true, true, true, true, true, true, true] rfl rfl (by kernel_rfl) (fun _ _ _ h => h) (Or.inl ⟨by rfl, ?_⟩) ?_ ?_
        rotate_left
        · intro w'
          go_simp
          with_reducible rfl
        rotate_left
        · simp only [Act.put, List.setIfInBounds_toArray, List.set_cons_zero, List.set_cons_succ]
          rfl
        refine done_ (n := 0) (by kernel_rfl) ?_
        go_wp2
        go_ret
        exact ⟨rfl, below_step HB4.out hHeld.2.2⟩
theorem treeBack_row {w : World} (ht : QB.Tabs w) (A : Option Addr) (c : Nat) (z : List S44) (hC : Kd.C k44 w A z.length z) (hc : z.length ≤ c) (hg : TreeG z) (n : Int) (hn : (Lit.int .i64 n).wf = true) :
    Calls Tryd.prog 6 #[.slice A z.length c, .int .i64 n] w fun e w' => e = .returned (.bool true) ∧ Below w.heap.size w w' := by
  obtain ⟨e, he⟩ := check_some z n
  by_cases h0 : e = 0
  · subst h0
    by_cases h1 : (showP (upF z n.toNat n).reverse).2 = 0
    · exact treeBack_good ht A c z hC hc hg n he h1
    · have h2 := (show_err _ h1).1
      have hp := path_ok8 (tree_u32 hg) he
      refine treeBack_bad ht A c z hC hc n _ ?_ h1
      rw [hp, ← h2]
  · exact treeBack_bad ht A c z hC hc n e (path_bad8 he h0) h0
end Go.Proofs.YtnalcjgefbelnaaDoor.Q
end
section
namespace Go.Proofs.YtnalcjgefbelnaaDoor.Q
open Go.RowKit Go.Proofs.YtnalcjgefbelnaaDoorW.PrintWords Go.Proofs.YtnalcjgefbelnaaDoorW.PrintLast Go.Proofs.YtnalcjgefbelnaaDoorW.PrintMore
def Opens {α : Type} (P : Program) (t : TypeId) (d : Kd α) (G : α → Prop) : Prop :=
  ∀ (H : Type) (enc : TypeId × Value → H) (W : World) (fuel : Nat) (cs : List Value) (x : DataW H × List MemPlace), DataW.trod enc P W 0 (fun _ => true) true fuel t cs = some x → (∀ n ∈ x.1.weights P t, n ≤ reachBytes) → ∃ a, d.K W a cs ∧ G a
section
variable {P : Program} {t e : TypeId}
theorem opens_int {k : IntKind} (ht : P.underlying t = some (.int k)) : Opens P t (Kd.int k) (fun n => (Lit.int k n).wf = true) := by
  intro H enc W fuel cs x h _
  obtain ⟨n, rfl, _, hw⟩ := DataW.trod_int ht h
  exact ⟨n, rfl, hw⟩
theorem opens_string (ht : P.underlying t = some .string) : Opens P t Kd.string (fun s => s.size ≤ 140737488351232) := by
  intro H enc W fuel cs x h hw
  obtain ⟨s, rfl, rfl, _⟩ := DataW.trod_string ht h
  have := hw s.data.toList.length (by simp [DataW.weights])
  exact ⟨s, rfl, by simpa [reachBytes] using this⟩
theorem weights_all {H : Type} {P : Program} {e : TypeId} : ∀ {l : List (DataW H)} {d : DataW H}, d ∈ l → ∀ n ∈ d.weights P e, n ∈ DataW.weightsAll P e l
  | d0 :: l, d, hd, n, hn => by
    simp only [DataW.weightsAll, List.mem_append]
    rcases List.mem_cons.1 hd with rfl | hd
    · exact .inl hn
    · exact .inr (weights_all hd n hn)
theorem cells_get {W : World} {base : Nat} {a : Addr} {n : Nat} {c : List Value} (h : W.cells? base a n = some c) : c.length = n ∧ ∀ i u, c[i]? = some u → W.cell? (a.add i) = some u := by
  unfold World.cells? at h
  split at h
  · have hl := mapM_some_length h
    refine ⟨by simpa using hl, fun i u hu => ?_⟩
    have hi : i < n := by
      have := (List.getElem?_eq_some_iff.1 hu).1
      simp at hl
      omega
    have := mapM_some_get h i i (by simp [hi])
    rw [this, hu]
  · cases h
theorem opens_slice {α : Type} {d : Kd α} {G : α → Prop} (ht : P.underlying t = some (.slice e)) (hc : P.cellsOf e = d.sz) (b : Nat) (hb : P.bytesOf e = b) (he : Opens P e d G) :
    Opens P t (Kd.slice e d) (fun xs => xs.length * b ≤ 140737488351232 ∧ ∀ a ∈ xs, G a) := by
  intro H enc W fuel cs x h hw
  rcases DataW.trod_slice ht h with ⟨rfl, _⟩ | ⟨a, len, cap, elems, rest, n, _, rfl, rfl, _, hl, hm, hlen, hel, _⟩
  · exact ⟨[], ⟨none, 0, rfl, Nat.le_refl _, Kd.C_nil d W⟩, by simp, fun a h => by cases h⟩
  · have hwt : (elems.length + rest.length) * b ≤ 140737488351232 := by
      have := hw ((elems.length + rest.length) * P.bytesOf e) (by simp [DataW.weights, ht])
      rw [hb] at this
      simpa [reachBytes] using this
    have hall : ∀ i : Fin len, ∃ p : α, ∃ c, c.length = d.sz ∧ d.K W p c ∧ G p ∧ ∀ j u, c[j]? = some u → W.cell? (a.add (i.1 * d.sz + j)) = some u := by
      intro i
      have hi : i.1 < elems.length := by have := i.2; omega
      have h1 := hel i.1 i.2
      rw [List.getElem?_eq_getElem hi] at h1
      obtain ⟨c, hcs, htr⟩ := Option.bind_eq_some_iff.1 h1
      obtain ⟨hcl, hcg⟩ := cells_get hcs
      obtain ⟨p, hK, hG⟩ := he H enc W n c _ htr (fun m hm => hw m (by
        simp only [DataW.weights, ht, List.mem_cons, List.mem_append]
        exact .inr (.inl (weights_all (List.mem_map.2 ⟨_, List.getElem_mem hi, rfl⟩) m hm))))
      refine ⟨p, c, by rw [hcl, hc], hK, hG, fun j u hu => ?_⟩
      have := hcg j u hu
      rw [add_add, hc] at this
      exact this
    refine ⟨List.ofFn fun i => Classical.choose (hall i), ⟨some a, cap, by simp, by simpa using hl, by simp, by simp only [maxLen] at hm; simp; omega, fun _ => ⟨a, rfl, fun j p hj => ?_⟩⟩, ?_, ?_⟩
    · obtain ⟨hjl, hjp⟩ := List.getElem?_eq_some_iff.1 hj
      simp only [List.length_ofFn] at hjl
      have h2 := Classical.choose_spec (hall ⟨j, hjl⟩)
      rw [List.getElem_ofFn] at hjp
      rw [hjp] at h2
      obtain ⟨c, h3, h4, _, h6⟩ := h2
      exact ⟨c, h3, h4, h6⟩
    · rw [List.length_ofFn]
      refine Nat.le_trans (Nat.mul_le_mul_right b ?_) hwt
      omega
    · intro p hp
      obtain ⟨i, rfl⟩ := (List.mem_ofFn).1 hp
      obtain ⟨_, _, _, h5, _⟩ := Classical.choose_spec (hall i)
      exact h5
/-- The fields of a struct from one on, one behind the other. -/
def OpensFields {α : Type} (P : Program) (fs : List Field) (off : Nat) (d : Kd α) (G : α → Prop) : Prop :=
  ∀ (H : Type) (enc : TypeId × Value → H) (W : World) (fuel : Nat) (cs : List Value) (xs : List (DataW H × List MemPlace)), off + d.sz = cs.length → xs.length = fs.length →
    (∀ (i : Nat) (f : Field), fs[i]? = some f → DataW.trod enc P W 0 (fun _ => true) true fuel f.type ((cs.drop f.offset).take (P.cellsOf f.type)) = xs[i]?) →
    (∀ n ∈ DataW.weightsEach P (fs.map (·.type)) (xs.map (·.1)), n ≤ reachBytes) → ∃ a, d.K W a (cs.drop off) ∧ G a
theorem opens_one {α : Type} {d : Kd α} {G : α → Prop} {f : Field} {off : Nat} (ho : f.offset = off) (hc : P.cellsOf f.type = d.sz) (he : Opens P f.type d G) : OpensFields P [f] off d G := by
  intro H enc W fuel cs xs hl hx hf hw
  match xs, hx with
  | [x], _ =>
    have h0 := hf 0 f rfl
    rw [ho, hc, List.take_of_length_le (by rw [List.length_drop]; omega)] at h0
    exact he H enc W fuel _ x h0 (fun n hn => hw n (by simpa [DataW.weightsEach] using hn))
theorem opens_more {α β : Type} {d : Kd α} {d2 : Kd β} {G : α → Prop} {G2 : β → Prop} {f : Field} {fs : List Field} {off : Nat} (ho : f.offset = off) (hc : P.cellsOf f.type = d.sz) (he : Opens P f.type d G) (hs : OpensFields P fs (off + d.sz) d2 G2) :
    OpensFields P (f :: fs) off (Kd.pair d d2) (fun p => G p.1 ∧ G2 p.2) := by
  intro H enc W fuel cs xs hl hx hf hw
  have hl' : off + (d.sz + d2.sz) = cs.length := hl
  match xs, hx with
  | x :: xs, hx =>
    have h0 := hf 0 f rfl
    rw [ho, hc] at h0
    obtain ⟨a, h1, h2⟩ := he H enc W fuel _ x h0 (fun n hn => hw n (by simp only [List.map_cons, DataW.weightsEach, List.mem_append]; exact .inl hn))
    obtain ⟨b, h3, h4⟩ := hs H enc W fuel cs xs (by omega) (by simpa using hx) (fun i g hg => by simpa using hf (i + 1) g (by simpa using hg)) (fun n hn => hw n (by simp only [List.map_cons, DataW.weightsEach, List.mem_append]; exact .inr hn))
    refine ⟨(a, b), ⟨_, _, ?_, h1, h3⟩, h2, h4⟩
    rw [← List.drop_drop, List.take_append_drop]
theorem opens_struct {α : Type} {d : Kd α} {G : α → Prop} {fs : Array Field} (ht : P.underlying t = some (.struct fs)) (hc : P.cellsOf t = d.sz) (hf : OpensFields P fs.toList 0 d G) : Opens P t d G := by
  intro H enc W fuel cs x h hw
  obtain ⟨xs, n, _, rfl, hl, hlen, hg⟩ := DataW.trod_struct ht h
  have := hf H enc W n cs xs (by omega) (by simpa using hlen) (fun i f hi => hg i f (by simpa using hi)) (fun m hm => hw m (by simpa [DataW.weights, ht] using hm))
  simpa using this
theorem opens_iso {α β : Type} {d : Kd α} {G : α → Prop} (f : β → α) (g : α → β) (hfg : ∀ a, f (g a) = a) (h : Opens P t d G) : Opens P t (Kd.iso d f) (fun b => G (f b)) := by
  intro H enc W fuel cs x hx hw
  obtain ⟨a, h1, h2⟩ := h H enc W fuel cs x hx hw
  exact ⟨g a, by show d.K W (f (g a)) cs; rw [hfg]; exact h1, by show G (f (g a)); rw [hfg]; exact h2⟩
theorem weights_each {H : Type} {P : Program} {ts : List TypeId} {ds : List (DataW H)} (h : (DataW.weightsEach P ts ds).all (· ≤ reachBytes) = true) {j : Nat} {t : TypeId} {d : DataW H} (ht : ts[j]? = some t) (hd : ds[j]? = some d) : ∀ n ∈ d.weights P t, n ≤ reachBytes := fun n hn => by
  simpa using List.all_eq_true.1 h _ (DataW.weights_mem_each ht hd n hn)
end
end Go.Proofs.YtnalcjgefbelnaaDoor.Q
end
