/- Contracts of Go functions and plain facts, of several texts, one behind the other; no condition. -/
import Derived.Lib.Strings
import Derived.Test.YtlhnaplmphdhlaaDoorMPropUnits1
import Derived.Lib.ItoaNum
import Derived.RangeFuncNested
import Derived.RangeFuncBound
import Derived.RangeFuncCalls
import Derived.RangeFuncLeaves
import Derived.OwnWalkIn
import Derived.OrdersIn
import Derived.Below
import Derived.Shelf.Abstract
import Derived.WalkKit
import Derived.TacticsInMore
import Derived.LoopNIn
import Derived.LoopIn
import Derived.Maps.AppendAt
import Derived.Sort.QuietIn
import Derived.Lib.IndexLaws
import Derived.RangeFuncWrites
import Derived.RangeFuncBox
import Derived.ArgAppend
import Derived.Lib.AppendStr
section
namespace Go.Proofs.YtlhnaplmphdhlaaDoor.Q
open Go.RowKit Go.Proofs.YtlhnaplmphdhlaaDoorW.PrintWords Go.Proofs.YtlhnaplmphdhlaaDoorW.PrintLast
/-- The place of a byte among all digits; 255: none. -/
def numF (c : Int) : Int := if 48 ≤ c ∧ c ≤ 57 then c - 48 else if 97 ≤ c ∧ c ≤ 122 then c - 87 else if 65 ≤ c ∧ c ≤ 90 then c - 55 else 255
def valF (c b : Int) : Int × Bool := if 2 ≤ b ∧ b ≤ 36 ∧ numF c < b then (numF c, true) else (0, false)
theorem numF_range (c : Int) : 0 ≤ numF c ∧ numF c ≤ 255 := by unfold numF; split; omega; split; omega; split <;> omega
theorem fit_eq (b : Int) : digit_fit.f b = some (decide (2 ≤ b ∧ b ≤ 36)) := by
  unfold digit_fit.f
  by_cases h1 : b ≥ 2
  · rw [if_pos h1, Option.some.injEq, decide_eq_decide]
    omega
  · rw [if_neg h1, Option.some.injEq, eq_comm, decide_eq_false_iff_not]
    omega
theorem value_end (b v : Int) : ((digit_fit.f b).bind fun t => (if t = true then (if v ≥ b then some ((0 : Int), false) else some (v, true)) else some (0, false))) = some (if 2 ≤ b ∧ b ≤ 36 ∧ v < b then (v, true) else (0, false)) := by
  rw [fit_eq, Option.bind_some]
  by_cases h : 2 ≤ b ∧ b ≤ 36
  · rw [if_pos (by simpa using h)]
    by_cases h2 : v ≥ b
    · rw [if_pos h2, if_neg (by omega)]
    · rw [if_neg h2, if_pos (by omega)]
  · rw [if_neg (by simpa using h), if_neg (by omega)]
theorem digit_Value_eq (k : Nat) (c b : Int) (hc : 0 ≤ c ∧ c < 256) : digit_Value.f (k + 3) c b = some (valF c b) := by
  have hj2 : ∀ k, digit_Value.j2 (k + 1) c b 255 (decide (65 ≤ c ∧ c ≤ 90)) = some (if 2 ≤ b ∧ b ≤ 36 ∧ (if 65 ≤ c ∧ c ≤ 90 then c - 55 else 255) < b then (if 65 ≤ c ∧ c ≤ 90 then c - 55 else 255, true) else (0, false)) := by
    intro k
    rw [digit_Value.j2]
    by_cases h : 65 ≤ c ∧ c ≤ 90
    · rw [if_pos (by simpa using h), if_pos h, show (c - 65) % 256 + 10 = c - 55 by omega]
      exact value_end b (c - 55)
    · rw [if_neg (by simpa using h), if_neg h]
      exact value_end b 255
  have hj1 : ∀ k, digit_Value.j1 (k + 2) c b 255 (decide (97 ≤ c ∧ c ≤ 122)) = some (if 2 ≤ b ∧ b ≤ 36 ∧ (if 97 ≤ c ∧ c ≤ 122 then c - 87 else if 65 ≤ c ∧ c ≤ 90 then c - 55 else 255) < b then (if 97 ≤ c ∧ c ≤ 122 then c - 87 else if 65 ≤ c ∧ c ≤ 90 then c - 55 else 255, true) else (0, false)) := by
    intro k
    rw [digit_Value.j1]
    by_cases h : 97 ≤ c ∧ c ≤ 122
    · rw [if_pos (by simpa using h), if_pos h, show (c - 97) % 256 + 10 = c - 87 by omega]
      exact value_end b (c - 87)
    · rw [if_neg (by simpa using h), if_neg h]
      by_cases h2 : c ≥ 65
      · rw [if_pos h2, ← hj2 k]
        congr 1
        simp [h2]
      · rw [if_neg h2, ← hj2 k]
        congr 1
        simp
        omega
  unfold digit_Value.f valF numF
  have hj0 : digit_Value.j0 (k + 3) c b 255 (decide (48 ≤ c ∧ c ≤ 57)) = some (if 2 ≤ b ∧ b ≤ 36 ∧ (if 48 ≤ c ∧ c ≤ 57 then c - 48 else if 97 ≤ c ∧ c ≤ 122 then c - 87 else if 65 ≤ c ∧ c ≤ 90 then c - 55 else 255) < b then (if 48 ≤ c ∧ c ≤ 57 then c - 48 else if 97 ≤ c ∧ c ≤ 122 then c - 87 else if 65 ≤ c ∧ c ≤ 90 then c - 55 else 255, true) else (0, false)) := by
    rw [digit_Value.j0]
    by_cases h : 48 ≤ c ∧ c ≤ 57
    · rw [if_pos (by simpa using h), if_pos h, show (c - 48) % 256 = c - 48 by omega]
      exact value_end b (c - 48)
    · rw [if_neg (by simpa using h), if_neg h]
      by_cases h2 : c ≥ 97
      · rw [if_pos h2, ← hj1 k]
        congr 1
        simp [h2]
      · rw [if_neg h2, ← hj1 k]
        congr 1
        simp
        omega
  by_cases h : c ≥ 48
  · rw [if_pos h, ← hj0]
    congr 1
    simp [h]
  · rw [if_neg h, ← hj0]
    congr 1
    simp
    omega
def smallF (c : Int) : Int := if 65 ≤ c ∧ c ≤ 90 then c + 32 else c
theorem small_eq (c : Int) (hc : 0 ≤ c ∧ c < 256) : tinderref02_Small.f c = some (smallF c) := by
  unfold tinderref02_Small.f smallF
  by_cases h1 : c ≥ 65
  · rw [if_pos h1]
    by_cases h2 : c ≤ 90
    · rw [if_pos h2, if_pos ⟨h1, h2⟩, show (c + 32) % 256 = c + 32 by omega]
    · rw [if_neg h2, if_neg (by omega)]
  · rw [if_neg h1, if_neg (by omega)]
def digitsB : ByteArray := ⟨#[48, 49, 50, 51, 52, 53, 54, 55, 56, 57, 97, 98, 99, 100, 101, 102, 103, 104, 105, 106, 107, 108, 109, 110, 111, 112, 113, 114, 115, 116, 117, 118, 119, 120, 121, 122]⟩
theorem digits_all : ((List.range 36).all fun (j : Nat) => bt digitsB (j : Int) == if j < 10 then (j : Int) + 48 else (j : Int) + 87) = true := by kernel_rfl
theorem digits_at (i : Int) (h : 0 ≤ i ∧ i < 36) : bt digitsB i = if i < 10 then i + 48 else i + 87 := by
  have := List.all_eq_true.1 digits_all i.toNat (List.mem_range.2 (by omega))
  rw [beq_iff_eq] at this
  rw [show ((i.toNat : Nat) : Int) = i by omega] at this
  rw [this]
  by_cases h1 : i < 10
  · rw [if_pos h1, if_pos (by omega)]
  · rw [if_neg h1, if_neg (by omega)]
theorem digit_here (c i : Int) (h : 0 ≤ i ∧ i < 36) : bt digitsB i = smallF c ↔ i = numF c := by
  rw [digits_at i h]
  unfold smallF numF
  split <;> split <;> (try split) <;> (try split) <;> omega
theorem refvalue_go (c b : Int) (hc : 0 ≤ c ∧ c < 256) (hb : 2 ≤ b ∧ b ≤ 36) (d : Nat) : ∀ (k : Nat) (i : Int), 0 ≤ i → i + d = b → i ≤ numF c → d < k → tinderref02_Value.l0 k c b i = some (valF c b) := by
  have hw : wrap64 b = b := by unfold wrap64; omega
  have hn := numF_range c
  induction d with
  | zero =>
    intro k i h0 h1 h2 hk
    obtain ⟨k, rfl⟩ : ∃ k', k = k' + 1 := ⟨k - 1, by omega⟩
    rw [tinderref02_Value.l0, hw, if_neg (by omega)]
    unfold valF
    rw [if_neg (by omega)]
  | succ d ih =>
    intro k i h0 h1 h2 hk
    obtain ⟨k, rfl⟩ : ∃ k', k = k' + 1 := ⟨k - 1, by omega⟩
    rw [tinderref02_Value.l0, hw, if_pos (by omega), if_pos h0, if_pos (by omega), small_eq c hc, Option.bind_some]
    have hd := digit_here c i ⟨h0, by omega⟩
    by_cases he : i = numF c
    · show (if bt digitsB i = smallF c then some (i % 4294967296, true) else tinderref02_Value.l0 k c b (wrap64 (i + 1))) = _
      rw [if_pos (hd.2 he)]
      unfold valF
      rw [if_pos (by omega), he, show numF c % 4294967296 = numF c by omega]
    · show (if bt digitsB i = smallF c then some (i % 4294967296, true) else tinderref02_Value.l0 k c b (wrap64 (i + 1))) = _
      rw [if_neg (fun h => he (hd.1 h)), show wrap64 (i + 1) = i + 1 by unfold wrap64; omega]
      exact ih k (i + 1) (by omega) (by omega) (by omega) (by omega)
theorem refvalue_eq (k : Nat) (c b : Int) (hc : 0 ≤ c ∧ c < 256) (hk : 40 ≤ k) : tinderref02_Value.f k c b = some (valF c b) := by
  obtain ⟨k, rfl⟩ : ∃ k', k = k' + 1 := ⟨k - 1, by omega⟩
  have hn := numF_range c
  unfold tinderref02_Value.f
  by_cases h1 : b < 2
  · rw [if_pos h1, tinderref02_Value.j0, if_pos rfl]
    unfold valF
    rw [if_neg (by omega)]
  · rw [if_neg h1, tinderref02_Value.j0]
    by_cases h2 : b > 36
    · rw [if_pos (by simpa using h2)]
      unfold valF
      rw [if_neg (by omega)]
    · rw [if_neg (by simpa using h2)]
      exact refvalue_go c b hc (by omega) b.toNat k 0 (by omega) (by omega) (by omega) (by omega)
/-- A text's digits as a number; the mark: it is too great; none: a byte is no digit. -/
def parL (b : Int) : List Int → Int → Bool → Option (Int × Bool)
  | [], n, g => some (n, g)
  | c :: l, n, g => if (valF c b).2 = true then (if g = true then parL b l n true else parL b l (n * b + (valF c b).1) (decide (n * b + (valF c b).1 ≥ 4294967296))) else none
def resF (neg : Bool) : Option (Int × Bool) → Int × Int
  | none => (0, 15)
  | some (n, g) => if g = true then (0, 4) else (if neg = true then ((4294967296 - n) % 4294967296, 0) else (n, 0))
theorem parL_nil (b n : Int) (g : Bool) : parL b [] n g = some (n, g) := rfl
theorem parL_cons (b c : Int) (l : List Int) (n : Int) (g : Bool) : parL b (c :: l) n g = if (valF c b).2 = true then (if g = true then parL b l n true else parL b l (n * b + (valF c b).1) (decide (n * b + (valF c b).1 ≥ 4294967296))) else none := rfl
theorem resF_t (neg : Bool) (n : Int) : resF neg (some (n, true)) = (0, 4) := rfl
theorem resF_pos (n : Int) : resF false (some (n, false)) = (n, 0) := rfl
theorem resF_neg (n : Int) : resF true (some (n, false)) = ((4294967296 - n) % 4294967296, 0) := rfl
theorem val_range (c b : Int) : 0 ≤ (valF c b).1 ∧ (valF c b).1 < 36 := by
  have := numF_range c
  unfold valF
  split
  · dsimp only; omega
  · decide
theorem bytes_at (s : ByteArray) (i : Int) (h0 : 0 ≤ i) (h1 : i < s.size) : (bytesOf s).drop i.toNat = bt s i :: (bytesOf s).drop (i + 1).toNat := by
  have hl : i.toNat < (bytesOf s).length := by rw [bytesOf_length]; omega
  rw [List.drop_eq_getElem_cons hl, show (i + 1).toNat = i.toNat + 1 by omega, ← rd_bytesOf]
  simp [rd, List.getD_eq_getElem?_getD, List.getElem?_eq_getElem hl]
theorem wrap_u64_id (n : Int) (h0 : 0 ≤ n) (h1 : n < 18446744073709551616) : IntKind.u64.wrap n = n := by rw [IntKind.wrap_u64]; omega
theorem mulb (n b v : Int) (h0 : 0 ≤ n) (h1 : n ≤ 4294967296) (hb : 2 ≤ b ∧ b ≤ 36) (hv : 0 ≤ v ∧ v < 36) : 0 ≤ n * b ∧ n * b ≤ 154618822656 ∧ IntKind.u64.wrap (IntKind.u64.wrap (n * IntKind.u64.wrap b) + IntKind.u64.wrap v) = n * b + v := by
  have e1 : n * b ≤ 4294967296 * 36 := Int.mul_le_mul h1 hb.2 (by omega) (by omega)
  have e0 : 0 ≤ n * b := Int.mul_nonneg h0 (by omega)
  refine ⟨e0, by omega, ?_⟩
  rw [wrap_u64_id b (by omega) (by omega), wrap_u64_id (n * b) e0 (by omega), wrap_u64_id v (by omega) (by omega), wrap_u64_id _ (by omega) (by omega)]
theorem parse_go (b : Int) (hb : 2 ≤ b ∧ b ≤ 36) (s : ByteArray) (neg : Bool) (hs : s.size ≤ 9223372036854775806) (d : Nat) : ∀ (k : Nat) (i n m e : Int) (g : Bool), 0 ≤ i → i + d = s.size → d + 10 < k → ((g = false ∧ e = 0 ∧ n = m ∧ 0 ≤ n ∧ n < 4294967296) ∨ (g = true ∧ e = 4 ∧ n = 4294967296)) →
    digit_Parse.l0 k b s neg n e (s.size : Int) i = some (resF neg (parL b ((bytesOf s).drop i.toNat) m g)) := by
  induction d with
  | zero =>
    intro k i n m e g h0 h1 hk hst
    obtain ⟨k, rfl⟩ : ∃ k', k = k' + 1 := ⟨k - 1, by omega⟩
    rw [digit_Parse.l0, if_neg (by omega), List.drop_eq_nil_of_le (by rw [bytesOf_length]; omega)]
    rw [parL_nil]
    rcases hst with ⟨rfl, rfl, rfl, h2, h3⟩ | ⟨rfl, rfl, rfl⟩
    · rw [if_pos rfl]
      cases neg
      · rw [if_neg Bool.false_ne_true, resF_pos, Int.emod_eq_of_lt h2 h3]
      · rw [if_pos rfl, resF_neg, IntKind.wrap_u64, Option.some.injEq, Prod.mk.injEq]
        exact ⟨by omega, rfl⟩
    · rw [if_neg (by decide), resF_t]
  | succ d ih =>
    intro k i n m e g h0 h1 hk hst
    obtain ⟨k, rfl⟩ : ∃ k', k = k' + 1 := ⟨k - 1, by omega⟩
    obtain ⟨k3, hk3⟩ : ∃ k', k = k' + 3 := ⟨k - 3, by omega⟩
    have hv := val_range (bt s i) b
    have hbt := bt_range s i
    rw [digit_Parse.l0, if_pos (by omega), if_pos h0, if_pos (by omega), hk3, digit_Value_eq k3 _ b ⟨hbt.1, by omega⟩, ← hk3, Option.bind_some, bytes_at s i h0 (by omega), show wrap64 (i + 1) = i + 1 by unfold wrap64; omega]
    rw [parL_cons]
    obtain ⟨v, hve⟩ : ∃ v, v = (valF (bt s i) b).1 := ⟨_, rfl⟩
    rw [← hve] at hv ⊢
    cases hd : (valF (bt s i) b).2
    · rw [if_neg Bool.false_ne_true, if_neg Bool.false_ne_true]
      rfl
    · rw [if_pos rfl, if_pos rfl]
      rcases hst with ⟨rfl, rfl, rfl, h2, h3⟩ | ⟨rfl, rfl, rfl⟩
      · obtain ⟨m0, m1, m2⟩ := mulb n b v h2 (by omega) hb hv
        rw [m2, if_neg Bool.false_ne_true]
        by_cases hg : n * b + v > 4294967295
        · rw [if_pos hg, decide_eq_true (show n * b + v ≥ 4294967296 by omega)]
          exact ih k (i + 1) _ _ _ _ (by omega) (by omega) (by omega) (.inr ⟨rfl, rfl, rfl⟩)
        · rw [if_neg hg, decide_eq_false (show ¬ n * b + v ≥ 4294967296 by omega)]
          exact ih k (i + 1) _ _ _ _ (by omega) (by omega) (by omega) (.inl ⟨rfl, rfl, rfl, by omega, by omega⟩)
      · obtain ⟨m0, m1, m2⟩ := mulb 4294967296 b v (by omega) (by omega) hb hv
        rw [m2, if_pos (by omega), if_pos rfl]
        exact ih k (i + 1) _ _ _ _ (by omega) (by omega) (by omega) (.inr ⟨rfl, rfl, rfl⟩)
theorem refparse_go (b : Int) (hb : 2 ≤ b ∧ b ≤ 36) (s : ByteArray) (neg : Bool) (hs : s.size ≤ 9223372036854775806) (d : Nat) : ∀ (k : Nat) (i n : Int) (g : Bool), 0 ≤ i → i + d = s.size → d + 50 < k → (g = false → 0 ≤ n ∧ n < 4294967296) →
    tinderref02_Parse.l0 k s b neg n g i = some (resF neg (parL b ((bytesOf s).drop i.toNat) n g)) := by
  induction d with
  | zero =>
    intro k i n g h0 h1 hk hst
    obtain ⟨k, rfl⟩ : ∃ k', k = k' + 1 := ⟨k - 1, by omega⟩
    rw [tinderref02_Parse.l0, if_neg (by omega), List.drop_eq_nil_of_le (by rw [bytesOf_length]; omega)]
    rw [parL_nil]
    cases g
    · obtain ⟨h2, h3⟩ := hst rfl
      rw [if_neg Bool.false_ne_true]
      cases neg
      · rw [if_neg Bool.false_ne_true, resF_pos, Int.emod_eq_of_lt h2 h3]
      · rw [if_pos rfl, resF_neg, wrap_u64_id _ (by omega) (by omega), Int.tmod_eq_emod_of_nonneg (by omega), Int.emod_emod]
    · rw [if_pos rfl, resF_t]
  | succ d ih =>
    intro k i n g h0 h1 hk hst
    obtain ⟨k, rfl⟩ : ∃ k', k = k' + 1 := ⟨k - 1, by omega⟩
    have hv := val_range (bt s i) b
    have hbt := bt_range s i
    rw [tinderref02_Parse.l0, if_pos (by omega), if_pos h0, refvalue_eq k _ b ⟨hbt.1, by omega⟩ (by omega), Option.bind_some, bytes_at s i h0 (by omega), show wrap64 (i + 1) = i + 1 by unfold wrap64; omega]
    rw [parL_cons]
    obtain ⟨v, hve⟩ : ∃ v, v = (valF (bt s i) b).1 := ⟨_, rfl⟩
    rw [← hve] at hv ⊢
    cases hd : (valF (bt s i) b).2
    · rw [if_neg Bool.false_ne_true, if_neg Bool.false_ne_true]
      rfl
    · rw [if_pos rfl, if_pos rfl]
      cases g
      · obtain ⟨h2, h3⟩ := hst rfl
        obtain ⟨m0, m1, m2⟩ := mulb n b v h2 (by omega) hb hv
        rw [m2, if_neg Bool.false_ne_true, if_neg Bool.false_ne_true]
        refine ih k (i + 1) _ _ (by omega) (by omega) (by omega) (fun h => ?_)
        have := of_decide_eq_false h
        omega
      · rw [if_pos rfl, if_pos rfl]
        exact ih k (i + 1) _ _ (by omega) (by omega) (by omega) (fun h => by cases h)
/-- A text as a number in a base. -/
def parF (s : ByteArray) (b : Int) : Int × Int :=
  if 2 ≤ b ∧ b ≤ 36 then
    (if 0 < s.size ∧ bt s 0 = 45 then (if s.size = 1 then (0, 15) else resF true (parL b (bytesOf (s.extract 1 s.size)) 0 false))
     else (if s.size = 0 then (0, 15) else resF false (parL b (bytesOf s) 0 false)))
  else (0, 1)
theorem extract_size (s : ByteArray) : (s.extract 1 s.size).size = s.size - 1 := by rw [ByteArray.size_extract]; omega
theorem minus_iff (s : ByteArray) (h : 1 ≤ s.size) : ((s.extract 0 1).toList == (⟨#[45]⟩ : ByteArray).toList) = decide (bt s 0 = 45) := by
  rw [ByteArray.toList_eq, ByteArray.toList_eq, Go.Lib.extract_data, List.drop_zero]
  have hl : 0 < s.data.toList.length := by rw [data_length]; omega
  have hb : bt s 0 = ((s.data.toList[0]'hl).toNat : Int) := by
    rw [← rd_bytesOf]
    simp [rd, bytesOf, List.getD_eq_getElem?_getD, List.getElem?_eq_getElem hl]
  rw [hb]
  match hx : s.data.toList, hl with
  | a :: t, _ =>
    show ([a] == [45]) = decide ((a.toNat : Int) = 45)
    rw [Bool.eq_iff_iff, beq_iff_eq, decide_eq_true_iff, List.cons.injEq, and_iff_left rfl]
    constructor
    · intro h; rw [h]; rfl
    · intro h
      refine UInt8.toNat_inj.1 ?_
      show a.toNat = 45
      omega
theorem cutprefix_eq (s : ByteArray) : strings_CutPrefix.f s (⟨#[45]⟩ : ByteArray) = some (if 0 < s.size ∧ bt s 0 = 45 then (s.extract 1 s.size, true) else (s, false)) := by
  unfold strings_CutPrefix.f stringslite_CutPrefix.f stringslite_HasPrefix.f
  have h1 : (((⟨#[45]⟩ : ByteArray).size : Nat) : Int) = 1 := rfl
  rw [h1]
  by_cases hs : 1 ≤ s.size
  · rw [if_pos (by omega), if_pos (by omega), if_pos (by omega), Option.bind_some, show ((1 : Int)).toNat = 1 from rfl, minus_iff s hs]
    by_cases hb : bt s 0 = 45
    · rw [if_pos (by simpa using hb), if_pos (by omega), if_pos (by omega), Option.bind_some, if_pos ⟨by omega, hb⟩]
    · rw [if_neg (by simpa using hb), Option.bind_some, if_neg (fun h => hb h.2)]
  · rw [if_neg (by omega), Option.bind_some, if_neg (by decide), Option.bind_some, if_neg (by omega)]
theorem empty_iff (s : ByteArray) : s.toList = ([] : List UInt8) ↔ s.size = 0 := by
  rw [ByteArray.toList_eq, ← List.length_eq_zero_iff, data_length]
theorem parse_eq (k : Nat) (s : ByteArray) (b : Int) (hs : s.size ≤ 9223372036854775806) (hk : s.size + 20 < k) : digit_Parse.f k s b = some (parF s b) := by
  unfold digit_Parse.f parF
  rw [fit_eq, Option.bind_some]
  by_cases hb : 2 ≤ b ∧ b ≤ 36
  · rw [if_pos (by simpa using hb), if_pos hb, cutprefix_eq, Option.bind_some]
    by_cases hm : 0 < s.size ∧ bt s 0 = 45
    · have hx := extract_size s
      rw [if_pos hm, if_pos hm]
      dsimp only
      by_cases h1 : s.size = 1
      · rw [if_pos ((empty_iff _).2 (by omega)), if_pos h1]
      · rw [if_neg (fun h => h1 (by have := (empty_iff _).1 h; omega)), if_neg h1]
        exact parse_go b hb _ true (by omega) _ k 0 0 0 0 false (by omega) (by simp; rfl) (by omega) (.inl ⟨rfl, rfl, rfl, by omega, by omega⟩)
    · rw [if_neg hm, if_neg hm]
      dsimp only
      by_cases h1 : s.size = 0
      · rw [if_pos ((empty_iff _).2 h1), if_pos h1]
      · rw [if_neg (fun h => h1 ((empty_iff _).1 h)), if_neg h1]
        exact parse_go b hb _ false (by omega) _ k 0 0 0 0 false (by omega) (by simp; rfl) (by omega) (.inl ⟨rfl, rfl, rfl, by omega, by omega⟩)
  · rw [if_neg (by simpa using hb), if_neg hb]
theorem refparse_eq (k : Nat) (s : ByteArray) (b : Int) (hs : s.size ≤ 9223372036854775806) (hk : s.size + 60 < k) : tinderref02_Parse.f k s b = some (parF s b) := by
  obtain ⟨k, rfl⟩ : ∃ k', k = k' + 3 := ⟨k - 3, by omega⟩
  have hj2 : ∀ (neg : Bool) (s : ByteArray), s.size ≤ 9223372036854775806 → s.size + 57 < k → (2 ≤ b ∧ b ≤ 36) → tinderref02_Parse.j2 (k + 1) s b neg = some (if s.size = 0 then (0, 15) else resF neg (parL b (bytesOf s) 0 false)) := by
    intro neg s hs hk hb
    rw [tinderref02_Parse.j2]
    by_cases h1 : s.size = 0
    · rw [if_pos (by omega), if_pos h1]
    · rw [if_neg (by omega), if_neg h1]
      exact refparse_go b hb s neg hs _ k 0 0 false (by omega) (by simp; rfl) (by omega) (fun _ => by omega)
  unfold tinderref02_Parse.f parF
  have hj0 : tinderref02_Parse.j0 (k + 3) s b (decide ¬ (2 ≤ b ∧ b ≤ 36)) = some (if 2 ≤ b ∧ b ≤ 36 then
    (if 0 < s.size ∧ bt s 0 = 45 then (if s.size = 1 then (0, 15) else resF true (parL b (bytesOf (s.extract 1 s.size)) 0 false))
     else (if s.size = 0 then (0, 15) else resF false (parL b (bytesOf s) 0 false)))
  else (0, 1)) := by
    rw [tinderref02_Parse.j0]
    by_cases hb : 2 ≤ b ∧ b ≤ 36
    · rw [if_neg (by simpa using hb), if_pos hb]
      by_cases h0 : 0 < s.size
      · rw [if_pos (by omega), if_pos (by omega), tinderref02_Parse.j1]
        by_cases hm : bt s 0 = 45
        · have hx := extract_size s
          rw [if_pos (by simpa using hm), if_pos (by omega), if_pos ⟨h0, hm⟩, show (bt s 0 == 45) = true by simpa using hm, hj2 true _ (by omega) (by omega) hb, hx]
          by_cases h1 : s.size = 1
          · rw [if_pos (by omega), if_pos h1]
          · rw [if_neg (by omega), if_neg h1]
        · rw [if_neg (by simpa using hm), if_neg (fun h => hm h.2), show (bt s 0 == 45) = false by simpa using hm, hj2 false s hs (by omega) hb]
      · rw [if_neg (by omega), tinderref02_Parse.j1, if_neg (by decide), if_neg (fun h => h0 h.1), hj2 false s hs (by omega) hb]
    · rw [if_pos (decide_eq_true hb), if_neg hb]
  by_cases h1 : b < 2
  · rw [if_pos h1, ← hj0]
    congr 1
    simp
    omega
  · rw [if_neg h1, ← hj0]
    congr 1
    simp
    omega
end Go.Proofs.YtlhnaplmphdhlaaDoor.Q
end
section
namespace Go.Proofs.YtlhnaplmphdhlaaDoor.Q
open Go.RowKit Go.Proofs.YtlhnaplmphdhlaaDoorW.PrintWords Go.Proofs.YtlhnaplmphdhlaaDoorW.PrintLast Go.Proofs.YtlhnaplmphdhlaaDoorW.PrintMore
def chN (v : Nat) : Nat := if v < 10 then 48 + v else 87 + v
def showL (b u : Nat) : List UInt8 := if _h : u < b ∨ b < 2 then [UInt8.ofNat (chN u)] else showL b (u / b) ++ [UInt8.ofNat (chN (u % b))]
termination_by u
decreasing_by exact Nat.div_lt_self (by omega) (by omega)
theorem showL_small {b u : Nat} (h : u < b) : showL b u = [UInt8.ofNat (chN u)] := by rw [showL, dif_pos (.inl h)]
theorem showL_big {b u : Nat} (hb : 2 ≤ b) (h : b ≤ u) : showL b u = showL b (u / b) ++ [UInt8.ofNat (chN (u % b))] := by rw [showL, dif_neg (by omega)]
theorem showL_ten (u : Nat) : Go.Lib.decDigits u = showL 10 u := by
  induction u using Nat.strongRecOn with
  | ind u ih =>
    by_cases h : u < 10
    · rw [Go.Lib.decDigits, dif_pos h, showL_small h]
      unfold chN
      rw [if_pos h]
    · rw [Go.Lib.decDigits, dif_neg h, showL_big (by omega) (by omega), ih (u / 10) (Nat.div_lt_self (by omega) (by omega))]
      unfold chN
      rw [if_pos (Nat.mod_lt _ (by omega))]
theorem showL_len (b : Nat) (hb : 2 ≤ b) (k : Nat) : ∀ u : Nat, u < 2 ^ (k + 1) → (showL b u).length ≤ k + 1 := by
  induction k with
  | zero =>
    intro u hu
    rw [showL_small (by omega)]
    simp
  | succ k ih =>
    intro u hu
    by_cases h : u < b
    · rw [showL_small h]; simp
    · rw [showL_big hb (by omega), List.length_append]
      have h1 : u / b ≤ u / 2 := Nat.div_le_div_left hb (by omega)
      have h2 : u / 2 < 2 ^ (k + 1) := by
        rw [Nat.pow_succ] at hu
        omega
      have := ih (u / b) (by omega)
      simp
      omega
theorem showL_pos (b u : Nat) : 1 ≤ (showL b u).length := by
  rw [showL]
  split
  · simp
  · rw [List.length_append]; simp
theorem showL_one {b u : Nat} (hb : 2 ≤ b) (h : (showL b u).length = 1) : u < b := by
  rcases Nat.lt_or_ge u b with h1 | h1
  · exact h1
  · rw [showL_big hb h1, List.length_append] at h
    have := showL_pos b (u / b)
    rw [List.length_singleton] at h
    omega
theorem showL_more {b u k : Nat} (hb : 2 ≤ b) (h : (showL b u).length = k + 1 + 1) : b ≤ u ∧ (showL b (u / b)).length = k + 1 := by
  rcases Nat.lt_or_ge u b with h1 | h1
  · rw [showL_small h1] at h
    simp at h
  · refine ⟨h1, ?_⟩
    rw [showL_big hb h1, List.length_append] at h
    simpa using h
def showI (b u : Int) : List Int := (showL b.toNat u.toNat).map fun c => (c.toNat : Int)
def chI (v : Int) : Int := if v < 10 then v + 48 else v + 87
theorem ch_eq (v : Nat) (h : v < 36) : ((UInt8.ofNat (chN v)).toNat : Int) = chI v := by
  unfold chN chI
  by_cases h1 : v < 10
  · rw [if_pos h1, if_pos (by omega), UInt8.toNat_ofNat']
    omega
  · rw [if_neg h1, if_neg (by omega), UInt8.toNat_ofNat']
    omega
theorem showI_small {b u : Int} (h0 : 0 ≤ u) (h : u < b) (hb : b ≤ 36) : showI b u = [chI u] := by
  unfold showI
  rw [showL_small (by omega), List.map_singleton, ch_eq _ (by omega), Int.toNat_of_nonneg h0]
theorem showI_big {b u : Int} (hb : 2 ≤ b) (hb2 : b ≤ 36) (h : b ≤ u) : showI b u = showI b (u / b) ++ [chI (u % b)] := by
  unfold showI
  have e1 : (u / b).toNat = u.toNat / b.toNat := by
    obtain ⟨n, rfl⟩ := Int.eq_ofNat_of_zero_le (show 0 ≤ u by omega)
    obtain ⟨m, rfl⟩ := Int.eq_ofNat_of_zero_le (show 0 ≤ b by omega)
    rfl
  have e2 : ((u.toNat % b.toNat : Nat) : Int) = u % b := by
    rw [Int.natCast_emod, Int.toNat_of_nonneg (by omega), Int.toNat_of_nonneg (by omega)]
  rw [showL_big (by omega) (by omega), List.map_append, List.map_singleton, ch_eq _ (by have := Nat.mod_lt u.toNat (show 0 < b.toNat by omega); omega), e1, e2]
theorem digits_ch (v : Int) (h : 0 ≤ v ∧ v < 36) : bt digitsB v = chI v := digits_at v h
/-- A block of bytes as a row of the call's own. -/
theorem R_arr {W : World} {base g : Nat} {L : List Int} {t : TypeId} (h : W.heap[g]? = some (.cells (L.map (Value.int .u8)).toArray t (0, 0))) (hb : base ≤ g) (hl : L.length ≤ 9223372036854775807) :
    Kd.R (Kd.int .u8) t W base (fun _ => True) (.slice (some ⟨g, 0, none⟩) L.length L.length) L := by
  have e : (Kd.int .u8).sz = 1 := rfl
  refine ⟨fun _ _ => trivial, L.map (Value.int .u8), ⟨by rw [List.length_map, e, Nat.mul_one], .inr ⟨g, L.length, _, rfl, hb, h, Nat.le_refl _, hl, by rw [List.size_toArray, List.length_map, e, Nat.mul_one], ?_⟩⟩, reps_scalar_mk (enc := Value.int .u8) (R := (Kd.int .u8).M W base _) (fun _ => rfl) L⟩
  rw [e, Nat.mul_one]
  exact List.take_of_length_le (by rw [List.length_map]; exact Nat.le_refl _)
end Go.Proofs.YtlhnaplmphdhlaaDoor.Q
end
section
namespace Go.Proofs.YtlhnaplmphdhlaaDoor.Q
open Go.RowKit Go.Proofs.YtlhnaplmphdhlaaDoorW.PrintWords Go.Proofs.YtlhnaplmphdhlaaDoorW.PrintLast Go.Proofs.YtlhnaplmphdhlaaDoorW.PrintMore
set_option linter.unusedVariables false
set_option linter.unusedSimpArgs false

attribute [local go_sem] max2_int min2_int max_two min_two max_three min_three max_four min_four
/-! ### strconv_isPowerOfTwo: function 116 -/
def strconv_isPowerOfTwo.f (a0 : Int) : Option (Bool) := some ((Go.bits .and .i64 a0 (wrap64 (a0 - 1))) == 0)
set_option maxHeartbeats 8000000 in
set_option maxRecDepth 100000 in
theorem strconv_isPowerOfTwo.calls (a0 : Int) (r : Bool) (w : World) (h : strconv_isPowerOfTwo.f a0 = some r) :
    Calls Tryd.prog 116 #[.int .i64 a0] w fun e w' => e = .returned (.bool r) ∧ Drawn0 w w' := by
  have H : (some ((Go.bits .and .i64 a0 (wrap64 (a0 - 1))) == 0)) = some r := h
  clear h
  obtain rfl := Option.some.inj H
  go_enter Tryd.func116, Tryd.ntmps116
  go_wp2
  go_ret
  exact ⟨by first | rfl | (simp; done) | (simp [*]; done), by repeat (first | exact Drawn0.refl _ | apply Drawn0.step)⟩

end Go.Proofs.YtlhnaplmphdhlaaDoor.Q
end
section
namespace Go.Proofs.YtlhnaplmphdhlaaDoor.Q
open Go.RowKit Go.Proofs.YtlhnaplmphdhlaaDoorW.PrintWords Go.Proofs.YtlhnaplmphdhlaaDoorW.PrintLast Go.Proofs.YtlhnaplmphdhlaaDoorW.PrintMore
theorem digits_idx (v : Int) (h : 0 ≤ v ∧ v < 36) : ∀ hh : v.toNat < (⟨#[48, 49, 50, 51, 52, 53, 54, 55, 56, 57, 97, 98, 99, 100, 101, 102, 103, 104, 105, 106, 107, 108, 109, 110, 111, 112, 113, 114, 115, 116, 117, 118, 119, 120, 121, 122]⟩ : ByteArray).size, (((⟨#[48, 49, 50, 51, 52, 53, 54, 55, 56, 57, 97, 98, 99, 100, 101, 102, 103, 104, 105, 106, 107, 108, 109, 110, 111, 112, 113, 114, 115, 116, 117, 118, 119, 120, 121, 122]⟩ : ByteArray)[v.toNat]'hh).toNat : Int) = chI v := fun hh => (bt_at (⟨#[48, 49, 50, 51, 52, 53, 54, 55, 56, 57, 97, 98, 99, 100, 101, 102, 103, 104, 105, 106, 107, 108, 109, 110, 111, 112, 113, 114, 115, 116, 117, 118, 119, 120, 121, 122]⟩ : ByteArray) v hh).trans (digits_ch v h)
theorem drop_set_at (L : List Int) (j : Nat) (x : Int) (h : j < L.length) : (L.set j x).drop j = x :: L.drop (j + 1) := by
  rw [List.drop_eq_getElem_cons (by rw [List.length_set]; exact h), List.getElem_set_self, List.drop_set_of_lt (by omega)]
theorem slice_arr (gb : Nat) (j : Int) (h : 0 ≤ j ∧ j < 65) (W : World) : (Instr.sliceAt 133 (.pointer (some ⟨gb, 0, none⟩)) (some (.int .i64 j)) none none).run Tryd.prog W = .ok (.slice (some ⟨gb, j.toNat, none⟩) (65 - j.toNat) (65 - j.toNat)) W := by
  have hal : Tryd.prog.arrayLen 133 = 65 := by kernel_rfl
  have hel : Tryd.prog.elem 133 = 5 := by kernel_rfl
  rw [run_sliceAt_array_l W 133 ⟨gb, 0, none⟩ (by kernel_rfl) .i64 j h.1 (by rw [hal]; omega), hal, hel, run_size (sz := 1) (by kernel_rfl) W]
  show Result.ok (slicedAt ⟨gb, 0, none⟩ j.toNat 65 65 1) W = _
  unfold slicedAt
  rw [if_neg (by omega), Nat.mul_one, add_plain]
def Z65 : List Value := (List.replicate 65 (0 : Int)).map (Value.int .u8)
theorem and_mask (u : Int) (s : Nat) (h0 : 0 ≤ u) (h1 : u < 18446744073709551616 ∧ s < 8) : bits .and .u64 u (2 ^ s - 1 : Nat) = u % (2 ^ s : Nat) := by
  obtain ⟨n, rfl⟩ := Int.eq_ofNat_of_zero_le h0
  have h2 : 2 ^ s ≤ 2 ^ 8 := Nat.pow_le_pow_right (by decide) (by omega)
  rw [bits_and_u64_nat n (2 ^ s - 1) (by omega) (by omega), Nat.and_two_pow_sub_one_eq_mod]
  rfl
set_option maxRecDepth 100000 in
theorem tz64_16 (w : World) (ht : QB.Tabs w) : Calls Tryd.prog 120 #[.int .u64 16] w fun e w' => e = .returned (.int .i64 4) ∧ w' = w := by
  have hc : w.cell? ⟨5, 15, none⟩ = some (.int .u8 4) := ht.at_bits_deBruijn64tab 15 (by decide)
  have e1 : IntKind.u64.wrap (bits .and .u64 16 (IntKind.u64.wrap (-16)) * 285870213051353865) / 288230376151711744 = 15 := by kernel_rfl
  clear ht
  go_enter Tryd.func120, Tryd.ntmps120
  go_wp2
  go_ret
  exact ⟨rfl, rfl⟩
set_option maxRecDepth 100000 in
theorem tz_16 (w : World) (ht : QB.Tabs w) : Calls Tryd.prog 117 #[.int .u64 16] w fun e w' => e = .returned (.int .i64 4) ∧ Below w.heap.size w w' := by
  have HT := Aside0.mk ht
  clear ht
  go_enter Tryd.func117, Tryd.ntmps117
  go_wp2_with (first
    | (go_at_call 120; refine (tz64_16 _ HT.out).mono ?_; rintro e w1 ⟨rfl, rfl⟩))
  go_ret
  exact ⟨rfl, Below.refl _ _⟩
set_option maxHeartbeats 4000000 in
set_option maxRecDepth 100000 in
theorem formatBits_p16 (u0 : Int) (hu : 0 ≤ u0 ∧ u0 < 4294967296) (w : World) (ht : QB.Tabs w) :
    Calls Tryd.prog 109 #[.slice none 0 0, .int .u64 u0, .int .i64 16, .bool false, .bool false] w fun e w' => e = .returned (.tuple #[.slice none 0 0, .string (strOfNums (showI 16 u0))]) ∧ Below w.heap.size w w' := by
  have HP := Aside0.mk (show strconv_isPowerOfTwo.f 16 = some true by kernel_rfl)
  have HBb := Aside0.mk (show (2 : Int) ≤ 16 ∧ (16 : Int) ≤ 36 ∧ (16 : Int) ≠ 10 by decide)
  have HT := Aside0.mk ht
  have hb := HBb.out
  have HU := Aside0.mk hu
  have HB := Aside0.mk (Below.refl w.heap.size w)
  obtain ⟨Z, hZ⟩ : ∃ Z, Z = Z65 := ⟨_, rfl⟩
  have HZ := Aside0.mk hZ
  clear ht hb hu hZ
  go_enter Tryd.func109, Tryd.ntmps109
  go_wp2_with (first
    | ((with_reducible refine gate_dst (N := 12) rfl ?_); refine box_event ?hg (N := 12) ?hd (cs := Z.toArray) (t := 133) ?hr ?_; (case hd => rfl); (case hg => rfl); (case hr => have hZ2 := HZ.out; first | (go_simp; done) | (go_simp; rfl)); intro gb hg w2 hbox hb; have BK := Aside0.mk hbox; have GB := Aside0.mk (show w.heap.size ≤ gb from hg ▸ Nat.le_refl _); have HB1 := Aside0.mk hb; clear hbox hb hg HB)
    | (go_at_call 116; refine (strconv_isPowerOfTwo.calls _ _ _ HP.out).mono ?_; rintro e w3 ⟨rfl, hd⟩; have HB3 := Aside0.mk (below_step HB1.out hd.below); have BK3 := Aside0.mk (blk_below BK.out hd.below); clear hd BK HB1)
    | (go_at_call 117; refine (tz_16 _ (HT.out.below HB3.out)).mono ?_; rintro e w4 ⟨rfl, hd⟩; have HB2 := Aside0.mk (below_step HB3.out hd); have BK2 := Aside0.mk (blk_below BK3.out hd); clear hd BK3 HB3))
  have HR := Aside0.mk (show Kd.R (Kd.int .u8) 133 _ w.heap.size (fun _ => True) (.slice (some ⟨gb, 0, none⟩) 65 65) (List.replicate 65 (0 : Int)) from by
    have h := BK2.out
    rw [HZ.out] at h
    exact R_arr (L := List.replicate 65 (0 : Int)) h GB.out (by decide))
  obtain ⟨n0, hn0⟩ : ∃ n0, n0 = (showL (16 : Int).toNat u0.toNat).length := ⟨_, rfl⟩
  have hn1 : 1 ≤ n0 ∧ n0 ≤ 32 := by
    have h1 := HU.out
    have h2 := HBb.out
    rw [hn0]
    exact ⟨showL_pos _ _, showL_len (16 : Int).toNat (by omega) 31 u0.toNat (by omega)⟩
  have HN0 := Aside0.mk hn0
  clear BK2 hn0
  go_loopg [1, 13] n0 (fun kq v1 v13 w' => ∃ (u i : Int) (L : List Int), v1 = .int .u64 u ∧ v13 = .int .i64 i ∧ Aside0 (0 ≤ u ∧ u < 4294967296 ∧ (showL (16 : Int).toNat u.toNat).length = kq ∧ kq ≤ n0 ∧ i = 65 - (n0 - kq) ∧ L.length = 65) ∧ Aside0 (showI 16 u ++ L.drop i.toNat = showI 16 u0) ∧ Aside0 (Kd.R (Kd.int .u8) 133 w' w.heap.size (fun _ => True) (.slice (some ⟨gb, 0, none⟩) 65 65) L) ∧ Aside0 (Below w.heap.size w w'))
  case atStart =>
    have h1 := HU.out
    exact ⟨u0, 65, _, rfl, rfl, ⟨h1.1, h1.2, HN0.out.symm, Nat.le_refl _, by omega, by simp⟩, ⟨by simp⟩, HR, HB2⟩
  case round =>
    clear HR HB2
    obtain ⟨u, i, L, rfl, rfl, HI, HS, HR, HB2⟩ := hrel
    have h7 := HBb.out
    by_cases hlt : 16 ≤ u
    · have d4 : decide (16 ≤ u) = true := decide_eq_true hlt
      obtain ⟨h1, h2, h3, h4, h5, h6⟩ := HI.out
      cases gk with
      | zero => exact absurd h3 (by have := showL_pos (16 : Int).toNat u.toNat; omega)
      | succ k1 =>
      cases k1 with
      | zero => exact absurd (showL_one (by omega) h3) (by omega)
      | succ k2 =>
      obtain ⟨h8, h9⟩ := showL_more (show 2 ≤ (16 : Int).toNat by omega) h3
      have hbig := showI_big h7.1 h7.2.1 hlt
      have hdm := Int.mul_ediv_add_emod u 16
      have hm0 := Int.emod_nonneg u (show (16 : Int) ≠ 0 by omega)
      have hm1 := Int.emod_lt_of_pos u (show (0 : Int) < 16 by omega)
      have hq0 : 0 ≤ u / 16 := Int.ediv_nonneg h1 (by omega)
      have hq1 : u / 16 ≤ u := Int.ediv_le_self _ h1
      have hqn : (u / 16).toNat = u.toNat / (16 : Int).toNat := by
        obtain ⟨n, rfl⟩ := Int.eq_ofNat_of_zero_le h1
        rfl
      rw [← hqn] at h9
      obtain ⟨q, hq⟩ : ∃ q : Int, q = u / 16 := ⟨_, rfl⟩
      obtain ⟨r, hr⟩ : ∃ r : Int, r = u % 16 := ⟨_, rfl⟩
      rw [← hq] at hbig hdm hq0 hq1 h9
      rw [← hr] at hbig hdm hm0 hm1
      obtain ⟨j, hj⟩ : ∃ j : Int, j = i - 1 := ⟨_, rfl⟩
      have hj2 : 0 ≤ j ∧ j < 65 := by omega
      have e1 : wrap64 (i - 1) = j := by unfold wrap64; omega
      have e2 : bits .and .u64 u 15 = r := by rw [hr]; exact and_mask u 4 h1 (by omega)
      have e3 : u / 16 = q := hq.symm
      obtain ⟨hx, hf⟩ := Kd.R_celln 0 HR.out j (by omega) (by omega)
      have hdg := digits_idx r (by omega)
      have p1 : (0 ≤ r) = True := eq_true hm0
      have p2 : (r < 36) = True := eq_true (by omega)
      have p3 : (0 ≤ j) = True := eq_true hj2.1
      have p4 : (j < 65) = True := eq_true hj2.2
      have HJ := Aside0.mk hj
      have HJ2 := Aside0.mk hj2
      have HBIG := Aside0.mk hbig
      have HQ := Aside0.mk (show 0 ≤ q ∧ q < 4294967296 from ⟨hq0, by omega⟩)
      have H9 := Aside0.mk h9
      have HP2 := Aside0.mk (Kd.R_putn HR.out j (chI r))
      clear hj hj2 hlt h1 h2 h3 h4 h5 h6 h7 h8 h9 hbig hdm hm0 hm1 hq0 hq1 hqn hq hr
      go_wp2
      go_roundg (k2 + 1)
      case measure => omega
      case rel =>
        have hi := HI.out
        have hj := HJ.out
        have hj2 := HJ2.out
        refine ⟨q, j, L.set j.toNat (chI r), rfl, rfl, ⟨HQ.out.1, HQ.out.2, H9.out, by omega, by omega, by rw [List.length_set]; exact hi.2.2.2.2.2⟩, ⟨?_⟩, ⟨HP2.out⟩, ⟨below_set HB2.out GB.out⟩⟩
        rw [drop_set_at L j.toNat (chI r) (by omega), show j.toNat + 1 = i.toNat by omega, ← HS.out, HBIG.out, List.append_assoc]
        rfl
    · have d4 : decide (16 ≤ u) = false := decide_eq_false hlt
      obtain ⟨j, hj⟩ : ∃ j : Int, j = i - 1 := ⟨_, rfl⟩
      have hj2 : 0 ≤ j ∧ j < 65 := by have := HI.out; omega
      have e1 : wrap64 (i - 1) = j := by unfold wrap64; omega
      obtain ⟨hx, hf⟩ := Kd.R_celln 0 HR.out j (by omega) (by omega)
      have hu1 := HI.out.1
      have hdg := digits_idx u (by omega)
      have p1 : (0 ≤ u) = True := eq_true hu1
      have p2 : (u < 36) = True := eq_true (by omega)
      have p3 : (0 ≤ j) = True := eq_true hj2.1
      have p4 : (j < 65) = True := eq_true hj2.2
      have HJ := Aside0.mk hj
      have HJ2 := Aside0.mk hj2
      have HLT := Aside0.mk hlt
      clear hj hj2 hlt hu1 h7
      have HP2 := Aside0.mk (Kd.R_putn HR.out j (chI u))
      have hsl : ∀ W, (Instr.sliceAt 133 (.pointer (some ⟨gb, 0, none⟩)) (some (.int .i64 j)) none none).run Tryd.prog W = .ok (.slice (some ⟨gb, j.toNat, none⟩) (65 - j.toNat) (65 - j.toNat)) W := fun W => slice_arr gb j HJ2.out W
      have hcv : (convert 25 9 (.slice (some ⟨gb, j.toNat, none⟩) (65 - j.toNat) (65 - j.toNat))).run Tryd.prog (wr.setCell ⟨gb, j.toNat, none⟩ (.int .u8 (chI u))) = .ok (.string (strOfNums (showI 16 u0))) (wr.setCell ⟨gb, j.toNat, none⟩ (.int .u8 (chI u))) := by
        have hi := HI.out
        have hj := HJ.out
        have hj2 := HJ2.out
        have h7 := HBb.out
        have h := C_cut (Kd.R_reads' HP2.out).2.2 (c := 65) (by rw [List.length_set]; omega) j.toNat (65 - j.toNat) (by rw [List.length_set]; omega)
        rw [cutAt_own (show j.toNat < 65 by omega)] at h
        have h' : Kd.C (Kd.int .u8) (wr.setCell ⟨gb, j.toNat, none⟩ (.int .u8 (chI u))) (some ⟨gb, j.toNat * 1, none⟩) (65 - j.toNat) (((L.set j.toNat (chI u)).drop j.toNat).take (65 - j.toNat)) := h
        rw [Nat.mul_one] at h'
        have h2 := Kd.C_string (src := 25) (dst := 9) (c := 65 - j.toNat) Tryd.underlying25 Tryd.underlying5 Tryd.underlying9 h'
        rw [h2, List.take_of_length_le (by rw [List.length_drop, List.length_set]; omega), drop_set_at L j.toNat (chI u) (by omega), show j.toNat + 1 = i.toNat by omega, ← HS.out, showI_small hi.1 (Int.lt_of_not_ge HLT.out) h7.2.1]
        rfl
      go_wp2
      go_ret2
      exact ⟨rfl, below_set HB2.out GB.out⟩
end Go.Proofs.YtlhnaplmphdhlaaDoor.Q
end
section
namespace Go.Proofs.YtlhnaplmphdhlaaDoor.Q
open Go.RowKit Go.Proofs.YtlhnaplmphdhlaaDoorW.PrintWords Go.Proofs.YtlhnaplmphdhlaaDoorW.PrintLast Go.Proofs.YtlhnaplmphdhlaaDoorW.PrintMore
def showB (b u : Int) : ByteArray := ⟨(showL b.toNat u.toNat).toArray⟩
theorem str_showI (b u : Int) : strOfNums (showI b u) = showB b u := by
  unfold strOfNums showI showB
  rw [List.map_map]
  congr 2
  conv => rhs; rw [← List.map_id (showL b.toNat u.toNat)]
  apply List.map_congr_left
  intro c _
  exact UInt8.toNat_inj.1 (by simp)
set_option maxHeartbeats 1000000 in
set_option maxRecDepth 100000 in
theorem formatUint_16 (u : Int) (hu : 0 ≤ u ∧ u < 4294967296) (w : World) (ht : QB.Tabs w) :
    Calls Tryd.prog 95 #[.int .u64 u, .int .i64 16] w fun e w' => e = .returned (.string (showB 16 u)) ∧ Below w.heap.size w w' := by
  have HC := Aside0.mk (formatBits_p16 u hu w ht)
  rw [str_showI] at HC
  clear ht hu
  go_enter Tryd.func95, Tryd.ntmps95
  go_wp2_with (first
    | (go_at_call 109; (with_reducible refine HC.out.mono ?_); rintro e w1 ⟨rfl, hb⟩; have HB := Aside0.mk hb; clear hb))
  go_ret
  exact ⟨rfl, HB.out⟩
set_option maxHeartbeats 1000000 in
set_option maxRecDepth 100000 in
theorem formatUintO_16 (u : Int) (hu : 0 ≤ u ∧ u < 4294967296) (w : World) (ht : QB.Tabs w) :
    Calls Tryd.prog 77 #[.int .u64 u, .int .i64 16] w fun e w' => e = .returned (.string (showB 16 u)) ∧ Below w.heap.size w w' := by
  have HC := Aside0.mk (formatUint_16 u hu w ht)
  clear ht hu
  go_enter Tryd.func77, Tryd.ntmps77
  go_wp2_with (first
    | (go_at_call 95; (with_reducible refine HC.out.mono ?_); rintro e w1 ⟨rfl, hb⟩; have HB := Aside0.mk hb; clear hb))
  go_ret
  exact ⟨rfl, HB.out⟩
set_option maxHeartbeats 1000000 in
set_option maxRecDepth 100000 in
theorem show16 (n : Int) (hn : 0 ≤ n ∧ n < 4294967296) (w : World) (ht : QB.Tabs w) :
    Calls Tryd.prog 56 #[.int .u32 n, .int .u32 16] w fun e w' => e = .returned (.tuple #[.string (showB 16 n), .int .i64 0]) ∧ Below w.heap.size w w' := by
  have HU := Aside0.mk (fun (W : World) (hT : QB.Tabs W) => formatUintO_16 n hn W hT)
  have HF := Aside0.mk (show digit_fit.f 16 = some true by kernel_rfl)
  have HT := Aside0.mk ht
  have e1 : IntKind.u64.wrap n = n := wrap_u64_id n hn.1 (by omega)
  clear hn ht
  go_enter Tryd.func56, Tryd.ntmps56
  go_wp2_with (first
    | (go_at_call 74; (with_reducible refine (digit_fit.calls _ _ _ HF.out).mono ?_); rintro e w1 ⟨rfl, hd⟩; have HB1 := Aside0.mk hd.below; have HT1 := Aside0.mk (HT.out.below hd.below); clear hd)
    | (go_at_call 77; (with_reducible refine (HU.out _ HT1.out).mono ?_); rintro e w2 ⟨rfl, hb⟩; have HB2 := Aside0.mk (below_step HB1.out hb); clear hb))
  go_ret2
  exact ⟨rfl, HB2.out⟩
def digit_Show.f (n b : Int) : Option (ByteArray × Int) := if (0 ≤ n ∧ n < 4294967296) ∧ b = 16 then some (showB 16 n, 0) else none
theorem digit_Show.calls (a0 : Int) (a1 : Int) (r1 : ByteArray) (r2 : Int) (w : World) (ht : QB.Tabs w) (h : digit_Show.f a0 a1 = some (r1, r2)) :
    Calls Tryd.prog 56 #[.int .u32 a0, .int .u32 a1] w fun e w' => e = .returned (.tuple #[.string r1, .int .i64 r2]) ∧ Below w.heap.size w w' := by
  unfold digit_Show.f at h
  split at h
  case isFalse => cases h
  rename_i hn
  obtain ⟨rfl, rfl⟩ := Prod.mk.inj (Option.some.inj h)
  obtain ⟨hn, rfl⟩ := hn
  exact show16 a0 hn w ht
end Go.Proofs.YtlhnaplmphdhlaaDoor.Q
end
section
namespace Go.Proofs.YtlhnaplmphdhlaaDoor.Q
open Go.RowKit Go.Proofs.YtlhnaplmphdhlaaDoorW.PrintWords Go.Proofs.YtlhnaplmphdhlaaDoorW.PrintLast Go.Proofs.YtlhnaplmphdhlaaDoorW.PrintMore
set_option linter.unusedVariables false
set_option linter.unusedSimpArgs false

attribute [local go_sem] max2_int min2_int max_two min_two max_three min_three max_four min_four
/-! ### prop_ShowUnit: function 37 -/
def prop_ShowUnit.l0 : Nat → List ByteArray → List Int → Int → Int → Option (ByteArray)
  | 0, _, _, _, _ => none
  | k + 1, x3, x9, x10, x11 => if x11 < x10 then (if 0 ≤ x11 then (if x11 < (x9.length : Int) then ((digit_Show.f (rd x9 x11) 16).bind fun bt38005 => (if x11 < (x3.length : Int) then (prop_ShowUnit.l0 k (x3.set (x11 : Int).toNat bt38005.1) x9 x10 (wrap64 (x11 + 1))) else (none))) else (none)) else (none)) else ((strings_Join.f x3 (⟨#[44]⟩ : ByteArray)).bind fun t38008 => (some t38008))
def prop_ShowUnit.f (k : Nat) (l0 : List Int) : Option (ByteArray) := if 0 ≤ (l0.length : Int) then (if ((l0.length : Int) : Int).toNat ≤ 17592186044416 then (prop_ShowUnit.l0 k (List.replicate ((l0.length : Int) : Int).toNat (⟨#[]⟩ : ByteArray)) l0 (l0.length : Int) 0) else (none)) else (none)
theorem prop_ShowUnit.mono_l : ∀ k, (∀ y0 y1 y2 y3, LeO (prop_ShowUnit.l0 k y0 y1 y2 y3) (prop_ShowUnit.l0 (k + 1) y0 y1 y2 y3))
  | 0 => fun _ _ _ _ r h => by simp [prop_ShowUnit.l0] at h
  | k + 1 => by
    have ih0 := prop_ShowUnit.mono_l k
    · intro y0 y1 y2 y3
      unfold prop_ShowUnit.l0
      repeat' first
      | (with_reducible exact ih0 _ _ _ _)
      | (with_reducible exact LeO.refl _)
      | (with_reducible exact LeO.none _)
      | (with_reducible refine LeO.ite ?_ ?_)
      | (with_reducible refine LeO.bind ?_ (fun _ => ?_))
      | exact ih0 _ _ _ _
      | exact LeO.none _
      | refine LeO.ite ?_ ?_
      | refine LeO.bind ?_ (fun _ => ?_)
theorem prop_ShowUnit.mono : ∀ a0 k, LeO (prop_ShowUnit.f k a0) (prop_ShowUnit.f (k + 1) a0) := by
  intro a0 k
  have ih0 := prop_ShowUnit.mono_l k
  unfold prop_ShowUnit.f
  repeat' first
      | (with_reducible exact ih0 _ _ _ _)
      | (with_reducible exact LeO.refl _)
      | (with_reducible exact LeO.none _)
      | (with_reducible refine LeO.ite ?_ ?_)
      | (with_reducible refine LeO.bind ?_ (fun _ => ?_))
      | exact ih0 _ _ _ _
      | exact LeO.none _
      | refine LeO.ite ?_ ?_
      | refine LeO.bind ?_ (fun _ => ?_)
set_option maxHeartbeats 8000000 in
set_option maxRecDepth 100000 in
theorem prop_ShowUnit.calls (k : Nat) (A0 : Option Addr) (c0 : Nat) (l0 : List Int) (r : ByteArray) (w : World) (ht : QB.Tabs w) (hr0 : Kd.C (Kd.int .u32) w A0 l0.length l0) (hc0 : l0.length ≤ c0) (h : prop_ShowUnit.f k l0 = some r) :
    Calls Tryd.prog 37 #[.slice A0 l0.length c0] w fun e w' => e = .returned (.string r) ∧ Below w.heap.size w w' := by
  have HR0 := Aside0.mk hr0
  have HC0 := Aside0.mk hc0
  clear hr0 hc0
  have HB := Aside0.mk (Below.refl w.heap.size w)
  have H : (if 0 ≤ (l0.length : Int) then (if ((l0.length : Int) : Int).toNat ≤ 17592186044416 then (prop_ShowUnit.l0 k (List.replicate ((l0.length : Int) : Int).toNat (⟨#[]⟩ : ByteArray)) l0 (l0.length : Int) 0) else (none)) else (none)) = some r := h
  clear h
  by_cases c2 : 0 ≤ (l0.length : Int)
  · rw [if_pos c2] at H
    have c2b0 := eq_true c2
    have c2b1 : decide (0 ≤ (l0.length : Int)) = true := decide_eq_true c2
    clear c2
    by_cases c3 : ((l0.length : Int) : Int).toNat ≤ 17592186044416
    · rw [if_pos c3] at H
      have c3b0 := eq_true c3
      have c3b1 : decide (((l0.length : Int) : Int).toNat ≤ 17592186044416) = true := decide_eq_true c3
      clear c3
      obtain ⟨y38001, hy38001⟩ : ∃ y_ : List ByteArray, y_ = (List.replicate ((l0.length : Int) : Int).toNat (⟨#[]⟩ : ByteArray)) := ⟨_, rfl⟩
      replace H : (prop_ShowUnit.l0 k y38001 l0 (l0.length : Int) 0) = some r := by first | (rw [hy38001]; with_reducible exact H) | (have H2_ := (Option.bind_some _ _).symm.trans H; rw [hy38001]; with_reducible exact H2_) | (have H2_ := (Option.bind_some _ _).symm.trans H; with_reducible exact H2_) | with_reducible exact H | (rw [hy38001]; exact H) | exact H
      have Ny38001 := Aside0.mk hy38001
      clear hy38001
      have H' := Aside0.mk H
      clear H
      go_enter Tryd.func37, Tryd.ntmps37
      go_wp2_with (first | ((with_reducible refine gate_dst (N := 8) rfl ?_); refine Kd.R_make Kd.string _ 9 rfl (N := 8) rfl 39 _ _ rfl (l0.length : Int) rfl rfl Tryd.underlying39 (.string ⟨#[]⟩) 16 info9 rfl (by decide) (by omega) (⟨#[]⟩ : ByteArray) (ok := fun _ => True) (okp := fun _ => True) rfl (fun _ hk => hk) trivial (of_decide_eq_true (by first | (with_reducible assumption) | assumption)) (Nat.le_trans (Nat.mul_le_mul_right _ (of_decide_eq_true (by first | (with_reducible assumption) | assumption) : (l0.length : Int).toNat ≤ 17592186044416)) (by omega)) (Below.refl _ _) (Nat.le_refl _) ?_; intro v38002 w4 ho5 hb hg_ hnew_; clear hg_ hnew_; (first | rw [← Ny38001.out] at ho5 | (simp only [Int.reduceToNat] at ho5; rw [← Ny38001.out] at ho5)); have n0_ := Aside0.mk (Kd.R_lower ho5 (below_size (by repeat (first | (with_reducible first | exact HB.out | apply below_alloc | apply pw_below_drewN | apply below_drew1) | exact HB.out)))); have n1_ := Aside0.mk (below_step (by repeat (first | (with_reducible first | exact HB.out | apply below_alloc | apply pw_below_drewN | apply below_drew1) | exact HB.out)) hb); clear HB; have HO38003 := n0_; have HB := n1_; clear n0_ n1_; clear hb ho5))
      go_loopg [11] k (fun kq v11 w' => ∃ (x3_1 : List ByteArray) (x11_1 : Int), v11 = .int .i64 x11_1 ∧ Aside0 (prop_ShowUnit.l0 kq x3_1 l0 (l0.length : Int) x11_1 = some r) ∧ Aside0 (kq ≤ k) ∧ Aside0 (Kd.R Kd.string 9 w' w.heap.size (fun _ => True) v38002 x3_1) ∧ Aside0 (Below w.heap.size w w'))
      case atStart => exact ⟨(y38001), (0), (by first | rfl | (simp; done) | (simp [*]; done)), H', ⟨Nat.le_refl _⟩, ⟨by (with_reducible repeat (first | apply Kd.R_alloc | apply Kd.R_drewN | apply Kd.R_drew)); exact HO38003.out⟩, ⟨by repeat (first | (with_reducible first | exact HB.out | apply below_alloc | apply pw_below_drewN | apply below_drew1) | exact HB.out)⟩⟩
      case round =>
        clear H'
        try clear c2
        try clear c2b0
        try clear c2b1
        try clear p2
        try clear c3
        try clear c3b0
        try clear c3b1
        obtain ⟨x3_1, x11_1, rfl, HA, HK1, HO_3, HB⟩ := hrel
        cases gk with
        | zero => exact absurd HA.out (by simp [prop_ShowUnit.l0])
        | succ k1 =>
          have H := HA.out
          clear HA
          simp only [prop_ShowUnit.l0] at H
          by_cases c6 : x11_1 < (l0.length : Int)
          · rw [if_pos c6] at H
            have c6b0 : decide (x11_1 < (l0.length : Int)) = true := decide_eq_true c6
            clear c6
            by_cases c7 : 0 ≤ x11_1
            · rw [if_pos c7] at H
              have c7b0 : decide (0 ≤ x11_1) = true := decide_eq_true c7
              clear c7
              by_cases c8 : x11_1 < (l0.length : Int)
              · rw [if_pos c8] at H
                have c8b0 : decide (x11_1 < (l0.length : Int)) = true := decide_eq_true c8
                clear c8
                replace H := Option.bind_eq_some_iff.mp H
                obtain ⟨⟨t38005, t38006⟩, A90, H⟩ := H
                replace H : (if x11_1 < (x3_1.length : Int) then (prop_ShowUnit.l0 k1 (x3_1.set (x11_1 : Int).toNat t38005) l0 (l0.length : Int) (wrap64 (x11_1 + 1))) else (none)) = some r := H
                have A9 := Aside0.mk A90
                clear A90
                by_cases c10 : x11_1 < (x3_1.length : Int)
                · rw [if_pos c10] at H
                  have c10b0 : decide (x11_1 < (x3_1.length : Int)) = true := decide_eq_true c10
                  clear c10
                  obtain ⟨y38007, hy38007⟩ : ∃ y_ : List ByteArray, y_ = (x3_1.set (x11_1 : Int).toNat t38005) := ⟨_, rfl⟩
                  replace H : (prop_ShowUnit.l0 k1 y38007 l0 (l0.length : Int) (wrap64 (x11_1 + 1))) = some r := by first | (rw [hy38007]; with_reducible exact H) | (have H2_ := (Option.bind_some _ _).symm.trans H; rw [hy38007]; with_reducible exact H2_) | (have H2_ := (Option.bind_some _ _).symm.trans H; with_reducible exact H2_) | with_reducible exact H | (rw [hy38007]; exact H) | exact H
                  have Ny38007 := Aside0.mk hy38007
                  clear hy38007
                  have H' := Aside0.mk H
                  clear H
                  have p38004 : 0 ≤ (x11_1 : Int) := of_decide_eq_true (by first | (with_reducible assumption) | assumption)
                  have q38004 : x11_1 < (l0.length : Int) := of_decide_eq_true (by first | (with_reducible assumption) | assumption)
                  obtain ⟨ad38004, e38004, hx38004_0⟩ := Kd.at_int HR0.out x11_1 p38004 q38004
                  cases e38004
                  replace hx38004_0 := (HB.out.cell (World.block_lt_of_cell? w _ hx38004_0)).trans hx38004_0
                  replace p38004 := eq_true p38004
                  replace q38004 := eq_true q38004
                  go_wp2_with (first | ((with_reducible refine gate_callee (f := 56) rfl ?_); refine goesL_ (some 20) rfl rfl Tryd.func56 (by kernel_rfl) rfl #[.int .u32 (rd l0 x11_1), .int .u32 16] rfl (by (try simp only [List.map_toArray, List.map_cons, List.map_nil]); first | done | rfl | (simp only [List.length_drop, List.length_take]; rfl)) ?_; (with_reducible refine (digit_Show.calls (rd l0 x11_1) 16 t38005 t38006 _ (QB.Tabs.below ht (by repeat (first | (with_reducible first | exact HB.out | apply below_alloc | apply pw_below_drewN | apply below_drew1 | refine below_set ?_ (Aside0.out (by assumption))) | exact HB.out))) A9.out).mono ?_); rintro e w12 ⟨rfl, hb⟩; refine ⟨_, rfl, ?_⟩; have n0_ := Aside0.mk (Kd.R_below (by (with_reducible repeat (first | apply Kd.R_alloc | apply Kd.R_drewN | apply Kd.R_drew)); exact HO_3.out) hb); have n1_ := Aside0.mk (below_step (by repeat (first | (with_reducible first | exact HB.out | apply below_alloc | apply pw_below_drewN | apply below_drew1) | exact HB.out)) hb); clear HO_3; clear HB; have HO_3 := n0_; have HB := n1_; clear n0_ n1_; (try clear hb); (try clear hb2); (try clear hk); (try clear hi); have p11 : 0 ≤ (x11_1 : Int) := of_decide_eq_true (by first | (with_reducible assumption) | assumption); have q11 : (x11_1 : Int) < ((x3_1.length : Int) : Int) := of_decide_eq_true (by first | (with_reducible assumption) | assumption); obtain ⟨go11, co11, eo11, gb11, gl11, cl11, HG11⟩ := Kd.R_form HO_3.out (by omega); (first | cases eo11 | (injection eo11 with ea_ en_ ec_; (first | subst ea_ | (injection ea_ with ea_; subst ea_)); subst ec_; clear en_)); have GB11 := Aside0.mk gb11; have GG11 := Aside0.mk HG11; clear gb11 gl11 HG11; obtain ⟨hx11_0, hf11_0⟩ := Kd.R_celln (⟨#[]⟩ : ByteArray) HO_3.out (x11_1 : Int) p11 q11; replace p11 := eq_true p11; replace q11 := eq_true q11; obtain ⟨hy13_, hz13_⟩ := Kd.R_celln (⟨#[]⟩ : ByteArray) HO_3.out (x11_1 : Int) (of_decide_eq_true (by first | (with_reducible assumption) | assumption)) (of_decide_eq_true (by first | (with_reducible assumption) | assumption)); have HP13 := Kd.R_putg HO_3.out (x11_1 : Int) t38005) | ((with_reducible refine gate_store (t := 9) (p := 23) rfl ?_); refine store_event (t := 9) (p := 23) (v := ?vo_w14) (w1 := (w12.setCell ⟨go11, (x11_1 : Int).toNat, none⟩ (.string t38005))) ?hg ?ho ?hn ?hr ?_; (case ho => rfl); (case hg => rfl); (case hn => rfl); (case hr => first | (go_simp; done) | (go_simp; rfl)); intro w14 hw; have hg : w12.grownBy w14 (some go11) := (by rw [hw]; exact HP13.2); have hp_ : Kd.R Kd.string 9 w14 w.heap.size (fun _ => True) (.slice (some ⟨go11, 0, none⟩) x3_1.length co11) y38007 := (by rw [hw, Ny38007.out]; exact HP13.1); clear HP13; have n0_ := Aside0.mk (hp_); have n1_ := Aside0.mk ((by rw [hw]; exact below_set (HB.out) GB11.out : Below w.heap.size w w14)); clear HO_3; clear HB; have HO_3 := n0_; have HB := n1_; clear n0_ n1_; clear hg hw hp_))
                  go_roundg k1
                  case measure => have := HK1.out; omega
                  case rel => exact ⟨(y38007), (wrap64 (x11_1 + 1)), (by first | rfl | (simp; done) | (simp [*]; done)), H', ⟨by have := HK1.out; omega⟩, ⟨by (with_reducible repeat (first | apply Kd.R_alloc | apply Kd.R_drewN | apply Kd.R_drew)); exact HO_3.out⟩, ⟨by repeat (first | (with_reducible first | exact HB.out | apply below_alloc | apply pw_below_drewN | apply below_drew1) | exact HB.out)⟩⟩
                · rw [if_neg c10] at H
                  exact absurd H (by simp)
              · rw [if_neg c8] at H
                exact absurd H (by simp)
            · rw [if_neg c7] at H
              exact absurd H (by simp)
          · rw [if_neg c6] at H
            have c6b0 : decide (x11_1 < (l0.length : Int)) = false := decide_eq_false c6
            clear c6
            replace H := Option.bind_eq_some_iff.mp H
            obtain ⟨t38008, A150, H⟩ := H
            replace H : (some t38008) = some r := H
            have A15 := Aside0.mk A150
            clear A150
            obtain rfl := Option.some.inj H
            obtain ⟨Ao16, co16, eo16⟩ := Kd.R_slice HO_3.out
            subst eo16
            go_wp2_with (first | ((with_reducible refine gate_callee (f := 57) rfl ?_); refine goesL_ (some 26) rfl rfl Tryd.func57 (by kernel_rfl) rfl #[.slice Ao16 x3_1.length co16, .string (⟨#[44]⟩ : ByteArray)] rfl (by (try simp only [List.map_toArray, List.map_cons, List.map_nil]); first | done | rfl | (simp only [List.length_drop, List.length_take]; rfl)) ?_; (with_reducible refine (strings_Join.calls _ _ x3_1 (⟨#[44]⟩ : ByteArray) t38008 _ ?side1 ?side2 A15.out).mono ?_); (case side1 => repeat (first | exact (Kd.R_reads' HO_3.out).2.2 | (with_reducible refine Kd.C_alloc ?_ _) | (with_reducible refine Kd.C_drewN ?_ _) | (with_reducible refine Kd.C_drew ?_))); (case side2 => exact (Kd.R_reads' HO_3.out).2.1); rintro e w17 ⟨rfl, hb⟩; refine ⟨_, rfl, ?_⟩; have n0_ := Aside0.mk (Kd.R_below (by (with_reducible repeat (first | apply Kd.R_alloc | apply Kd.R_drewN | apply Kd.R_drew)); exact HO_3.out) hb); have n1_ := Aside0.mk (below_step (by repeat (first | (with_reducible first | exact HB.out | apply below_alloc | apply pw_below_drewN | apply below_drew1) | exact HB.out)) hb); clear HO_3; clear HB; have HO_3 := n0_; have HB := n1_; clear n0_ n1_; (try clear hb); (try clear hb2); (try clear hk); (try clear hi)))
            go_ret
            exact ⟨by first | rfl | (simp [errW_none, errW_some] <;> rfl) | (simp [*, errW_none, errW_some] <;> rfl), by repeat (first | (with_reducible first | exact HB.out | apply below_alloc | apply pw_below_drewN | apply below_drew1) | exact HB.out)⟩
    · rw [if_neg c3] at H
      exact absurd H (by simp)
  · rw [if_neg c2] at H
    exact absurd H (by simp)

end Go.Proofs.YtlhnaplmphdhlaaDoor.Q
end
section
namespace Go.Proofs.YtlhnaplmphdhlaaDoor.Q
open Go.RowKit Go.Proofs.YtlhnaplmphdhlaaDoorW.PrintWords Go.Proofs.YtlhnaplmphdhlaaDoorW.PrintLast Go.Proofs.YtlhnaplmphdhlaaDoorW.PrintMore
theorem digit_cut_all : ((List.range 36).all fun (d : Nat) => (digitsB.extract d (d + 1)).data.toList == [UInt8.ofNat (chN d)]) = true := by kernel_rfl
def digS (d : Int) : ByteArray := ⟨[UInt8.ofNat (chN d.toNat)].toArray⟩
theorem digit_cut (d d1 : Int) (h : 0 ≤ d ∧ d < 36) (h1 : d1 = d + 1) : (⟨#[48, 49, 50, 51, 52, 53, 54, 55, 56, 57, 97, 98, 99, 100, 101, 102, 103, 104, 105, 106, 107, 108, 109, 110, 111, 112, 113, 114, 115, 116, 117, 118, 119, 120, 121, 122]⟩ : ByteArray).extract d.toNat d1.toNat = digS d := by
  have h2 := List.all_eq_true.1 digit_cut_all d.toNat (List.mem_range.2 (by omega))
  rw [beq_iff_eq] at h2
  rw [show d1.toNat = d.toNat + 1 by omega]
  show digitsB.extract d.toNat (d.toNat + 1) = digS d
  unfold digS
  generalize digitsB.extract d.toNat (d.toNat + 1) = x at h2
  obtain ⟨⟨l⟩⟩ := x
  rw [show l = _ from h2]
theorem digS_size (d : Int) : (digS d).size = 1 := rfl
def preL (kq : Nat) (b u : Int) : List UInt8 := if kq = 0 then [] else showL b.toNat u.toNat
set_option maxHeartbeats 4000000 in
set_option maxRecDepth 100000 in
theorem refShow_calls (b n : Int) (hb : 2 ≤ b ∧ b ≤ 36) (hn : 0 ≤ n ∧ n < 4294967296) (w : World) :
    Calls Tryd.prog 58 #[.int .u32 n, .int .u32 b] w fun e w' => e = .returned (.tuple #[.string (showB b n), .int .i64 0]) ∧ Below w.heap.size w w' := by
  have HBb := Aside0.mk hb
  have HN := Aside0.mk hn
  have HB := Aside0.mk (Below.refl w.heap.size w)
  have d1 : decide (b < 2) = false := decide_eq_false (by omega)
  have d3 : decide (36 < b) = false := decide_eq_false (by omega)
  obtain ⟨n0, hn0⟩ : ∃ n0, n0 = (showL b.toNat n.toNat).length := ⟨_, rfl⟩
  have hn1 : 1 ≤ n0 ∧ n0 ≤ 32 := by
    rw [hn0]
    exact ⟨showL_pos _ _, showL_len b.toNat (by omega) 31 n.toNat (by omega)⟩
  have HN0 := Aside0.mk hn0
  clear hb hn hn0
  go_enter Tryd.func58, Tryd.ntmps58
  go_wp2
  go_loopg [0, 6, 7] n0 (fun kq v0 v6 v7 w' => ∃ (u : Int) (s : ByteArray) (i : Int), v0 = .int .u32 u ∧ v6 = .string s ∧ v7 = .int .i64 i ∧ Aside0 (0 ≤ u ∧ u < 4294967296 ∧ 0 ≤ i ∧ i + kq = n0 ∧ (kq = 0 → u = 0) ∧ (1 ≤ kq → (showL b.toNat u.toNat).length = kq ∧ (i = 0 ∨ 0 < u))) ∧ Aside0 (preL kq b u ++ s.data.toList = showL b.toNat n.toNat) ∧ Aside0 (Below w.heap.size w w'))
  case atStart =>
    have h1 := HN.out
    refine ⟨n, _, 0, rfl, rfl, rfl, ⟨h1.1, h1.2, by omega, by omega, by omega, fun _ => ⟨HN0.out.symm, .inl rfl⟩⟩, ⟨?_⟩, HB⟩
    unfold preL
    rw [if_neg (by omega)]
    simp
  case round =>
    clear HB
    obtain ⟨u, s, i, rfl, rfl, rfl, HI, HS, HB⟩ := hrel
    cases gk with
    | zero =>
      have hi := HI.out
      have hu : u = 0 := hi.2.2.2.2.1 rfl
      subst hu
      have hs : s = showB b n := by
        have h := HS.out
        unfold showB
        rw [← h]
        obtain ⟨⟨l⟩⟩ := s
        rfl
      subst hs
      have d4 : (i == 0) = false := beq_eq_false_iff_ne.2 (by omega)
      by_cases h32 : i < 32
      · have d5 : decide (i < 32) = true := decide_eq_true h32
        clear hi h32
        go_wp2
        go_ret2
        exact ⟨rfl, HB.out⟩
      · have d5 : decide (i < 32) = false := decide_eq_false h32
        clear hi h32
        go_wp2
        go_ret2
        exact ⟨rfl, HB.out⟩
    | succ k1 =>
      obtain ⟨h1, h2, h3, h4, h5, h6⟩ := HI.out
      obtain ⟨h8, h9⟩ := h6 (by omega)
      have h7 := HBb.out
      have d5 : decide (i < 32) = true := decide_eq_true (by omega)
      have hm0 := Int.emod_nonneg u (show b ≠ 0 by omega)
      have hm1 := Int.emod_lt_of_pos u (show 0 < b by omega)
      have hq0 : 0 ≤ u / b := Int.ediv_nonneg h1 (by omega)
      have hq1 : u / b ≤ u := Int.ediv_le_self _ h1
      have htd : u.tdiv b = u / b := Int.tdiv_eq_ediv_of_nonneg h1
      have htm : u.tmod b = u % b := Int.tmod_eq_emod_of_nonneg h1
      have hss := HS.out
      have hsz : s.size + (k1 + 1) = n0 := by
        have h := congrArg List.length hss
        unfold preL at h
        rw [if_neg (by omega), List.length_append, h8, data_length, ← HN0.out] at h
        omega
      obtain ⟨q, hq⟩ : ∃ q : Int, q = u / b := ⟨_, rfl⟩
      obtain ⟨d, hd⟩ : ∃ d : Int, d = u % b := ⟨_, rfl⟩
      obtain ⟨dd, hdd⟩ : ∃ dd : Int, dd = d + 1 := ⟨_, rfl⟩
      have p5 : (b = 0) = False := eq_false (by omega)
      have htd2 : u.tdiv b = q := by rw [htd, hq]
      have htm2 : u.tmod b = d := by rw [htm, hd]
      rw [← hd] at hm0 hm1
      rw [← hq] at hq0 hq1
      have e1 : IntKind.u32.wrap q = q := by simp [IntKind.wrap, IntKind.bits, IntKind.signed]; omega
      have e2 : IntKind.u32.wrap d = d := by simp [IntKind.wrap, IntKind.bits, IntKind.signed]; omega
      have e3 : wrap64 d = d := by unfold wrap64; omega
      have e4 : wrap64 (d + 1) = dd := by rw [hdd]; unfold wrap64; omega
      have e5 : wrap64 (i + 1) = i + 1 := by unfold wrap64; omega
      have hcut := digit_cut d dd ⟨hm0, by omega⟩ hdd
      have hcs : (digS d).size + s.size ≤ 9223372036854775807 := by rw [digS_size]; omega
      have g1 : (0 ≤ d) = True := eq_true hm0
      have g2 : (d ≤ dd) = True := eq_true (by omega)
      have g3 : (dd ≤ 36) = True := eq_true (by omega)
      have HREL := Aside0.mk (show 0 ≤ q ∧ q < 4294967296 ∧ 0 ≤ i + 1 ∧ i + 1 + k1 = n0 ∧ (k1 = 0 → q = 0) ∧ (1 ≤ k1 → (showL b.toNat q.toNat).length = k1 ∧ (i + 1 = 0 ∨ 0 < q)) ∧ preL k1 b q ++ (digS d ++ s).data.toList = showL b.toNat n.toNat from by
        have hqn : q.toNat = u.toNat / b.toNat := by
          rw [hq]
          obtain ⟨x, rfl⟩ := Int.eq_ofNat_of_zero_le h1
          obtain ⟨m, rfl⟩ := Int.eq_ofNat_of_zero_le (show 0 ≤ b by omega)
          rfl
        have hdn : d.toNat = u.toNat % b.toNat := by
          rw [hd]
          obtain ⟨x, rfl⟩ := Int.eq_ofNat_of_zero_le h1
          obtain ⟨m, rfl⟩ := Int.eq_ofNat_of_zero_le (show 0 ≤ b by omega)
          rfl
        have hap : (digS d ++ s).data.toList = UInt8.ofNat (chN d.toNat) :: s.data.toList := by
          obtain ⟨⟨l⟩⟩ := s
          unfold digS
          rw [show (⟨⟨l⟩⟩ : ByteArray) = ⟨l.toArray⟩ from rfl, ByteArray.mk_append_mk]
          rfl
        rw [hap]
        unfold preL at hss ⊢
        rw [if_neg (by omega)] at hss
        cases k1 with
        | zero =>
          have hlt := showL_one (show 2 ≤ b.toNat by omega) h8
          have hq0' : q = 0 := by
            have : q.toNat = 0 := by rw [hqn]; exact Nat.div_eq_of_lt hlt
            omega
          refine ⟨hq0, by omega, by omega, by omega, fun _ => hq0', fun h => by omega, ?_⟩
          rw [if_pos rfl, ← hss, showL_small hlt, hdn, Nat.mod_eq_of_lt hlt]
          rfl
        | succ k2 =>
          obtain ⟨hge, hl2⟩ := showL_more (show 2 ≤ b.toNat by omega) h8
          have hqp : 0 < q := by
            have h10 : 1 ≤ u.toNat / b.toNat := (Nat.le_div_iff_mul_le (by omega)).2 (by omega)
            omega
          refine ⟨hq0, by omega, by omega, by omega, fun h => by omega, fun _ => ⟨by rw [hqn]; exact hl2, .inr hqp⟩, ?_⟩
          rw [if_neg (by omega), ← hss, showL_big (by omega) hge, hqn, hdn, List.append_assoc]
          rfl)
      have H9 := Aside0.mk h9
      clear h1 h2 h3 h4 h5 h6 h7 h8 hm0 hm1 hq0 hq1 htd htm hss hsz hq hd hdd hn1
      by_cases hup : 0 < u
      · have d6 : decide (0 < u) = true := decide_eq_true hup
        clear hup h9
        go_wp2
        go_roundg k1
        case measure => omega
        case rel =>
          have h := HREL.out
          exact ⟨q, digS d ++ s, i + 1, rfl, rfl, rfl, ⟨h.1, h.2.1, h.2.2.1, h.2.2.2.1, h.2.2.2.2.1, h.2.2.2.2.2.1⟩, ⟨h.2.2.2.2.2.2⟩, HB⟩
      · have d6 : decide (0 < u) = false := decide_eq_false hup
        have d7 : (i == 0) = true := beq_iff_eq.2 (by omega)
        clear hup h9
        go_wp2
        go_roundg k1
        case measure => omega
        case rel =>
          have h := HREL.out
          exact ⟨q, digS d ++ s, i + 1, rfl, rfl, rfl, ⟨h.1, h.2.1, h.2.2.1, h.2.2.2.1, h.2.2.2.2.1, h.2.2.2.2.2.1⟩, ⟨h.2.2.2.2.2.2⟩, HB⟩
def tinderref02_Show.f (n b : Int) : Option (ByteArray × Int) := if 0 ≤ n ∧ n < 4294967296 then (if 2 ≤ b ∧ b ≤ 36 then some (showB b n, 0) else some (⟨#[]⟩, 1)) else none
set_option maxHeartbeats 1000000 in
set_option maxRecDepth 100000 in
theorem tinderref02_Show.calls (a0 : Int) (a1 : Int) (r1 : ByteArray) (r2 : Int) (w : World) (h : tinderref02_Show.f a0 a1 = some (r1, r2)) :
    Calls Tryd.prog 58 #[.int .u32 a0, .int .u32 a1] w fun e w' => e = .returned (.tuple #[.string r1, .int .i64 r2]) ∧ Below w.heap.size w w' := by
  unfold tinderref02_Show.f at h
  split at h
  case isFalse => cases h
  rename_i hn
  by_cases hb : 2 ≤ a1 ∧ a1 ≤ 36
  · rw [if_pos hb] at h
    obtain ⟨rfl, rfl⟩ := Prod.mk.inj (Option.some.inj h)
    exact refShow_calls a1 a0 hb hn w
  · rw [if_neg hb] at h
    obtain ⟨rfl, rfl⟩ := Prod.mk.inj (Option.some.inj h)
    by_cases h2 : a1 < 2
    · have d1 : decide (a1 < 2) = true := decide_eq_true h2
      clear h hb h2 hn
      go_enter Tryd.func58, Tryd.ntmps58
      go_wp2
      go_ret2
      exact ⟨rfl, Below.refl _ _⟩
    · have d1 : decide (a1 < 2) = false := decide_eq_false h2
      have d2 : decide (36 < a1) = true := decide_eq_true (by omega)
      clear h hb h2 hn
      go_enter Tryd.func58, Tryd.ntmps58
      go_wp2
      go_ret2
      exact ⟨rfl, Below.refl _ _⟩
end Go.Proofs.YtlhnaplmphdhlaaDoor.Q
end
section
namespace Go.Proofs.YtlhnaplmphdhlaaDoor.Q
open Go.RowKit Go.Proofs.YtlhnaplmphdhlaaDoorW.PrintWords Go.Proofs.YtlhnaplmphdhlaaDoorW.PrintLast Go.Proofs.YtlhnaplmphdhlaaDoorW.PrintMore
set_option linter.unusedVariables false
set_option linter.unusedSimpArgs false

attribute [local go_sem] max2_int min2_int max_two min_two max_three min_three max_four min_four
/-! ### tinderref05_ShowUnit: function 38 -/
def tinderref05_ShowUnit.l0 : Nat → List Int → List Int → Int → Option (ByteArray)
  | 0, _, _, _ => none
  | k + 1, x0, x3, x4 => if x4 < (x0.length : Int) then (if x4 > 0 then (if x3.length < 140737488355328 then ((some (x3 ++ [44] : List Int)).bind fun y39001 => (if 0 ≤ x4 then ((tinderref02_Show.f (rd x0 x4) 16).bind fun bt39005 => (if y39001.length + bt39005.1.size < 140737488355328 then (tinderref05_ShowUnit.l0 k x0 (y39001 ++ bytesOf bt39005.1) (wrap64 (x4 + 1))) else (none))) else (none))) else (none)) else (if 0 ≤ x4 then ((tinderref02_Show.f (rd x0 x4) 16).bind fun bt39011 => (if x3.length + bt39011.1.size < 140737488355328 then (tinderref05_ShowUnit.l0 k x0 (x3 ++ bytesOf bt39011.1) (wrap64 (x4 + 1))) else (none))) else (none))) else (some (strOfNums x3))
def tinderref05_ShowUnit.f (k : Nat) (l0 : List Int) : Option (ByteArray) := tinderref05_ShowUnit.l0 k l0 ([] : List Int) 0
theorem tinderref05_ShowUnit.mono_l : ∀ k, (∀ y0 y1 y2, LeO (tinderref05_ShowUnit.l0 k y0 y1 y2) (tinderref05_ShowUnit.l0 (k + 1) y0 y1 y2))
  | 0 => fun _ _ _ r h => by simp [tinderref05_ShowUnit.l0] at h
  | k + 1 => by
    have ih0 := tinderref05_ShowUnit.mono_l k
    · intro y0 y1 y2
      unfold tinderref05_ShowUnit.l0
      repeat' first
      | (with_reducible exact ih0 _ _ _)
      | (with_reducible exact LeO.refl _)
      | (with_reducible exact LeO.none _)
      | (with_reducible refine LeO.ite ?_ ?_)
      | (with_reducible refine LeO.bind ?_ (fun _ => ?_))
      | exact ih0 _ _ _
      | exact LeO.none _
      | refine LeO.ite ?_ ?_
      | refine LeO.bind ?_ (fun _ => ?_)
theorem tinderref05_ShowUnit.mono : ∀ a0 k, LeO (tinderref05_ShowUnit.f k a0) (tinderref05_ShowUnit.f (k + 1) a0) := by
  intro a0 k
  have ih0 := tinderref05_ShowUnit.mono_l k
  unfold tinderref05_ShowUnit.f
  repeat' first
      | (with_reducible exact ih0 _ _ _)
      | (with_reducible exact LeO.refl _)
      | (with_reducible exact LeO.none _)
      | (with_reducible refine LeO.ite ?_ ?_)
      | (with_reducible refine LeO.bind ?_ (fun _ => ?_))
      | exact ih0 _ _ _
      | exact LeO.none _
      | refine LeO.ite ?_ ?_
      | refine LeO.bind ?_ (fun _ => ?_)
set_option maxHeartbeats 8000000 in
set_option maxRecDepth 100000 in
theorem tinderref05_ShowUnit.calls (k : Nat) (A0 : Option Addr) (c0 : Nat) (l0 : List Int) (r : ByteArray) (w : World) (hr0 : Kd.C (Kd.int .u32) w A0 l0.length l0) (hc0 : l0.length ≤ c0) (h : tinderref05_ShowUnit.f k l0 = some r) :
    Calls Tryd.prog 38 #[.slice A0 l0.length c0] w fun e w' => e = .returned (.string r) ∧ Below w.heap.size w w' := by
  have HR0 := Aside0.mk hr0
  have HC0 := Aside0.mk hc0
  clear hr0 hc0
  have HB := Aside0.mk (Below.refl w.heap.size w)
  have H : (tinderref05_ShowUnit.l0 k l0 ([] : List Int) 0) = some r := h
  clear h
  have H' := Aside0.mk H
  clear H
  go_enter Tryd.func38, Tryd.ntmps38
  go_wp2
  go_loopg [3, 4] k (fun kq v3 v4 w' => ∃ (x3_1 : List Int) (x4_1 : Int), v4 = .int .i64 x4_1 ∧ Aside0 (tinderref05_ShowUnit.l0 kq l0 x3_1 x4_1 = some r) ∧ Aside0 (kq ≤ k) ∧ Aside0 (Kd.R (Kd.int .u8) 5 w' w.heap.size (fun _ => True) v3 x3_1) ∧ Aside0 (Below w.heap.size w w'))
  case atStart => exact ⟨(([] : List Int)), (0), (by first | rfl | (simp; done) | (simp [*]; done)), H', ⟨Nat.le_refl _⟩, ⟨by first | exact Kd.R_nil _ _ _ _ _ | exact Kd.N_nil _ _ _ _ _ | exact Kd.V_nil _ _ _ _ _ | exact Kd.Q_nil _ _ _ _ _ | exact Kd.S_nil _ _ _ _ _⟩, ⟨by repeat (first | (with_reducible first | exact HB.out | apply below_alloc | apply pw_below_drewN | apply below_drew1) | exact HB.out)⟩⟩
  case round =>
    clear H'
    obtain ⟨x3_1, x4_1, rfl, HA, HK1, HO_3, HB⟩ := hrel
    cases gk with
    | zero => exact absurd HA.out (by simp [tinderref05_ShowUnit.l0])
    | succ k1 =>
      have H := HA.out
      clear HA
      simp only [tinderref05_ShowUnit.l0] at H
      by_cases c2 : x4_1 < (l0.length : Int)
      · rw [if_pos c2] at H
        have c2b0 : decide (x4_1 < (l0.length : Int)) = true := decide_eq_true c2
        clear c2
        by_cases c3 : x4_1 > 0
        · rw [if_pos c3] at H
          have c3b0 : decide (0 < x4_1) = true := decide_eq_true c3
          clear c3
          by_cases c4 : x3_1.length < 140737488355328
          · rw [if_pos c4] at H
            have LMc4 := Aside0.mk c4
            clear c4
            obtain ⟨y39001, hy39001⟩ : ∃ y_ : List Int, y_ = (x3_1 ++ [44]) := ⟨_, rfl⟩
            replace H : (if 0 ≤ x4_1 then ((tinderref02_Show.f (rd l0 x4_1) 16).bind fun bt39005 => (if y39001.length + bt39005.1.size < 140737488355328 then (tinderref05_ShowUnit.l0 k1 l0 (y39001 ++ bytesOf bt39005.1) (wrap64 (x4_1 + 1))) else (none))) else (none)) = some r := by first | (rw [hy39001]; with_reducible exact H) | (have H2_ := (Option.bind_some _ _).symm.trans H; rw [hy39001]; with_reducible exact H2_) | (have H2_ := (Option.bind_some _ _).symm.trans H; with_reducible exact H2_) | with_reducible exact H | (rw [hy39001]; exact H) | exact H
            have Ny39001 := Aside0.mk hy39001
            clear hy39001
            by_cases c5 : 0 ≤ x4_1
            · rw [if_pos c5] at H
              have c5b0 : decide (0 ≤ x4_1) = true := decide_eq_true c5
              clear c5
              replace H := Option.bind_eq_some_iff.mp H
              obtain ⟨⟨t39005, t39006⟩, A60, H⟩ := H
              replace H : (if y39001.length + t39005.size < 140737488355328 then (tinderref05_ShowUnit.l0 k1 l0 (y39001 ++ bytesOf t39005) (wrap64 (x4_1 + 1))) else (none)) = some r := H
              have A6 := Aside0.mk A60
              clear A60
              by_cases c7 : y39001.length + t39005.size < 140737488355328
              · rw [if_pos c7] at H
                have LMc7 := Aside0.mk c7
                clear c7
                obtain ⟨y39007, hy39007⟩ : ∃ y_ : List Int, y_ = (y39001 ++ bytesOf t39005) := ⟨_, rfl⟩
                replace H : (tinderref05_ShowUnit.l0 k1 l0 y39007 (wrap64 (x4_1 + 1))) = some r := by first | (rw [hy39007]; with_reducible exact H) | (have H2_ := (Option.bind_some _ _).symm.trans H; rw [hy39007]; with_reducible exact H2_) | (have H2_ := (Option.bind_some _ _).symm.trans H; with_reducible exact H2_) | with_reducible exact H | (rw [hy39007]; exact H) | exact H
                have Ny39007 := Aside0.mk hy39007
                clear hy39007
                have H' := Aside0.mk H
                clear H
                go_wp2_with (first | ((with_reducible refine gate_builtin (b := .append) (xs := #[.tmp 15, .tmp 16]) rfl ?_); at_builtin; refine Kd.R_append (Kd.int .u8) (w0 := w) w.heap.size rfl (.tmp 15) (.tmp 16) 25 5 (.int .u8 0) 1 rfl Tryd.underlying25 info5 rfl (by decide) (by omega) u3 x3_1 44 [.int .u8 44] (fun _ => True) (fun _ => False) rfl rfl ?aP (fun _ hk => hk.elim) ?aF ?aO ?aB ?aS ?aL ?_; (case aP => exact rfl); (case aB => exact (by repeat (first | (with_reducible first | exact HB.out | apply below_alloc | apply pw_below_drewN | apply below_drew1) | exact HB.out))); (case aF => exact (fun _ _ => trivial)); (case aO => exact (by (with_reducible repeat (first | apply Kd.R_alloc | apply Kd.R_drewN | apply Kd.R_drew)); exact HO_3.out)); (case aS => exact (below_size (by repeat (first | (with_reducible first | exact HB.out | apply below_alloc | apply pw_below_drewN | apply below_drew1) | exact HB.out)))); (case aL => have := LMc4.out; omega); intro v39002 w8 ho hb hg hat; rw [← Ny39001.out] at ho; have n0_ := Aside0.mk (hb); have n1_ := Aside0.mk (ho); clear HB; clear HO_3; have HB := n0_; have HO39003 := n1_; clear n0_ n1_; clear ho hb hg hat; have p39004 : 0 ≤ (x4_1 : Int) := of_decide_eq_true (by first | (with_reducible assumption) | assumption); have q39004 : x4_1 < (l0.length : Int) := of_decide_eq_true (by first | (with_reducible assumption) | assumption); obtain ⟨ad39004, e39004, hx39004_0⟩ := Kd.at_int HR0.out x4_1 p39004 q39004; cases e39004; replace hx39004_0 := (HB.out.cell (World.block_lt_of_cell? w _ hx39004_0)).trans hx39004_0; replace p39004 := eq_true p39004; replace q39004 := eq_true q39004) | ((with_reducible refine gate_callee (f := 58) rfl ?_); refine goesL_ (some 23) rfl rfl Tryd.func58 (by kernel_rfl) rfl #[.int .u32 (rd l0 x4_1), .int .u32 16] rfl (by (try simp only [List.map_toArray, List.map_cons, List.map_nil]); first | done | rfl | (simp only [List.length_drop, List.length_take]; rfl)) ?_; (with_reducible refine (tinderref02_Show.calls (rd l0 x4_1) 16 t39005 t39006 _ A6.out).mono ?_); rintro e w9 ⟨rfl, hb⟩; refine ⟨_, rfl, ?_⟩; have n0_ := Aside0.mk (Kd.R_below (by (with_reducible repeat (first | apply Kd.R_alloc | apply Kd.R_drewN | apply Kd.R_drew)); exact HO39003.out) hb); have n1_ := Aside0.mk (below_step (by repeat (first | (with_reducible first | exact HB.out | apply below_alloc | apply pw_below_drewN | apply below_drew1) | exact HB.out)) hb); clear HO39003; clear HB; have HO39003 := n0_; have HB := n1_; clear n0_ n1_; (try clear hb); (try clear hb2); (try clear hk); (try clear hi)) | (at_builtin; refine print_append_str (w0 := w) w.heap.size rfl (.tmp 26) _ 25 9 5 rfl Tryd.underlying25 Tryd.underlying9 info5 v39002 y39001 t39005 rfl rfl ?aO ?aB ?aS ?aL ?_; (case aB => exact (by repeat (first | (with_reducible first | exact HB.out | apply below_alloc | apply pw_below_drewN | apply below_drew1) | exact HB.out))); (case aO => exact (Kd.own_of_R (by (with_reducible repeat (first | apply Kd.R_alloc | apply Kd.R_drewN | apply Kd.R_drew)); exact HO39003.out))); (case aS => exact (below_size (by repeat (first | (with_reducible first | exact HB.out | apply below_alloc | apply pw_below_drewN | apply below_drew1) | exact HB.out)))); (case aL => have := LMc7.out; omega); intro v39008 w10 ho0 hb hg; have ho := Kd.R_of_own (h1 := fun _ => rfl) (ok := fun _ => True) ho0 (fun _ _ => trivial); clear ho0; have hat := True.intro; rw [← Ny39007.out] at ho; change Kd.R (Kd.int .u8) 5 w10 w.heap.size (fun _ => True) v39008 y39007 at ho; have n0_ := Aside0.mk (hb); have n1_ := Aside0.mk (ho); clear HB; clear HO39003; have HB := n0_; have HO39009 := n1_; clear n0_ n1_; clear ho hb hg hat))
                go_roundg k1
                case measure => have := HK1.out; omega
                case rel => exact ⟨(y39007), (wrap64 (x4_1 + 1)), (by first | rfl | (simp; done) | (simp [*]; done)), H', ⟨by have := HK1.out; omega⟩, ⟨by (with_reducible repeat (first | apply Kd.R_alloc | apply Kd.R_drewN | apply Kd.R_drew)); exact HO39009.out⟩, ⟨by repeat (first | (with_reducible first | exact HB.out | apply below_alloc | apply pw_below_drewN | apply below_drew1) | exact HB.out)⟩⟩
              · rw [if_neg c7] at H
                exact absurd H (by simp)
            · rw [if_neg c5] at H
              exact absurd H (by simp)
          · rw [if_neg c4] at H
            exact absurd H (by simp)
        · rw [if_neg c3] at H
          have c3b0 : decide (0 < x4_1) = false := decide_eq_false c3
          clear c3
          by_cases c11 : 0 ≤ x4_1
          · rw [if_pos c11] at H
            have c11b0 : decide (0 ≤ x4_1) = true := decide_eq_true c11
            clear c11
            replace H := Option.bind_eq_some_iff.mp H
            obtain ⟨⟨t39011, t39012⟩, A120, H⟩ := H
            replace H : (if x3_1.length + t39011.size < 140737488355328 then (tinderref05_ShowUnit.l0 k1 l0 (x3_1 ++ bytesOf t39011) (wrap64 (x4_1 + 1))) else (none)) = some r := H
            have A12 := Aside0.mk A120
            clear A120
            by_cases c13 : x3_1.length + t39011.size < 140737488355328
            · rw [if_pos c13] at H
              have LMc13 := Aside0.mk c13
              clear c13
              obtain ⟨y39013, hy39013⟩ : ∃ y_ : List Int, y_ = (x3_1 ++ bytesOf t39011) := ⟨_, rfl⟩
              replace H : (tinderref05_ShowUnit.l0 k1 l0 y39013 (wrap64 (x4_1 + 1))) = some r := by first | (rw [hy39013]; with_reducible exact H) | (have H2_ := (Option.bind_some _ _).symm.trans H; rw [hy39013]; with_reducible exact H2_) | (have H2_ := (Option.bind_some _ _).symm.trans H; with_reducible exact H2_) | with_reducible exact H | (rw [hy39013]; exact H) | exact H
              have Ny39013 := Aside0.mk hy39013
              clear hy39013
              have H' := Aside0.mk H
              clear H
              have p39010 : 0 ≤ (x4_1 : Int) := of_decide_eq_true (by first | (with_reducible assumption) | assumption)
              have q39010 : x4_1 < (l0.length : Int) := of_decide_eq_true (by first | (with_reducible assumption) | assumption)
              obtain ⟨ad39010, e39010, hx39010_0⟩ := Kd.at_int HR0.out x4_1 p39010 q39010
              cases e39010
              replace hx39010_0 := (HB.out.cell (World.block_lt_of_cell? w _ hx39010_0)).trans hx39010_0
              replace p39010 := eq_true p39010
              replace q39010 := eq_true q39010
              go_wp2_with (first | ((with_reducible refine gate_callee (f := 58) rfl ?_); refine goesL_ (some 23) rfl rfl Tryd.func58 (by kernel_rfl) rfl #[.int .u32 (rd l0 x4_1), .int .u32 16] rfl (by (try simp only [List.map_toArray, List.map_cons, List.map_nil]); first | done | rfl | (simp only [List.length_drop, List.length_take]; rfl)) ?_; (with_reducible refine (tinderref02_Show.calls (rd l0 x4_1) 16 t39011 t39012 _ A12.out).mono ?_); rintro e w14 ⟨rfl, hb⟩; refine ⟨_, rfl, ?_⟩; have n0_ := Aside0.mk (Kd.R_below (by (with_reducible repeat (first | apply Kd.R_alloc | apply Kd.R_drewN | apply Kd.R_drew)); exact HO_3.out) hb); have n1_ := Aside0.mk (below_step (by repeat (first | (with_reducible first | exact HB.out | apply below_alloc | apply pw_below_drewN | apply below_drew1) | exact HB.out)) hb); clear HO_3; clear HB; have HO_3 := n0_; have HB := n1_; clear n0_ n1_; (try clear hb); (try clear hb2); (try clear hk); (try clear hi)) | (at_builtin; refine print_append_str (w0 := w) w.heap.size rfl (.tmp 26) _ 25 9 5 rfl Tryd.underlying25 Tryd.underlying9 info5 u3 x3_1 t39011 rfl rfl ?aO ?aB ?aS ?aL ?_; (case aB => exact (by repeat (first | (with_reducible first | exact HB.out | apply below_alloc | apply pw_below_drewN | apply below_drew1) | exact HB.out))); (case aO => exact (Kd.own_of_R (by (with_reducible repeat (first | apply Kd.R_alloc | apply Kd.R_drewN | apply Kd.R_drew)); exact HO_3.out))); (case aS => exact (below_size (by repeat (first | (with_reducible first | exact HB.out | apply below_alloc | apply pw_below_drewN | apply below_drew1) | exact HB.out)))); (case aL => have := LMc13.out; omega); intro v39014 w15 ho0 hb hg; have ho := Kd.R_of_own (h1 := fun _ => rfl) (ok := fun _ => True) ho0 (fun _ _ => trivial); clear ho0; have hat := True.intro; rw [← Ny39013.out] at ho; change Kd.R (Kd.int .u8) 5 w15 w.heap.size (fun _ => True) v39014 y39013 at ho; have n0_ := Aside0.mk (hb); have n1_ := Aside0.mk (ho); clear HB; clear HO_3; have HB := n0_; have HO39015 := n1_; clear n0_ n1_; clear ho hb hg hat))
              go_roundg k1
              case measure => have := HK1.out; omega
              case rel => exact ⟨(y39013), (wrap64 (x4_1 + 1)), (by first | rfl | (simp; done) | (simp [*]; done)), H', ⟨by have := HK1.out; omega⟩, ⟨by (with_reducible repeat (first | apply Kd.R_alloc | apply Kd.R_drewN | apply Kd.R_drew)); exact HO39015.out⟩, ⟨by repeat (first | (with_reducible first | exact HB.out | apply below_alloc | apply pw_below_drewN | apply below_drew1) | exact HB.out)⟩⟩
            · rw [if_neg c13] at H
              exact absurd H (by simp)
          · rw [if_neg c11] at H
            exact absurd H (by simp)
      · rw [if_neg c2] at H
        have c2b0 : decide (x4_1 < (l0.length : Int)) = false := decide_eq_false c2
        clear c2
        obtain rfl := Option.some.inj H
        have hcv16 := own_string (P := Tryd.prog) Tryd.underlying25 Tryd.underlying5 Tryd.underlying9 (Kd.own_of_R HO_3.out)
        go_wp2
        go_ret
        exact ⟨by first | rfl | (simp [errW_none, errW_some] <;> rfl) | (simp [*, errW_none, errW_some] <;> rfl), by repeat (first | (with_reducible first | exact HB.out | apply below_alloc | apply pw_below_drewN | apply below_drew1) | exact HB.out)⟩

end Go.Proofs.YtlhnaplmphdhlaaDoor.Q
end
section
set_option linter.unusedSimpArgs false
set_option linter.unusedVariables false
namespace Go.Proofs.YtlhnaplmphdhlaaDoor.Q
open Go.RowKit Go.Proofs.YtlhnaplmphdhlaaDoorW.PrintWords Go.Proofs.YtlhnaplmphdhlaaDoorW.PrintLast
def shL (v : Int) : List UInt8 := showL 16 v.toNat
def unitsL (l : List Int) : List UInt8 := Lib.join (l.map shL) [44]
def unitsB (l : List Int) : ByteArray := ⟨(unitsL l).toArray⟩
def U32L (l : List Int) : Prop := ∀ a ∈ l, 0 ≤ a ∧ a < 4294967296
theorem join_snoc (xs : List (List UInt8)) (x : List UInt8) (sep : List UInt8) (h : xs ≠ []) : Lib.join (xs ++ [x]) sep = Lib.join xs sep ++ sep ++ x := by
  cases xs with
  | nil => exact absurd rfl h
  | cons y ys =>
    rw [List.cons_append, Lib.join_cons, Lib.join_cons]
    unfold Lib.joinTail
    rw [List.map_append, List.flatten_append]
    simp [List.append_assoc]
theorem shL_len (v : Int) (h : 0 ≤ v ∧ v < 4294967296) : (shL v).length ≤ 32 := showL_len 16 (by decide) 31 v.toNat (by have : (2 : Nat) ^ (31 + 1) = 4294967296 := by decide
                                                                                                                        omega)
theorem units_one (v : Int) : unitsL [v] = shL v := Lib.join_one _ _
theorem units_snoc (l : List Int) (v : Int) (h : l ≠ []) : unitsL (l ++ [v]) = unitsL l ++ [44] ++ shL v := by
  unfold unitsL
  rw [List.map_append, List.map_singleton, join_snoc _ _ _ (by simpa using h)]
theorem take_succ' {α : Type} (l : List α) (i : Nat) (h : i < l.length) : l.take (i + 1) = l.take i ++ [l[i]] := by
  rw [List.take_succ_eq_append_getElem h]
theorem units_len (l : List Int) (hl : U32L l) : ∀ i, i ≤ l.length → (unitsL (l.take i)).length ≤ 33 * i
  | 0, _ => by simp [unitsL, Lib.join_nil]
  | i + 1, h => by
    have ih := units_len l hl i (by omega)
    rw [take_succ' l i (by omega)]
    have hs := shL_len l[i] (hl _ (List.getElem_mem _))
    by_cases h0 : i = 0
    · subst h0
      rw [List.take_zero, List.nil_append, units_one]
      omega
    · rw [units_snoc _ _ (fun e => by have := congrArg List.length e; rw [List.length_take, List.length_nil] at this; omega)]
      rw [List.length_append, List.length_append, List.length_singleton]
      omega
theorem rd_get (l : List Int) (i : Nat) (h : i < l.length) : rd l (i : Int) = l[i] := by
  unfold rd
  rw [Int.toNat_natCast, List.getD_eq_getElem?_getD, List.getElem?_eq_getElem h]
  rfl
theorem bytesOf_mk (L : List UInt8) : bytesOf ⟨L.toArray⟩ = L.map fun b => (b.toNat : Int) := rfl
theorem strOf_bytes (L : List UInt8) : strOfNums (L.map fun b => (b.toNat : Int)) = ⟨L.toArray⟩ := by
  unfold strOfNums
  rw [List.map_map]
  congr 2
  conv => rhs; rw [← List.map_id L]
  apply List.map_congr_left
  intro c _
  exact UInt8.toNat_inj.1 (by simp)
theorem refshow_eq (v : Int) (h : 0 ≤ v ∧ v < 4294967296) : tinderref02_Show.f v 16 = some (⟨(shL v).toArray⟩, 0) := by
  unfold tinderref02_Show.f
  rw [if_pos h, if_pos (by decide)]
  rfl
theorem show_eq (v : Int) (h : 0 ≤ v ∧ v < 4294967296) : digit_Show.f v 16 = some (⟨(shL v).toArray⟩, 0) := by
  unfold digit_Show.f
  rw [if_pos ⟨h, rfl⟩]
  rfl
theorem refunits_go (l : List Int) (hl : U32L l) (hn : l.length ≤ 1000000000) : ∀ (d k i : Nat), i + d = l.length → d + 1 ≤ k → tinderref05_ShowUnit.l0 k l ((unitsL (l.take i)).map fun b => (b.toNat : Int)) (i : Int) = some (unitsB l)
  | 0, k, i, hi, hk => by
    obtain ⟨k, rfl⟩ : ∃ m, k = m + 1 := ⟨k - 1, by omega⟩
    unfold tinderref05_ShowUnit.l0
    rw [if_neg (by omega), List.take_of_length_le (by omega), strOf_bytes]
    rfl
  | d + 1, k, i, hi, hk => by
    obtain ⟨k, rfl⟩ : ∃ m, k = m + 1 := ⟨k - 1, by omega⟩
    have hb := hl l[i] (List.getElem_mem _)
    have hlen := units_len l hl i (by omega)
    have hs := shL_len l[i] hb
    have e1 : wrap64 ((i : Int) + 1) = ((i + 1 : Nat) : Int) := by unfold wrap64; omega
    have ih := refunits_go l hl hn d k (i + 1) (by omega) (by omega)
    have hsz : (⟨(shL l[i]).toArray⟩ : ByteArray).size = (shL l[i]).length := by simp [ByteArray.size]
    unfold tinderref05_ShowUnit.l0
    rw [if_pos (by omega), rd_get l i (by omega), refshow_eq _ hb]
    by_cases h0 : i = 0
    · subst h0
      rw [if_neg (by omega), if_pos (by omega), Option.bind_some]
      dsimp only
      rw [if_pos (by rw [List.length_map, hsz]; omega), e1, bytesOf_mk]
      rw [take_succ' l 0 (by omega), List.take_zero, List.nil_append, units_one] at ih
      rw [List.take_zero, show unitsL [] = [] from rfl, List.map_nil, List.nil_append]
      exact ih
    · rw [if_pos (by omega), if_pos (by rw [List.length_map]; omega), Option.bind_some, if_pos (by omega), Option.bind_some]
      dsimp only
      rw [if_pos (by rw [List.length_append, List.length_map, hsz, List.length_singleton]; omega), e1, bytesOf_mk]
      rw [take_succ' l i (by omega), units_snoc _ _ (fun e => by have := congrArg List.length e; rw [List.length_take, List.length_nil] at this; omega), List.map_append, List.map_append] at ih
      exact ih
theorem refunits_eq (k : Nat) (l : List Int) (hl : U32L l) (hn : l.length ≤ 1000000000) (hk : l.length + 1 ≤ k) : tinderref05_ShowUnit.f k l = some (unitsB l) := by
  have h := refunits_go l hl hn l.length k 0 (by omega) hk
  exact h
theorem units_go (l : List Int) (hl : U32L l) (hn : l.length ≤ 1000000000) : ∀ (d k i : Nat), i + d = l.length → d + 1 ≤ k → prop_ShowUnit.l0 k ((l.take i).map (fun v => (⟨(shL v).toArray⟩ : ByteArray)) ++ List.replicate d (⟨#[]⟩ : ByteArray)) l (l.length : Int) (i : Int) = some (unitsB l)
  | 0, k, i, hi, hk => by
    obtain ⟨k, rfl⟩ : ∃ m, k = m + 1 := ⟨k - 1, by omega⟩
    unfold prop_ShowUnit.l0
    have hlen := units_len l hl l.length (Nat.le_refl _)
    rw [List.take_length] at hlen
    have e : joinB (l.map (fun v => (⟨(shL v).toArray⟩ : ByteArray))) ⟨#[44]⟩ = unitsB l := by
      unfold joinB unitsB unitsL
      rw [List.map_map]
      rfl
    rw [if_neg (by omega), List.take_of_length_le (by omega), List.replicate_zero, List.append_nil]
    unfold strings_Join.f
    rw [e, if_pos ⟨by rw [List.length_map]; omega, by show (unitsL l).toArray.size ≤ _; rw [List.size_toArray]; omega⟩]
    rfl
  | d + 1, k, i, hi, hk => by
    obtain ⟨k, rfl⟩ : ∃ m, k = m + 1 := ⟨k - 1, by omega⟩
    have hb := hl l[i] (List.getElem_mem _)
    have e1 : wrap64 ((i : Int) + 1) = ((i + 1 : Nat) : Int) := by unfold wrap64; omega
    have ih := units_go l hl hn d k (i + 1) (by omega) (by omega)
    have hml : ((l.take i).map (fun v => (⟨(shL v).toArray⟩ : ByteArray))).length = i := by rw [List.length_map, List.length_take]; omega
    unfold prop_ShowUnit.l0
    rw [if_pos (by omega), if_pos (by omega), if_pos (by omega), rd_get l i (by omega), show_eq _ hb, Option.bind_some, if_pos (by rw [List.length_append, hml, List.length_replicate]; omega), e1]
    rw [take_succ' l i (by omega), List.map_append, List.map_singleton, List.append_assoc] at ih
    rw [Int.toNat_natCast, List.set_append_right _ _ (by omega), hml, Nat.sub_self, List.replicate_succ, List.set_cons_zero]
    exact ih
theorem units_eq (k : Nat) (l : List Int) (hl : U32L l) (hn : l.length ≤ 1000000000) (hk : l.length + 1 ≤ k) : prop_ShowUnit.f k l = some (unitsB l) := by
  have h := units_go l hl hn l.length k 0 (by omega) hk
  unfold prop_ShowUnit.f
  rw [if_pos (by omega), Int.toNat_natCast, if_pos (by omega)]
  exact h
end Go.Proofs.YtlhnaplmphdhlaaDoor.Q
end
section
namespace Go.Proofs.YtlhnaplmphdhlaaDoor.Q
open Go.RowKit Go.Proofs.YtlhnaplmphdhlaaDoorW.PrintWords Go.Proofs.YtlhnaplmphdhlaaDoorW.PrintLast Go.Proofs.YtlhnaplmphdhlaaDoorW.PrintMore
set_option linter.unusedVariables false
set_option linter.unusedSimpArgs false

attribute [local go_sem] max2_int min2_int max_two min_two max_three min_three max_four min_four
/-! ### tinderref03_Same: function 28 -/
def tinderref03_Same.l0 : Nat → List Int → List Int → Int → Option (Bool)
  | 0, _, _, _ => none
  | k + 1, x0, x1, x5 => if x5 < (x0.length : Int) then (if 0 ≤ x5 then (if x5 < (x1.length : Int) then (if (rd x0 x5) = (rd x1 x5) then (tinderref03_Same.l0 k x0 x1 (wrap64 (x5 + 1))) else (some false)) else (none)) else (none)) else (some true)
def tinderref03_Same.f (k : Nat) (l0 : List Int) (l1 : List Int) : Option (Bool) := if (l0.length : Int) = (l1.length : Int) then (tinderref03_Same.l0 k l0 l1 0) else (some false)
theorem tinderref03_Same.mono_l : ∀ k, (∀ y0 y1 y2, LeO (tinderref03_Same.l0 k y0 y1 y2) (tinderref03_Same.l0 (k + 1) y0 y1 y2))
  | 0 => fun _ _ _ r h => by simp [tinderref03_Same.l0] at h
  | k + 1 => by
    have ih0 := tinderref03_Same.mono_l k
    · intro y0 y1 y2
      unfold tinderref03_Same.l0
      repeat' first
      | (with_reducible exact ih0 _ _ _)
      | (with_reducible exact LeO.refl _)
      | (with_reducible exact LeO.none _)
      | (with_reducible refine LeO.ite ?_ ?_)
      | (with_reducible refine LeO.bind ?_ (fun _ => ?_))
      | exact ih0 _ _ _
      | exact LeO.none _
      | refine LeO.ite ?_ ?_
      | refine LeO.bind ?_ (fun _ => ?_)
theorem tinderref03_Same.mono : ∀ a0 a1 k, LeO (tinderref03_Same.f k a0 a1) (tinderref03_Same.f (k + 1) a0 a1) := by
  intro a0 a1 k
  have ih0 := tinderref03_Same.mono_l k
  unfold tinderref03_Same.f
  repeat' first
      | (with_reducible exact ih0 _ _ _)
      | (with_reducible exact LeO.refl _)
      | (with_reducible exact LeO.none _)
      | (with_reducible refine LeO.ite ?_ ?_)
      | (with_reducible refine LeO.bind ?_ (fun _ => ?_))
      | exact ih0 _ _ _
      | exact LeO.none _
      | refine LeO.ite ?_ ?_
      | refine LeO.bind ?_ (fun _ => ?_)
set_option maxHeartbeats 8000000 in
set_option maxRecDepth 100000 in
theorem tinderref03_Same.calls (k : Nat) (A0 : Option Addr) (c0 : Nat) (l0 : List Int) (A1 : Option Addr) (c1 : Nat) (l1 : List Int) (r : Bool) (w : World) (hr0 : Kd.C (Kd.int .u32) w A0 l0.length l0) (hc0 : l0.length ≤ c0) (hr1 : Kd.C (Kd.int .u32) w A1 l1.length l1) (hc1 : l1.length ≤ c1) (h : tinderref03_Same.f k l0 l1 = some r) :
    Calls Tryd.prog 28 #[.slice A0 l0.length c0, .slice A1 l1.length c1] w fun e w' => e = .returned (.bool r) ∧ Drawn0 w w' := by
  have HR0 := Aside0.mk hr0
  have HC0 := Aside0.mk hc0
  clear hr0 hc0
  have HR1 := Aside0.mk hr1
  have HC1 := Aside0.mk hc1
  clear hr1 hc1
  have H : (if (l0.length : Int) = (l1.length : Int) then (tinderref03_Same.l0 k l0 l1 0) else (some false)) = some r := h
  clear h
  by_cases c3 : (l0.length : Int) = (l1.length : Int)
  · rw [if_pos c3] at H
    have c3b0 : ((l0.length : Int) == (l1.length : Int)) = true := beq_iff_eq.mpr c3
    have c3b1 : ((l0.length : Int) != (l1.length : Int)) = false := bne_eq_false_iff_eq.mpr c3
    have c3b2 : (l0.length == l1.length) = true := by first | simpa using c3 | (simp at c3 ⊢; omega)
    clear c3
    have H' := Aside0.mk H
    clear H
    go_enter Tryd.func28, Tryd.ntmps28
    go_wp2
    repeat (go_quiet (fail); try go_wp2)
    go_loopg [5] k (fun kq v5 w' => ∃ (x5_1 : Int), v5 = .int .i64 x5_1 ∧ Aside0 (tinderref03_Same.l0 kq l0 l1 x5_1 = some r) ∧ Aside0 (kq ≤ k) ∧ Drawn0 w w')
    case atStart => exact ⟨(0), (by first | rfl | (simp; done) | (simp [*]; done)), H', ⟨Nat.le_refl _⟩, by repeat (first | exact Drawn0.refl _ | apply Drawn0.step)⟩
    case round =>
      clear H'
      try clear c1
      try clear c2
      try clear p2
      try clear c3
      try clear c3b0
      try clear c3b1
      try clear c3b2
      obtain ⟨x5_1, rfl, HA, HK1, ⟨m1, rfl⟩⟩ := hrel
      cases gk with
      | zero => exact absurd HA.out (by simp [tinderref03_Same.l0])
      | succ k1 =>
        have H := HA.out
        clear HA
        simp only [tinderref03_Same.l0] at H
        by_cases c4 : x5_1 < (l0.length : Int)
        · rw [if_pos c4] at H
          have c4b0 : decide (x5_1 < (l0.length : Int)) = true := decide_eq_true c4
          clear c4
          by_cases c5 : 0 ≤ x5_1
          · rw [if_pos c5] at H
            have c5b0 : decide (0 ≤ x5_1) = true := decide_eq_true c5
            clear c5
            by_cases c6 : x5_1 < (l1.length : Int)
            · rw [if_pos c6] at H
              have c6b0 : decide (x5_1 < (l1.length : Int)) = true := decide_eq_true c6
              clear c6
              by_cases c7 : (rd l0 x5_1) = (rd l1 x5_1)
              · rw [if_pos c7] at H
                have c7b0 : ((rd l0 x5_1) == (rd l1 x5_1)) = true := beq_iff_eq.mpr c7
                have c7b1 : ((rd l0 x5_1) != (rd l1 x5_1)) = false := bne_eq_false_iff_eq.mpr c7
                clear c7
                have H' := Aside0.mk H
                clear H
                have p29001 : 0 ≤ (x5_1 : Int) := of_decide_eq_true (by first | (with_reducible assumption) | assumption)
                have q29001 : x5_1 < (l0.length : Int) := of_decide_eq_true (by first | (with_reducible assumption) | assumption)
                obtain ⟨ad29001, e29001, hx29001_0⟩ := Kd.at_int HR0.out x5_1 p29001 q29001
                cases e29001
                replace p29001 := eq_true p29001
                replace q29001 := eq_true q29001
                have p29002 : 0 ≤ (x5_1 : Int) := of_decide_eq_true (by first | (with_reducible assumption) | assumption)
                have q29002 : x5_1 < (l1.length : Int) := of_decide_eq_true (by first | (with_reducible assumption) | assumption)
                obtain ⟨ad29002, e29002, hx29002_0⟩ := Kd.at_int HR1.out x5_1 p29002 q29002
                cases e29002
                replace p29002 := eq_true p29002
                replace q29002 := eq_true q29002
                go_wp2
                repeat (go_quiet (fail); try go_wp2)
                go_roundg k1
                case measure => have := HK1.out; omega
                case rel => exact ⟨(wrap64 (x5_1 + 1)), (by first | rfl | (simp; done) | (simp [*]; done)), H', ⟨by have := HK1.out; omega⟩, by repeat (first | exact Drawn0.refl _ | apply Drawn0.step)⟩
              · rw [if_neg c7] at H
                have c7b0 : ((rd l0 x5_1) == (rd l1 x5_1)) = false := beq_eq_false_iff_ne.mpr c7
                have c7b1 : ((rd l0 x5_1) != (rd l1 x5_1)) = true := bne_iff_ne.mpr c7
                obtain rfl := Option.some.inj H
                have p29001 : 0 ≤ (x5_1 : Int) := of_decide_eq_true (by first | (with_reducible assumption) | assumption)
                have q29001 : x5_1 < (l0.length : Int) := of_decide_eq_true (by first | (with_reducible assumption) | assumption)
                obtain ⟨ad29001, e29001, hx29001_0⟩ := Kd.at_int HR0.out x5_1 p29001 q29001
                cases e29001
                replace p29001 := eq_true p29001
                replace q29001 := eq_true q29001
                have p29002 : 0 ≤ (x5_1 : Int) := of_decide_eq_true (by first | (with_reducible assumption) | assumption)
                have q29002 : x5_1 < (l1.length : Int) := of_decide_eq_true (by first | (with_reducible assumption) | assumption)
                obtain ⟨ad29002, e29002, hx29002_0⟩ := Kd.at_int HR1.out x5_1 p29002 q29002
                cases e29002
                replace p29002 := eq_true p29002
                replace q29002 := eq_true q29002
                go_wp2
                repeat (go_quiet (fail); try go_wp2)
                go_ret
                exact ⟨by first | rfl | (simp; done) | (simp [*]; done), by repeat (first | exact Drawn0.refl _ | apply Drawn0.step)⟩
            · rw [if_neg c6] at H
              exact absurd H (by simp)
          · rw [if_neg c5] at H
            exact absurd H (by simp)
        · rw [if_neg c4] at H
          have c4b0 : decide (x5_1 < (l0.length : Int)) = false := decide_eq_false c4
          clear c4
          obtain rfl := Option.some.inj H
          go_wp2
          repeat (go_quiet (fail); try go_wp2)
          go_ret
          exact ⟨by first | rfl | (simp; done) | (simp [*]; done), by repeat (first | exact Drawn0.refl _ | apply Drawn0.step)⟩
  · rw [if_neg c3] at H
    have c3b0 : ((l0.length : Int) == (l1.length : Int)) = false := beq_eq_false_iff_ne.mpr c3
    have c3b1 : ((l0.length : Int) != (l1.length : Int)) = true := bne_iff_ne.mpr c3
    have c3b2 : (l0.length == l1.length) = false := by first | simpa using c3 | (simp at c3 ⊢; omega)
    obtain rfl := Option.some.inj H
    go_enter Tryd.func28, Tryd.ntmps28
    go_wp2
    repeat (go_quiet (fail); try go_wp2)
    go_ret
    exact ⟨by first | rfl | (simp; done) | (simp [*]; done), by repeat (first | exact Drawn0.refl _ | apply Drawn0.step)⟩

end Go.Proofs.YtlhnaplmphdhlaaDoor.Q
end
section
namespace Go.Proofs.YtlhnaplmphdhlaaDoor.Q
open Go.RowKit Go.Shelf
/-- How a round may be left. -/
def RoundPost (Kp : World → World → Prop) (I : Nat → World → Prop) (Ix : Code → Nat → World → Prop) (k : Nat) (W : World) : Exit → Act → World → Prop
  | .normal, _, W' => KeepsOthers W W' ∧ Kp W W' ∧ I k W'
  | .ret, _, W' => KeepsOthers W W' ∧ Ix .ret k W'
  | .exit id, _, W' => KeepsOthers W W' ∧ Ix (.exit id) k W'
  | _, _, _ => False
/-- The iterator hands on the list L, one by one; between two rounds it goes by Ab; a round that goes on keeps Kp. -/
def SeqL (n : Nat) (P : Program) (gf : Nat) (lb : Array Value) (Ab Kp : World → World → Prop) (L : List (Array Value)) (w : World) : Prop :=
  ∀ (l : Nat) (J Jx : Nat → World → Prop) (W : World), Below w.heap.size w W → (∀ k A B, J k A → Ab A B → J k B) → (∀ k A B, Jx k A → Ab A B → Jx k B) →
    (∀ (k : Nat) (hk : k < L.length) (A : World), J k A → YieldAt Fence.wide (n - 1) P l L[k] A fun e B => (e = .returned (.bool true) ∧ J (k + 1) B ∧ Kp A B) ∨ (e = .returned (.bool false) ∧ Jx (k + 1) B)) →
    J 0 W → CallsIn Fence.wide n P gf (#[.func (.yield l) #[] #[]] ++ lb) W fun e B => (∃ v, e = .returned v) ∧ (J L.length B ∨ ∃ k, k ≤ L.length ∧ Jx k B)
section
variable {n : Nat} {P : Program}
theorem wp_rangeL {g : Operand} {ps : Array Tmp} {assign body : Code} {Q : Exit → Act → World → Prop} {a : Act} {w : World} (h1 : 1 ≤ n) {gf : Nat} {lb : Array Value} (hg : a.eval g = .func (.func gf) #[] lb) (eg : ∀ args w, (callFunc gf args).run P w = .ok (.enter gf args) w)
    {Ab Kp : World → World → Prop} {L : List (Array Value)} (hseq : SeqL (n - 1) P gf lb Ab Kp L w) (hAb : ∀ {A B : World} {i : Nat} {o : Obj}, Ab A B → A.heap[i]? = some o → o.isCells = false → B.heap[i]? = some o)
    (hKt : ∀ {A B C : World}, Kp A B → Kp B C → Kp A C) (hKb : ∀ (W : World) (l : Nat) (o o' : Obj), w.heap.size ≤ l → W.heap[l]? = some o → o.isCells = false → o.isWalk = false → Kp W (W.putObj l o')) (hps : ∀ x ∈ L, x.size = ps.size)
    (I : Nat → World → Prop) (Ix : Code → Nat → World → Prop) (hI : OwnFrom w.heap.size I) (hIx : ∀ c, OwnFrom w.heap.size (Ix c)) (hIA : ∀ k A B, I k A → Ab A B → I k B) (hXA : ∀ c k A B, Ix c k A → Ab A B → Ix c k B) (h0 : I 0 w) (a₁ : Nat → Act)
    (hassign : ∀ (l k : Nat) (hk : k < L.length) (W : World) (K : Act → World → Prop), K (a₁ k) W →
      assign.wpIn (Fence.wide.inRound l) (n - 1 - 1) P (Exit.then K (fun _ _ _ => False)) { tmps := (ps.zip L[k]).foldl (fun t (p, v) => t.setIfInBounds p v) a.tmps, defers := [] } W)
    (hbody : ∀ (l k : Nat) (W : World), k < L.length → I k W → body.wpIn (Fence.wide.inRound l) (n - 1 - 1) P (RoundPost Kp I Ix (k + 1) W) (a₁ k) W)
    (hdone : ∀ (D : Nat) (W : World), w.heap.size ≤ D → I L.length W → W.heap[D]? = some (.deferred (some [])) → Q .normal { a with defers := { target := .collected D, args := #[] } :: a.defers } W)
    (hstop : ∀ (D : Nat) (c : Code) (k : Nat) (W : World), w.heap.size ≤ D → k ≤ L.length → Ix c k W → W.heap[D]? = some (.deferred (some [])) → c.wpIn Fence.wide n P Q { a with defers := { target := .collected D, args := #[] } :: a.defers } W) :
    (Code.rangeFunc g ps assign body).wpIn Fence.wide n P Q a w := by
  refine wpIn_rangeFunc ?_
  intro fn hfn
  obtain ⟨R, hR⟩ : ∃ R : LoopState → Option Code → Loop, R = fun st pe => { state := st, pending := pe, fn, tmps := a.tmps, params := ps, assign, body, defers := w.heap.size } := ⟨_, rfl⟩
  obtain ⟨V, hV⟩ : ∃ V, V = (w.alloc (.deferred (some []))).alloc (.loop (R .ready none)) := ⟨_, rfl⟩
  have sL : V.heap[w.heap.size + 1]? = some (.loop (R .ready none)) := by
    have := World.alloc_heap_new (w.alloc (.deferred (some []))) (.loop (R .ready none))
    rw [World.size_alloc] at this
    rw [hV]; exact this
  have sD : V.heap[w.heap.size]? = some (.deferred (some [])) := by rw [hV]; exact (Below.heap_alloc _ _ _ (by simp)).trans (World.alloc_heap_new w _)
  have sI : I 0 V := by rw [hV]; exact hI.alloc _ (hI.alloc _ h0)
  have sB : Below w.heap.size w V := by rw [hV]; exact ((Below.refl _ w).alloc (Nat.le_refl _) _).alloc (by simp) _
  refine ⟨w.heap.size + 1, [{ target := .collected w.heap.size, args := #[] }], V, { target := .fn (.func gf) lb, args := #[.func (.yield (w.heap.size + 1)) #[] #[]] }, V, gf, #[.func (.yield (w.heap.size + 1)) #[] #[]] ++ lb, V, ?_, ?_, ?_, ?_, fun _ => h1, ?_⟩
  · rw [hV, hR]; exact run_enterLoop_outer _ _ _ _ _
  · simp only [resolve, hg]
    simp [go_sem]
  · intro f' hf'; simp [Target.leads] at hf'; subst hf'; trivial
  · simp [invoke, go_sem, eg]
  · refine (hseq (w.heap.size + 1) (fun k W => I k W ∧ W.heap[w.heap.size + 1]? = some (.loop (R .ready none)) ∧ W.heap[w.heap.size]? = some (.deferred (some [])))
      (fun k W => ∃ c, Ix c k W ∧ W.heap[w.heap.size + 1]? = some (.loop (R .done (some c))) ∧ W.heap[w.heap.size]? = some (.deferred (some []))) V sB
      (fun k A B h hab => ⟨hIA k A B h.1 hab, hAb hab h.2.1 rfl, hAb hab h.2.2 rfl⟩) (fun k A B h hab => by obtain ⟨c, h1, h2, h3⟩ := h; exact ⟨c, hXA c k A B h1 hab, hAb hab h2 rfl, hAb hab h3 rfl⟩) ?_ ⟨sI, sL, sD⟩).mono ?_
    · rintro k hk W ⟨hi, hl, hd⟩
      have hlt : w.heap.size + 1 < W.heap.size := (Array.getElem?_eq_some_iff.1 hl).1
      have hy := run_yield (P := P) (args := L[k]) hl (by rw [hR]; exact hps _ (List.getElem_mem hk))
      rw [hR] at hy
      refine ⟨fn, _, assign, body, hy, roundIn_of_wpIn hfn (hassign _ k hk W _ ⟨_, run_beginRound hl (by rw [hR]), ?_⟩)⟩
      obtain ⟨U, hU⟩ : ∃ U, U = W.putObj (w.heap.size + 1) (.loop { R .ready none with state := .busy }) := ⟨_, rfl⟩
      have uL : U.heap[w.heap.size + 1]? = some (.loop { R .ready none with state := .busy }) := by rw [hU]; exact World.putObj_heap_same hlt
      have uD : U.heap[w.heap.size]? = some (.deferred (some [])) := by rw [hU]; exact (World.putObj_heap_other (by omega)).trans hd
      have uK : Kp W U := by rw [hU]; exact hKb _ _ _ _ (by omega) hl rfl rfl
      have uI : I k U := by rw [hU]; exact hI.putObj _ hi (by omega) hl rfl
      rw [← hU]
      refine wpIn_mono (hbody _ k U hk uI) ?_
      have last : ∀ (jump : Option Code) (X : World), KeepsOthers U X → X.heap[w.heap.size + 1]? = some (.loop { R .ready none with state := .busy }) ∧ ∃ Y, Y = X.putObj (w.heap.size + 1) (.loop (R (if jump.isNone then .ready else .done) jump)) ∧ (Instr.endRound (w.heap.size + 1) jump).run P X = .ok (.bool jump.isNone) Y ∧
          Y.heap[w.heap.size + 1]? = some (.loop (R (if jump.isNone then .ready else .done) jump)) ∧ Y.heap[w.heap.size]? = some (.deferred (some [])) := fun jump X hx => by
        have xL := hx.same _ _ uL rfl
        have hr := run_endRound (P := P) jump xL
        refine ⟨xL, _, rfl, ?_, World.putObj_heap_same (Array.getElem?_eq_some_iff.1 xL).1, (World.putObj_heap_other (by omega)).trans (hx.same _ _ uD rfl)⟩
        rw [hR] at hr ⊢
        exact hr
      rintro e a3 X hp
      cases e with
      | normal =>
        obtain ⟨x1, x2, x3⟩ := hp
        obtain ⟨xL, Y, hY, hr, yL, yD⟩ := last none X x1
        exact ⟨_, _, hr, .inl ⟨rfl, ⟨by rw [hY]; exact hI.putObj _ x3 (by omega) xL rfl, yL, yD⟩, hKt (hKt uK x2) (by rw [hY]; exact hKb _ _ _ _ (by omega) xL rfl rfl)⟩⟩
      | ret =>
        obtain ⟨x1, x3⟩ := hp
        obtain ⟨xL, Y, hY, hr, yL, yD⟩ := last (some .ret) X x1
        exact ⟨_, _, hr, .inr ⟨rfl, .ret, by rw [hY]; exact (hIx _).putObj _ x3 (by omega) xL rfl, yL, yD⟩⟩
      | exit id =>
        obtain ⟨x1, x3⟩ := hp
        obtain ⟨xL, Y, hY, hr, yL, yD⟩ := last (some (.exit id)) X x1
        exact ⟨_, _, hr, .inr ⟨rfl, .exit id, by rw [hY]; exact (hIx _).putObj _ x3 (by omega) xL rfl, yL, yD⟩⟩
      | goto t => exact hp.elim
      | panic ch => exact hp.elim
      | outgrown => exact hp.elim
    · rintro e X ⟨⟨v, rfl⟩, (⟨hi, hl, hd⟩ | ⟨k, hk, c, hi, hl, hd⟩)⟩
      · have hr := run_endLoop (P := P) hl (by rw [hR]; simp)
        rw [hR] at hr
        exact ⟨none, _, hr, hdone _ _ (Nat.le_refl _) (hI.putObj _ hi (by omega) hl rfl) ((World.putObj_heap_other (by omega)).trans hd)⟩
      · have hr := run_endLoop (P := P) hl (by rw [hR]; simp)
        rw [hR] at hr
        exact ⟨some c, _, hr, hstop _ c k _ (Nat.le_refl _) hk ((hIx c).putObj _ hi (by omega) hl rfl) ((World.putObj_heap_other (by omega)).trans hd)⟩
end
end Go.Proofs.YtlhnaplmphdhlaaDoor.Q
end
section
namespace Go.Proofs.YtlhnaplmphdhlaaDoor.Q
open Go.RowKit Go.Shelf Go.Proofs.YtlhnaplmphdhlaaDoorW.PrintWords Go.Proofs.YtlhnaplmphdhlaaDoorW.PrintLast
attribute [local go_sem] Oper.semAt_some
/-- The pieces of a row of bytes at c. -/
def cuts (c : UInt8) : List UInt8 → List (List UInt8)
  | [] => [[]]
  | a :: l => if a = c then [] :: cuts c l else match cuts c l with | p :: ps => (a :: p) :: ps | [] => [[a]]
theorem cuts_ne (c : UInt8) : ∀ l, cuts c l ≠ []
  | [] => by simp [cuts]
  | a :: l => by
    rw [cuts]
    split
    · simp
    · split <;> simp
theorem cuts_none (c : UInt8) : ∀ {l : List UInt8}, Lib.indexByte l c = -1 → cuts c l = [l]
  | [], _ => rfl
  | a :: l, h => by
    have h0 := Lib.indexByte_none h 0
    have ha : ¬ a = c := fun e => h0 (by rw [e]; rfl)
    have hl : Lib.indexByte l c = -1 := by
      rw [Lib.indexByte] at h
      have hb : (a == c) = false := by simp [ha]
      rw [hb] at h
      simp only [Bool.false_eq_true, if_false] at h
      split at h
      · rename_i h1; exact eq_of_beq h1
      · have := Lib.indexByte_ge l c
        omega
    rw [cuts, if_neg ha, cuts_none c hl]
theorem cuts_some (c : UInt8) : ∀ {l : List UInt8} {i : Nat}, Lib.indexByte l c = i → cuts c l = l.take i :: cuts c (l.drop (i + 1))
  | [], i, h => by rw [Lib.indexByte] at h; omega
  | a :: l, i, h => by
    rw [cuts]
    by_cases ha : a = c
    · have h0 : i = 0 := by
        rw [Lib.indexByte, if_pos (by simp [ha])] at h
        omega
      rw [if_pos ha, h0]
      rfl
    · rw [if_neg ha]
      have hb : (a == c) = false := by simp [ha]
      rw [Lib.indexByte, hb] at h
      simp only [Bool.false_eq_true, if_false] at h
      split at h
      · omega
      · have := Lib.indexByte_ge l c
        obtain ⟨j, hj⟩ : ∃ j : Nat, Lib.indexByte l c = j := ⟨(Lib.indexByte l c).toNat, by rename_i h1; have h2 : Lib.indexByte l c ≠ -1 := fun e => h1 (by rw [e]; rfl); omega⟩
        rw [hj] at h
        obtain rfl : i = j + 1 := by omega
        rw [cuts_some c hj]
        rfl
def pieceV (p : List UInt8) : Array Value := #[.string ⟨p.toArray⟩]
/-- What the iterator does between two rounds: it writes its own cell. -/
def AbS (Bs : Nat) (A B : World) : Prop := ∃ u, B = A.setCell ⟨Bs, 0, none⟩ u
/-- What a round keeps: the iterator's three cells. -/
def KpS (Bs Bp Bz : Nat) (W W' : World) : Prop := W.heap.size ≤ W'.heap.size ∧ ∀ i, i = Bs ∨ i = Bp ∨ i = Bz → i < W.heap.size → W'.heap[i]? = W.heap[i]?
theorem KpS.trans {Bs Bp Bz : Nat} {A B C : World} (h : KpS Bs Bp Bz A B) (k : KpS Bs Bp Bz B C) : KpS Bs Bp Bz A C :=
  ⟨Nat.le_trans h.1 k.1, fun i hi hl => (k.2 i hi (Nat.lt_of_lt_of_le hl h.1)).trans (h.2 i hi hl)⟩
theorem KpS.heap {Bs Bp Bz : Nat} {A B : World} (h : KpS Bs Bp Bz A B) {i : Nat} (hi : i = Bs ∨ i = Bp ∨ i = Bz) {o : Obj} (ho : A.heap[i]? = some o) : B.heap[i]? = some o := (h.2 i hi (Array.getElem?_eq_some_iff.1 ho).1).trans ho
theorem extract_take (s : ByteArray) (i : Nat) : s.extract 0 i = ⟨(s.data.toList.take i).toArray⟩ := by
  apply ByteArray.ext
  apply Array.ext'
  rw [Lib.extract_data, List.drop_zero, Nat.sub_zero]
theorem extract_drop (s : ByteArray) (i : Nat) : s.extract i s.size = ⟨(s.data.toList.drop i).toArray⟩ := by
  apply ByteArray.ext
  apply Array.ext'
  rw [Lib.extract_data]
  show _ = s.data.toList.drop i
  rw [List.take_of_length_le]
  rw [List.length_drop]
  exact Nat.le_refl _
theorem mk_list (s : ByteArray) : (⟨s.data.toList.toArray⟩ : ByteArray) = s := by
  apply ByteArray.ext
  simp
def strSz (W : World) (Bs : Nat) : Nat := match W.cell? ⟨Bs, 0, none⟩ with | some (.string s) => s.size | _ => 0
set_option maxRecDepth 100000 in
set_option maxHeartbeats 4000000 in
theorem split_seq (c : UInt8) (n : Nat) (hn : 1 ≤ n) (Bs Bp Bz : Nat) (hsp : Bs ≠ Bp) (hsz : Bs ≠ Bz) (s : ByteArray) (hs : s.size ≤ 140737488351232) (w : World)
    (hBs : w.heap[Bs]? = some (.cells #[.string s] 9 (0, 0))) (hBp : w.heap[Bp]? = some (.cells #[.string ⟨#[c]⟩] 9 (0, 0))) (hBz : w.heap[Bz]? = some (.cells #[.int .i64 0] 3 (0, 0))) :
    SeqL n Tryd.prog 92 #[.pointer (some ⟨Bp, 0, none⟩), .pointer (some ⟨Bs, 0, none⟩), .pointer (some ⟨Bz, 0, none⟩)] (AbS Bs) (KpS Bs Bp Bz) ((cuts c s.data.toList).map pieceV) w := by
  intro l J Jx W hW hJ hJx hY h0
  have hBs := blk_below hBs hW
  have hBp := blk_below hBp hW
  have hBz := blk_below hBz hW
  clear hW
  obtain ⟨L, hL⟩ : ∃ L, L = (cuts c s.data.toList).map pieceV := ⟨_, rfl⟩
  rw [← hL] at hY ⊢
  refine callsIn_of_wp Tryd.func92 rfl trivial ?_ rfl
  simp only [Tryd.ntmps92, List.size_toArray, List.length_cons, List.length_nil, Nat.reduceAdd, Nat.reduceSub, Array.replicate_succ, Array.replicate_zero, List.push_toArray, List.append_toArray, List.nil_append, List.cons_append]
  have hc1 := (blk_cell hBp 0).trans rfl
  have hone : ((1 : Int) == 0) = false := by decide
  gi_wp2
  gi_loopw [7] (fun v wr => ∃ (t : ByteArray) (k : Nat), t.size ≤ 140737488351232 ∧ Aside0 (L.drop k = (cuts c t.data.toList).map pieceV) ∧ J k wr ∧ wr.heap[Bs]? = some (.cells #[.string t] 9 (0, 0)) ∧ wr.heap[Bp]? = some (.cells #[.string ⟨#[c]⟩] 9 (0, 0)) ∧ wr.heap[Bz]? = some (.cells #[.int .i64 0] 3 (0, 0)))
    (fun _ wr => strSz wr Bs)
  case atStart => exact ⟨s, 0, hs, ⟨by rw [hL]; rfl⟩, h0, hBs, hBp, hBz⟩
  case round =>
    obtain ⟨t, k, ht, HD, hJk, hs1, hp1, hz1⟩ := hrel
    clear hc1 hBs hBp hBz h0
    obtain ⟨x, hx⟩ : ∃ x, x = Lib.indexByte t.data.toList c := ⟨_, rfl⟩
    have HI := Aside0.mk (show ∀ X : World, Calls Tryd.prog 81 #[.string t, .string ⟨#[c]⟩] X (fun e w' => e = .returned (.int .i64 x) ∧ w' = X) from fun X => by rw [hx]; exact Tryd.strings_Index_one t c X)
    have hcs := (blk_cell hs1 0).trans rfl
    have hcp := (blk_cell hp1 0).trans rfl
    have hcz := (blk_cell hz1 0).trans rfl
    have hge := Lib.indexByte_ge t.data.toList c
    rw [← hx] at hge
    have hkl : k < L.length := by
      have h1 := congrArg List.length HD.out
      rw [List.length_drop, List.length_map] at h1
      have h2 := List.length_pos_iff.2 (cuts_ne c t.data.toList)
      omega
    have hLk : L[k] = (L.drop k)[0]'(by rw [List.length_drop]; omega) := by simp
    by_cases hneg : x < 0
    · have d1 : decide (x < 0) = true := decide_eq_true hneg
      have hcut := cuts_none c (show Lib.indexByte t.data.toList c = -1 by omega)
      have hLt : L[k] = #[.string t] := by
        rw [hLk]
        have : (L.drop k) = [#[.string t]] := by rw [HD.out, hcut]; simp [pieceV]
        simp [this]
      have hend : k + 1 = L.length := by
        have h1 := congrArg List.length HD.out
        rw [List.length_drop, hcut] at h1
        simp at h1
        omega
      have HE := Aside0.mk hend
      obtain ⟨fn, tmps, assign, body, hy, hR⟩ := hY k hkl wr hJk
      rw [hLt] at hy
      clear hx hge hneg HD hLk hLt hend hcut
      gi_wp2_with (refine ⟨trivial, ?_⟩; gi_at_call 81; (with_reducible refine (callsIn_wide.2 (HI.out _)).mono ?_); rintro e w7 ⟨rfl, rfl⟩)
      gi_wp2
      refine hR.mono ?_
      rintro e W3 (⟨rfl, hJ3, hk3⟩ | ⟨rfl, hJx3⟩)
      · gi_wp2
        go_end0
        exact ⟨⟨_, rfl⟩, .inl (HE.out ▸ hJ3)⟩
      · gi_wp2
        go_end0
        exact ⟨⟨_, rfl⟩, .inr ⟨k + 1, Nat.le_of_eq HE.out, hJx3⟩⟩
    · obtain ⟨i, hi⟩ : ∃ i : Nat, x = i := ⟨x.toNat, by omega⟩
      subst hi
      have d1 : decide ((i : Int) < 0) = false := decide_eq_false hneg
      have hcut := cuts_some c hx.symm
      have hil : i < t.size := by
        have h1 := (Lib.indexByte_some hx.symm).1
        have h2 := (List.getElem?_eq_some_iff.1 h1).1
        rwa [show t.data.toList.length = t.size from Array.length_toList] at h2
      have hLt : L[k] = #[.string (t.extract 0 i)] := by
        rw [hLk]
        have : (L.drop k) = #[.string (t.extract 0 i)] :: (cuts c (t.data.toList.drop (i + 1))).map pieceV := by rw [HD.out, hcut, extract_take]; rfl
        simp [this]
      have HD2 := Aside0.mk (show L.drop (k + 1) = (cuts c (t.extract (i + 1) t.size).data.toList).map pieceV by
        rw [← List.drop_drop, HD.out, hcut, extract_drop]
        rfl)
      have hsz2 : (t.extract (i + 1) t.size).size = t.size - (i + 1) := by
        rw [extract_drop]
        show (List.drop (i + 1) t.data.toList).toArray.size = _
        simp
      obtain ⟨fn, tmps, assign, body, hy, hR⟩ := hY k hkl wr hJk
      rw [hLt] at hy
      have q1 : ((i : Int) ≤ (t.size : Int)) = True := eq_true (by omega)
      have q2 : (0 ≤ (i : Int) + 1) = True := eq_true (by omega)
      have q3 : ((i : Int) + 1 ≤ (t.size : Int)) = True := eq_true (by omega)
      have q4 : IntKind.i64.wrap ((i : Int) + 1) = (i : Int) + 1 := (i64_w _).trans (by unfold wrap64; omega)
      have q5 : IntKind.i64.wrap (i : Int) = (i : Int) := (i64_w _).trans (by unfold wrap64; omega)
      have q6 : ((i : Int) + 1).toNat = i + 1 := by omega
      have HS := Aside0.mk hsz2
      have HT := Aside0.mk ht
      have HIL := Aside0.mk hil
      clear hx hge hneg HD hLk hLt hcut hsz2 ht hil
      gi_wp2_with (refine ⟨trivial, ?_⟩; gi_at_call 81; (with_reducible refine (callsIn_wide.2 (HI.out _)).mono ?_); rintro e w7 ⟨rfl, rfl⟩)
      refine hR.mono ?_
      rintro e W3 (⟨rfl, hJ3, hk3⟩ | ⟨rfl, hJx3⟩)
      · have hs3 := hk3.heap (.inl rfl) hs1
        have hp3 := hk3.heap (.inr (.inl rfl)) hp1
        have hz3 := hk3.heap (.inr (.inr rfl)) hz1
        have hcs3 := (blk_cell hs3 0).trans rfl
        have hcp3 := (blk_cell hp3 0).trans rfl
        have hfs3 := blk_frozen hs3 0
        have hsz3 : strSz w7 Bs = t.size := by unfold strSz; rw [hcs]; rfl
        have HZ := Aside0.mk hsz3
        clear hcs hcp hcz hsz3
        gi_wp2
        go_roundw
        case rel => exact ⟨t.extract (i + 1) t.size, k + 1, by rw [HS.out]; have := HT.out; omega, HD2, hJ _ _ _ hJ3 ⟨_, rfl⟩, blk_put hs3 0 _ rfl, blk_far hp3 (fun e => hsp e.symm) _, blk_far hz3 (fun e => hsz e.symm) _⟩
        case measure =>
          have : strSz (W3.setCell ⟨Bs, 0, none⟩ (.string (t.extract (i + 1) t.size))) Bs = (t.extract (i + 1) t.size).size := by
            unfold strSz
            rw [(blk_cell (blk_put hs3 0 (.string (t.extract (i + 1) t.size)) rfl) 0).trans rfl]
            rfl
          rw [this, HZ.out, HS.out]
          have := HIL.out
          omega
      · gi_wp2
        refine bodyPost_ret (results_none rfl _ _ _) rfl ?_
        exact ⟨⟨_, rfl⟩, .inr ⟨k + 1, hkl, hJx3⟩⟩
end Go.Proofs.YtlhnaplmphdhlaaDoor.Q
end
section
set_option linter.unusedSimpArgs false
set_option linter.unusedVariables false
namespace Go.Proofs.YtlhnaplmphdhlaaDoor.Q
open Go.RowKit Go.Shelf Go.Proofs.YtlhnaplmphdhlaaDoorW.PrintWords Go.Proofs.YtlhnaplmphdhlaaDoorW.PrintLast
attribute [local go_sem] Oper.semAt_some
def bOf (p : List UInt8) : ByteArray := ⟨p.toArray⟩
theorem bOf_size (p : List UInt8) : (bOf p).size = p.length := by
  show p.toArray.size = _
  simp
def pcAt (L : List (List UInt8)) (k : Nat) : ByteArray := bOf (L.getD k [])
def okU (p : List UInt8) : Bool := decide ((parF (bOf p) 16).2 = 0) && !decide (bt (bOf p) 0 = 45) && decide (p.length ≤ 8)
def valU (p : List UInt8) : Int := (parF (bOf p) 16).1
def unitF (s : ByteArray) : List Int × Int := if (cuts 44 s.data.toList).all okU = true then (if 4 < (cuts 44 s.data.toList).length then ([], 3) else ((cuts 44 s.data.toList).map valU, 0)) else ([], 15)
theorem cuts_len (c : UInt8) : ∀ l : List UInt8, (cuts c l).length ≤ l.length + 1
  | [] => by simp [cuts]
  | a :: l => by
    have h := cuts_len c l
    rw [cuts]
    split
    · simp; omega
    · split
      · rename_i h2; rw [h2] at h; simp at h ⊢; omega
      · simp
theorem cuts_size (c : UInt8) : ∀ (l : List UInt8), ∀ p ∈ cuts c l, p.length ≤ l.length
  | [] => by simp [cuts]
  | a :: l => by
    have h := cuts_size c l
    rw [cuts]
    intro p hp
    split at hp
    · rcases List.mem_cons.1 hp with rfl | hp
      · simp
      · have := h p hp; simp; omega
    · split at hp
      · rename_i q qs h2
        rw [h2] at h
        rcases List.mem_cons.1 hp with rfl | hp
        · have := h q (by simp); simp; omega
        · have := h p (by simp [hp]); simp; omega
      · simp at hp; subst hp; simp
theorem info24i : (Tryd.prog.info? 24).map (fun i => (i.zero, i.size, i.bytes)) = some (some (.int .u32 0), 1, 4) := by kernel_rfl
theorem bt_idx (s : ByteArray) (h : 0 < s.size) : ((s[0]'h).toNat : Int) = bt s 0 := by
  unfold bt
  rw [dif_pos (by simpa using h)]
  rfl
theorem parF_pos {s : ByteArray} (h : (parF s 16).2 = 0) : 0 < s.size := by
  rcases Nat.eq_zero_or_pos s.size with h0 | h0
  · exfalso
    have e : s = ⟨#[]⟩ := by
      apply ByteArray.ext
      apply Array.ext'
      exact List.eq_nil_of_length_eq_zero (by rw [Array.length_toList]; exact h0)
    rw [e] at h
    exact absurd h (by decide)
  · exact h0
set_option maxHeartbeats 1000000 in
theorem splitSeq1_in (n : Nat) (s : ByteArray) (c : UInt8) (W : World) :
    CallsIn Fence.wide n Tryd.prog 73 #[.string s, .string ⟨#[c]⟩, .int .i64 0] W fun e w' => e = .returned (.func (.func 92) #[] #[.pointer (some ⟨W.heap.size + 1, 0, none⟩), .pointer (some ⟨W.heap.size, 0, none⟩), .pointer (some ⟨W.heap.size + 1 + 1, 0, none⟩)]) ∧ w' = ((W.alloc (.cells #[.string s] 9)).alloc (.cells #[.string ⟨#[c]⟩] 9)).alloc (.cells #[.int .i64 0] 3) := by
  refine callsIn_of_wp Tryd.func73 rfl trivial ?_ rfl
  simp only [Tryd.ntmps73, List.size_toArray, List.length_cons, List.length_nil, Nat.reduceAdd, Nat.reduceSub, Array.replicate_succ, Array.replicate_zero, List.push_toArray, List.append_toArray, List.nil_append, List.cons_append]
  gi_wp2
  go_ret
  exact ⟨by simp, rfl⟩
set_option maxHeartbeats 1000000 in
theorem splitSeq_in (s : ByteArray) (c : UInt8) (w : World) :
    CallsIn Fence.wide 4 Tryd.prog 53 #[.string s, .string ⟨#[c]⟩] w fun e w' => e = .returned (.func (.func 92) #[] #[.pointer (some ⟨w.heap.size + 1, 0, none⟩), .pointer (some ⟨w.heap.size, 0, none⟩), .pointer (some ⟨w.heap.size + 1 + 1, 0, none⟩)]) ∧ w' = ((w.alloc (.cells #[.string s] 9)).alloc (.cells #[.string ⟨#[c]⟩] 9)).alloc (.cells #[.int .i64 0] 3) := by
  refine callsIn_of_wp Tryd.func53 rfl trivial ?_ rfl
  simp only [Tryd.ntmps53, List.size_toArray, List.length_cons, List.length_nil, Nat.reduceAdd, Nat.reduceSub, Array.replicate_succ, Array.replicate_zero, List.push_toArray, List.append_toArray, List.nil_append, List.cons_append]
  gi_wp2_with (refine ⟨trivial, ?_⟩; gi_at_call 73; refine (splitSeq1_in _ _ _ _).mono ?_; rintro e w' ⟨rfl, rfl⟩)
  go_ret
  exact ⟨rfl, rfl⟩
/-- What stands between two rounds: the numbers so far, the two results, the iterator's cells. -/
def UnitI (w : World) (L : List (List UInt8)) (k : Nat) (W : World) : Prop :=
  ((∃ v, Boxed W (w.heap.size + 1 + 1) 36 v ∧ W.ownsRow w.heap.size 24 1 v k (((L.map valU).take k).map (Value.int .u32)) ∧ ∀ p ∈ L.take k, okU p = true) ∧ (Boxed W w.heap.size 36 (.slice none 0 0) ∧ Boxed W (w.heap.size + 1) 26 (.int .i64 0))) ∧
    ((∃ t, Boxed W (w.heap.size + 1 + 1 + 1) 9 t) ∧ (∃ t, Boxed W (w.heap.size + 1 + 1 + 1 + 1) 9 t) ∧ (∃ t, Boxed W (w.heap.size + 1 + 1 + 1 + 1 + 1) 3 t)) ∧ Below w.heap.size w W
def UnitX (w : World) (L : List (List UInt8)) (c : Code) (k : Nat) (W : World) : Prop := (c = .ret ∧ ¬ ∀ p ∈ L, okU p = true) ∧ Boxed W w.heap.size 36 (.slice none 0 0) ∧ Boxed W (w.heap.size + 1) 26 (.int .i64 15) ∧ Below w.heap.size w W
theorem someBoxed_own {β : Type} (B : Nat) (t : TypeId) : Own (fun (_ : β) W => ∃ v, Boxed W B t v) := fun s X Y row ⟨v, hv⟩ hg hrow => ⟨v, boxed_own (β := β) B t (fun _ => v) s X Y row hv hg hrow⟩
theorem unitI_own (w : World) (L : List (List UInt8)) (B : Nat) (hB : w.heap.size ≤ B) : OwnFrom B (UnitI w L) :=
  OwnFrom.and (OwnFrom.and (Own.from (holdsRow_own w.heap.size (w.heap.size + 1 + 1) 36 24 1 (fun k => k) (fun k => ((L.map valU).take k).map (Value.int .u32)) (fun k _ => ∀ p ∈ L.take k, okU p = true)) _) (OwnFrom.and (Own.from (boxed_own _ _ _) _) (Own.from (boxed_own _ _ _) _)))
    (OwnFrom.and (OwnFrom.and (Own.from (someBoxed_own _ _) _) (OwnFrom.and (Own.from (someBoxed_own _ _) _) (Own.from (someBoxed_own _ _) _))) (ownFrom_below (Nat.le_refl _) hB))
theorem unitX_own (w : World) (L : List (List UInt8)) (c : Code) (B : Nat) (hB : w.heap.size ≤ B) : OwnFrom B (UnitX w L c) :=
  OwnFrom.and (fun _ _ _ _ h _ _ => h) (OwnFrom.and (Own.from (boxed_own _ _ _) _) (OwnFrom.and (Own.from (boxed_own _ _ _) _) (ownFrom_below (Nat.le_refl _) hB)))
theorem unitI_abs (w : World) (L : List (List UInt8)) (k : Nat) (A B : World) (h : UnitI w L k A) (hab : AbS (w.heap.size + 1 + 1 + 1) A B) : UnitI w L k B := by
  obtain ⟨u, rfl⟩ := hab
  obtain ⟨⟨⟨v, hv, hrow, hok⟩, h1, h2⟩, ⟨⟨t3, h3⟩, ⟨t4, h4⟩, t5, h5⟩, hb⟩ := h
  refine ⟨⟨⟨v, hv.other (by omega) u, hrow.kept (grownBy_setCell' A _ u) (.inr (h3.not_row (by decide) hrow).symm), hok⟩, h1.other (by omega) u, h2.other (by omega) u⟩, ⟨⟨u, h3.set u⟩, ⟨t4, h4.other (by omega) u⟩, t5, h5.other (by omega) u⟩, below_set hb (by omega)⟩
theorem unitX_abs (w : World) (L : List (List UInt8)) (c : Code) (k : Nat) (A B : World) (h : UnitX w L c k A) (hab : AbS (w.heap.size + 1 + 1 + 1) A B) : UnitX w L c k B := by
  obtain ⟨u, rfl⟩ := hab
  exact ⟨h.1, h.2.1.other (by omega) u, h.2.2.1.other (by omega) u, below_set h.2.2.2 (by omega)⟩
theorem unit_out (w : World) (L : List (List UInt8)) (Kp : World → World → Prop) (k nn : Nat) (W : World) (a : Act) (h1 : Boxed W w.heap.size 36 (.slice none 0 0)) (h2 : Boxed W (w.heap.size + 1) 26 (.int .i64 0)) (hB : Below w.heap.size w W) (hX : ¬ ∀ p ∈ L, okU p = true) :
    RoundPost Kp (UnitI w L) (UnitX w L) k W .ret a (((W.drewN nn).setCell ⟨w.heap.size, 0, none⟩ (.slice none 0 0)).setCell ⟨w.heap.size + 1, 0, none⟩ (.int .i64 15)) := by
  have k1 : KeepsOthers W (W.drewN nn) := ⟨Nat.le_refl _, fun _ _ h _ => h⟩
  have g1 : Boxed (W.drewN nn) w.heap.size 36 (.slice none 0 0) := h1
  have g2 : Boxed (W.drewN nn) (w.heap.size + 1) 26 (.int .i64 0) := h2
  exact ⟨(k1.trans (KeepsOthers.setCell _ _ _)).trans (KeepsOthers.setCell _ _ _), ⟨rfl, hX⟩, (g1.set _).other (by omega) _, ((g2.other (by omega) _).set _), below_set (below_set (pw_below_drewN hB nn) (Nat.le_refl _)) (by omega)⟩
set_option maxRecDepth 100000 in
theorem unit_end (w X : World) (D : Nat) (hD : w.heap.size + 1 < D) (tmps : Array Value) (v : Value) (e0 : Int) (r : List Int) (ht2 : tmps.getD 2 undef = .pointer (some ⟨w.heap.size, 0, none⟩)) (ht3 : tmps.getD 3 undef = .pointer (some ⟨w.heap.size + 1, 0, none⟩))
    (hK : X.heap[D]? = some (.deferred (some []))) (g1 : Boxed X w.heap.size 36 v) (g2 : Boxed X (w.heap.size + 1) 26 (.int .i64 e0)) (hrow : X.ownsRow w.heap.size 24 1 v r.length (r.map (Value.int .u32))) (hB : Below w.heap.size w X) :
    bodyPostM Fence.wide 5 Tryd.prog Tryd.f35 (fun e W' => ∃ v, e = .returned (.tuple #[v, .int .i64 e0]) ∧ Kd.R (Kd.int .u32) 24 W' w.heap.size (fun _ => True) v r ∧ Below w.heap.size w W') Exit.ret { tmps := tmps, defers := [{ target := .collected D, args := #[] }] } X := by
  refine ⟨by simp, .inl ⟨_, _, rfl, run_takeDeferred hK, ?_⟩⟩
  have k1 : Boxed (X.putObj D (.deferred none)) w.heap.size 36 v := (World.putObj_heap_other (by omega)).trans g1
  have k2 : Boxed (X.putObj D (.deferred none)) (w.heap.size + 1) 26 (.int .i64 e0) := (World.putObj_heap_other (by omega)).trans g2
  have c1 := k1.cell
  have c2 := k2.cell
  have hrow2 := ownsRow_putObj hrow (.deferred none) hK rfl
  refine ⟨_, ?_, v, rfl, Kd.R_of_own (xs := r) hrow2 (fun _ _ => trivial), hB.trans (belowK_b (w := w) (Nat.le_refl _) X D _ _ (by omega) hK rfl rfl)⟩
  have hRR : Kd.R (Kd.int .u32) 24 (X.putObj D (.deferred none)) w.heap.size (fun _ => True) v r := Kd.R_of_own (xs := r) hrow2 (fun _ _ => trivial)
  obtain ⟨A, c, hv⟩ := Kd.R_slice hRR
  subst hv
  rw [Array.getD_eq_getD_getElem?] at ht2 ht3
  simp [results, Tryd.results35, go_sem, ht2, ht3, c1, c2]
set_option maxRecDepth 100000 in
set_option maxHeartbeats 4000000 in
theorem unit_calls (s : ByteArray) (w : World) (hs : s.size ≤ 100000000) :
    Calls Tryd.prog 35 #[.string s] w fun e W' => ∃ v, e = .returned (.tuple #[v, .int .i64 (unitF s).2]) ∧ Kd.R (Kd.int .u32) 24 W' w.heap.size (fun _ => True) v (unitF s).1 ∧ Below w.heap.size w W' := by
  refine (callsIn_wide (n := 5)).1 ?_
  obtain ⟨i0, hi, hz0, hz1, hz2⟩ := info_parts info24i
  obtain ⟨L, hL⟩ : ∃ L, L = cuts 44 s.data.toList := ⟨_, rfl⟩
  have HLl := Aside0.mk (show L.length ≤ 100000001 by
    have := cuts_len 44 s.data.toList
    rw [hL]
    have e : s.data.toList.length = s.size := Array.length_toList
    omega)
  have HLs := Aside0.mk (show ∀ p ∈ L, p.length ≤ 100000000 by
    intro p hp
    have := cuts_size 44 s.data.toList p (hL ▸ hp)
    have e : s.data.toList.length = s.size := Array.length_toList
    omega)
  have HSq := Aside0.mk (show ∀ W0 : World, W0.heap[w.heap.size + 1 + 1 + 1]? = some (.cells #[.string s] 9 (0, 0)) → W0.heap[w.heap.size + 1 + 1 + 1 + 1]? = some (.cells #[.string ⟨#[44]⟩] 9 (0, 0)) → W0.heap[w.heap.size + 1 + 1 + 1 + 1 + 1]? = some (.cells #[.int .i64 0] 3 (0, 0)) →
      SeqL 4 Tryd.prog 92 #[.pointer (some ⟨w.heap.size + 1 + 1 + 1 + 1, 0, none⟩), .pointer (some ⟨w.heap.size + 1 + 1 + 1, 0, none⟩), .pointer (some ⟨w.heap.size + 1 + 1 + 1 + 1 + 1, 0, none⟩)] (AbS (w.heap.size + 1 + 1 + 1)) (KpS (w.heap.size + 1 + 1 + 1) (w.heap.size + 1 + 1 + 1 + 1) (w.heap.size + 1 + 1 + 1 + 1 + 1)) (L.map pieceV) W0 from fun W0 h1 h2 h3 => by
    rw [hL]
    exact split_seq 44 4 (by decide) _ _ _ (by omega) (by omega) s (by omega) W0 h1 h2 h3)
  obtain ⟨R, hR⟩ : ∃ R, R = unitF s := ⟨_, rfl⟩
  rw [← hR]
  have HR := Aside0.mk (show R = if L.all okU = true then (if 4 < L.length then ([], 3) else (L.map valU, 0)) else ([], 15) by rw [hR, hL]; rfl)
  clear hR hL hs
  refine callsIn_of_wp_marks Tryd.func35 rfl trivial ?_ rfl
  simp only [Tryd.ntmps35, List.size_toArray, List.length_cons, List.length_nil, Nat.reduceAdd, Nat.reduceSub, Array.replicate_succ, Array.replicate_zero, List.push_toArray, List.append_toArray, List.nil_append, List.cons_append]
  gi_wp2_with (refine ⟨trivial, ?_⟩; gi_at_call 53; refine (splitSeq_in _ _ _).mono ?_; rintro e w' ⟨rfl, rfl⟩)
  obtain ⟨W0, hW0⟩ : ∃ W0, W0 = (((((w.alloc (.cells #[.slice none 0 0] 36)).alloc (.cells #[.int .i64 0] 26)).alloc (.cells #[.slice none 0 0] 36)).alloc (.cells #[.string s] 9)).alloc (.cells #[.string ⟨#[44]⟩] 9)).alloc (.cells #[.int .i64 0] 3) := ⟨_, rfl⟩
  have b0 : Boxed W0 w.heap.size 36 (.slice none 0 0) := by rw [hW0]; exact (((((Boxed.new w 36 (.slice none 0 0)).alloc _).alloc _).alloc _).alloc _).alloc _
  have b1 : Boxed W0 (w.heap.size + 1) 26 (.int .i64 0) := by
    rw [hW0]
    have h := Boxed.new (w.alloc (.cells #[.slice none 0 0] 36)) 26 (.int .i64 0)
    rw [World.size_alloc] at h
    exact (((h.alloc _).alloc _).alloc _).alloc _
  have b2 : Boxed W0 (w.heap.size + 1 + 1) 36 (.slice none 0 0) := by
    rw [hW0]
    have h := Boxed.new ((w.alloc (.cells #[.slice none 0 0] 36)).alloc (.cells #[.int .i64 0] 26)) 36 (.slice none 0 0)
    rw [World.size_alloc, World.size_alloc] at h
    exact ((h.alloc _).alloc _).alloc _
  have b3 : Boxed W0 (w.heap.size + 1 + 1 + 1) 9 (.string s) := by
    rw [hW0]
    have h := Boxed.new (((w.alloc (.cells #[.slice none 0 0] 36)).alloc (.cells #[.int .i64 0] 26)).alloc (.cells #[.slice none 0 0] 36)) 9 (.string s)
    rw [World.size_alloc, World.size_alloc, World.size_alloc] at h
    exact (h.alloc _).alloc _
  have b4 : Boxed W0 (w.heap.size + 1 + 1 + 1 + 1) 9 (.string ⟨#[44]⟩) := by
    rw [hW0]
    have h := Boxed.new ((((w.alloc (.cells #[.slice none 0 0] 36)).alloc (.cells #[.int .i64 0] 26)).alloc (.cells #[.slice none 0 0] 36)).alloc (.cells #[.string s] 9)) 9 (.string ⟨#[44]⟩)
    rw [World.size_alloc, World.size_alloc, World.size_alloc, World.size_alloc] at h
    exact h.alloc _
  have b5 : Boxed W0 (w.heap.size + 1 + 1 + 1 + 1 + 1) 3 (.int .i64 0) := by
    rw [hW0]
    have h := Boxed.new (((((w.alloc (.cells #[.slice none 0 0] 36)).alloc (.cells #[.int .i64 0] 26)).alloc (.cells #[.slice none 0 0] 36)).alloc (.cells #[.string s] 9)).alloc (.cells #[.string ⟨#[44]⟩] 9)) 3 (.int .i64 0)
    rw [World.size_alloc, World.size_alloc, World.size_alloc, World.size_alloc, World.size_alloc] at h
    exact h
  have hB0 : Below w.heap.size w W0 := by rw [hW0]; exact below_alloc (below_alloc (below_alloc (below_alloc (below_alloc (below_alloc (Below.refl _ _) _) _) _) _) _) _
  have hs0 : W0.heap.size = w.heap.size + 6 := by rw [hW0]; simp
  rw [← hW0]
  clear hW0
  refine wp_rangeL (by omega) (gf := 92) (lb := #[.pointer (some ⟨w.heap.size + 1 + 1 + 1 + 1, 0, none⟩), .pointer (some ⟨w.heap.size + 1 + 1 + 1, 0, none⟩), .pointer (some ⟨w.heap.size + 1 + 1 + 1 + 1 + 1, 0, none⟩)]) rfl (enters_of Tryd.func92 (by kernel_rfl) rfl)
    (HSq.out W0 b3 b4 b5) ?hAb (fun h k => h.trans k) (fun W i o o' hi ho _ _ => ⟨by simp, fun j hj hlt => World.putObj_heap_other (by rcases hj with rfl | rfl | rfl <;> omega)⟩) ?hps
    (UnitI w L) (UnitX w L) (unitI_own w L _ (by omega)) (fun c => unitX_own w L c _ (by omega)) (unitI_abs w L) (unitX_abs w L)
    ⟨⟨⟨_, b2, World.ownsRow_nil _ _ _ _, by simp⟩, b0, b1⟩, ⟨⟨_, b3⟩, ⟨_, b4⟩, _, b5⟩, hB0⟩
    (fun k => { tmps := #[.string s, undef, .pointer (some ⟨w.heap.size, 0, none⟩), .pointer (some ⟨w.heap.size + 1, 0, none⟩), .pointer (some ⟨w.heap.size + 1 + 1, 0, none⟩), .string (pcAt L k), undef, undef, .string s, .func (.func 92) #[] #[.pointer (some ⟨w.heap.size + 1 + 1 + 1 + 1, 0, none⟩), .pointer (some ⟨w.heap.size + 1 + 1 + 1, 0, none⟩), .pointer (some ⟨w.heap.size + 1 + 1 + 1 + 1 + 1, 0, none⟩)], .string (pcAt L k), undef, undef, undef, undef, undef, undef, undef, undef, undef, undef, undef, undef, undef, undef, undef, undef, undef, undef, undef, undef, undef, undef, undef, undef, undef], defers := [] }) ?assign ?body ?done ?stop
  case hAb =>
    rintro A B i o ⟨u, rfl⟩ ho hoc
    obtain ⟨b, hb⟩ : ∃ b : World, b = A.setCell ⟨w.heap.size + 1 + 1 + 1, 0, none⟩ u := ⟨_, rfl⟩
    rw [← hb]
    have := (KeepsOthers.setCell A ⟨w.heap.size + 1 + 1 + 1, 0, none⟩ u).same i o ho hoc
    rw [← hb] at this
    exact this
  case hps =>
    intro x hx
    obtain ⟨p, _, rfl⟩ := List.mem_map.1 hx
    rfl
  case assign =>
    intro l' k hk W K hK
    have hk' : k < L.length := by simpa using hk
    have e : (L.map pieceV)[k] = #[.string (pcAt L k)] := by
      rw [List.getElem_map, pcAt, List.getD_eq_getElem?_getD, List.getElem?_eq_getElem hk']
      rfl
    rw [e]
    gi_wp2
    exact hK
  case body =>
    rintro l' k W hk0 ⟨⟨⟨v, hv, hrow, hok⟩, h1, h2⟩, ⟨⟨t3, h3⟩, ⟨t4, h4⟩, t5, h5⟩, hB⟩
    have hk : k < L.length := by simpa using hk0
    obtain ⟨q, hq⟩ : ∃ q, q = pcAt L k := ⟨_, rfl⟩
    rw [← hq]
    have hqs : q.size ≤ 100000000 := by
      rw [hq, pcAt, bOf_size, List.getD_eq_getElem?_getD, List.getElem?_eq_getElem hk]
      exact HLs.out _ (List.getElem_mem hk)
    have hqL : L[k] = L.getD k [] := by rw [List.getD_eq_getElem?_getD, List.getElem?_eq_getElem hk]; rfl
    have hqe : bOf L[k] = q := by rw [hq, pcAt, hqL]
    obtain ⟨x, hx⟩ : ∃ x, x = (parF q 16).1 := ⟨_, rfl⟩
    obtain ⟨e0, he0⟩ : ∃ e0, e0 = (parF q 16).2 := ⟨_, rfl⟩
    have HP := Aside0.mk (show ∀ X : World, Calls Tryd.prog 54 #[.string q, .int .u32 16] X (fun e w' => e = .returned (.tuple #[.int .u32 x, .int .i64 e0]) ∧ Drawn0 X w') from fun X =>
      digit_Parse.calls 100000050 q 16 x e0 X (by rw [parse_eq _ _ _ (by omega) (by omega), hx, he0]))
    have hne : ¬ okU L[k] = true → ¬ ∀ p ∈ L, okU p = true := fun h h2 => h (h2 _ (List.getElem_mem hk))
    have hokk : okU L[k] = (decide (e0 = 0) && !decide (bt q 0 = 45) && decide (q.size ≤ 8)) := by
      unfold okU
      rw [hqe, ← he0, ← hqe, bOf_size]
    by_cases hz : e0 = 0
    · have hpos : 0 < q.size := parF_pos (by rw [← he0, hz])
      have p1 : (0 < (q.size : Int)) = True := eq_true (by omega)
      have hbt := bt_idx q hpos
      subst hz
      by_cases h45 : bt q 0 = 45
      · have hX := hne (by rw [hokk, h45]; simp)
        have d2 : (((q[0]'hpos).toNat : Int) == 45) = true := by rw [hbt, h45]; rfl
        have HX := Aside0.mk hX
        clear hx he0 hokk hne hqe hqL hqs hq hk hs0 hok hX hbt
        have hc1 := h1.cell
        have hf1 := h1.frozen
        have hc2 := h2.cell
        have hf2 := h2.frozen
        gi_wp2_with (refine ⟨trivial, ?_⟩; gi_at_call 54; refine (CallsIn.inRound l' (callsIn_wide.2 (HP.out _))).mono ?_; rintro e w' ⟨rfl, hd⟩; obtain ⟨⟨nn, rfl⟩⟩ := hd)
        exact unit_out w L _ _ nn W _ h1 h2 hB HX.out
      · have d2 : (((q[0]'hpos).toNat : Int) == 45) = false := by rw [hbt]; exact beq_false_of_ne h45
        by_cases h8 : q.size ≤ 8
        · have d3 : decide ((8 : Int) < (q.size : Int)) = false := decide_eq_false (by omega)
          have hokt : okU L[k] = true := by rw [hokk]; simp [h45, h8]
          have HTk := Aside0.mk (show (L.map valU).take (k + 1) = (L.map valU).take k ++ [x] by
            rw [List.take_succ_eq_append_getElem (by rw [List.length_map]; exact hk), List.getElem_map]
            congr 2
            unfold valU
            rw [hqe, hx])
          have HOk := Aside0.mk (show ∀ p ∈ L.take (k + 1), okU p = true by
            intro p hp
            rw [List.take_succ_eq_append_getElem hk] at hp
            rcases List.mem_append.1 hp with hp | hp
            · exact hok p hp
            · rw [List.mem_singleton.1 hp]; exact hokt)
          have HK := Aside0.mk (show k ≤ 100000001 from Nat.le_trans (Nat.le_of_lt hk) HLl.out)
          have HTl := Aside0.mk (show (((L.map valU).take k).map (Value.int .u32)).length = k by rw [List.length_map, List.length_take, List.length_map]; omega)
          clear hx he0 hokk hne hqe hqL hqs hq hk hs0 hok hbt h45 h8 hokt
          gi_wp2_with (first
            | (refine ⟨trivial, ?_⟩; gi_at_call 54; refine (CallsIn.inRound l' (callsIn_wide.2 (HP.out _))).mono ?_; rintro e w' ⟨rfl, hd⟩; obtain ⟨⟨nn, rfl⟩⟩ := hd; have hvX : Boxed (W.drewN nn) (w.heap.size + 1 + 1) 36 v := hv; have hrowX : (W.drewN nn).ownsRow w.heap.size 24 1 v k (((L.map valU).take k).map (Value.int .u32)) := hrow; have hBX : Below w.heap.size w (W.drewN nn) := pw_below_drewN hB nn; obtain ⟨X, hX⟩ : ∃ X, X = W.drewN nn := ⟨_, rfl⟩; have HXW := Aside0.mk hX; rw [← hX] at hvX hrowX hBX ⊢; clear hX; have hcX := hvX.cell; clear hv hrow hB)
            | (gi_at_builtin; refine wpListIn_append_own _ rfl _ _ 36 rfl w.heap.size 24 i0 (.int .u32 0) 1 4 Tryd.underlying36 hi hz0 hz1 hz2 rfl (by decide) _ _ _ rfl (hrowX.alloc _) ⟨X.heap.size, 0, none⟩ 1 1 [.int .u32 x] rfl rfl (cell_one_new _ _ _) (by simp [Value.oneCell']) (by have := HK.out; unfold maxLen; omega) (by have := HK.out; omega) (by have := hBX.size; simp; omega) ?_; intro v' w1 hown' hgrow _; obtain ⟨g', cap', rfl⟩ := ownsRow_succ hown'; obtain ⟨hv1, hv2, hr2, hk2, hb2⟩ := hvX.appended (by decide) hrowX hBX.size (by omega) hown' hgrow; have hc1 := hv1.cell; have hf1 := hv1.frozen))
          have hXW := HXW.out
          subst hXW
          have k1 : KeepsOthers W (W.drewN nn) := ⟨Nat.le_refl _, fun _ _ h _ => h⟩
          have hkk := k1.trans hk2
          have hBk := hBX.trans hb2
          have box : ∀ {B : Nat} {t : TypeId} {u : Value}, Boxed W B t u → 24 ≠ t → w.heap.size + 1 + 1 ≠ B → Boxed (w1.setCell ⟨w.heap.size + 1 + 1, 0, none⟩ (.slice (some ⟨g', 0, none⟩) (k + 1) cap')) B t u := fun {B t u} h ht hB2 => by
            have h' : Boxed (W.drewN nn) B t u := h
            exact ((h'.alloc _).kept hgrow (h'.not_row (fun e => ht e.symm) hrowX)).other (fun e => hB2 e.symm) _
          have f3 := box h3 (by decide) (by omega)
          have f4 := box h4 (by decide) (by omega)
          have f5 := box h5 (by decide) (by omega)
          refine ⟨hkk, ⟨hkk.size, fun i hi hl => ?_⟩, ⟨⟨_, hv2, ?_, HOk.out⟩, box h1 (by decide) (by omega), box h2 (by decide) (by omega)⟩, ⟨⟨t3, f3⟩, ⟨t4, f4⟩, t5, f5⟩, hBk⟩
          · rcases hi with rfl | rfl | rfl
            · exact (show _ = _ from f3).trans (show _ = _ from h3).symm
            · exact (show _ = _ from f4).trans (show _ = _ from h4).symm
            · exact (show _ = _ from f5).trans (show _ = _ from h5).symm
          · rw [HTk.out, List.map_append]
            exact hr2
        · have hX := hne (by rw [hokk]; simp [h8])
          have d3 : decide ((8 : Int) < (q.size : Int)) = true := decide_eq_true (by omega)
          have HX := Aside0.mk hX
          clear hx he0 hokk hne hqe hqL hqs hq hk hs0 hok hX hbt h45 h8
          have hc1 := h1.cell
          have hf1 := h1.frozen
          have hc2 := h2.cell
          have hf2 := h2.frozen
          gi_wp2_with (refine ⟨trivial, ?_⟩; gi_at_call 54; refine (CallsIn.inRound l' (callsIn_wide.2 (HP.out _))).mono ?_; rintro e w' ⟨rfl, hd⟩; obtain ⟨⟨nn, rfl⟩⟩ := hd)
          exact unit_out w L _ _ nn W _ h1 h2 hB HX.out
    · have hX := hne (by rw [hokk]; simp [hz])
      have d1 : (e0 != 0) = true := by simp [hz]
      have HX := Aside0.mk hX
      clear hx he0 hokk hne hqe hqL hqs hq hk hs0 hok hX hz
      have hc1 := h1.cell
      have hf1 := h1.frozen
      have hc2 := h2.cell
      have hf2 := h2.frozen
      gi_wp2_with (refine ⟨trivial, ?_⟩; gi_at_call 54; refine (CallsIn.inRound l' (callsIn_wide.2 (HP.out _))).mono ?_; rintro e w' ⟨rfl, hd⟩; obtain ⟨⟨nn, rfl⟩⟩ := hd)
      exact unit_out w L _ _ nn W _ h1 h2 hB HX.out
  case done =>
    rintro D W hD ⟨⟨⟨v, hv, hrow, hok⟩, h1, h2⟩, _, hB⟩ hK
    have hLn : (L.map pieceV).length = L.length := List.length_map _
    rw [hLn] at hrow hok
    rw [List.take_of_length_le (by rw [List.length_map]; exact Nat.le_refl _)] at hrow
    rw [List.take_of_length_le (Nat.le_refl _)] at hok
    have hRx : Kd.R (Kd.int .u32) 24 W w.heap.size (fun _ => True) v (L.map valU) := Kd.R_of_own (xs := L.map valU) (by rw [List.length_map]; exact hrow) (fun _ _ => trivial)
    obtain ⟨A, c, rfl⟩ := Kd.R_slice hRx
    have hc := hv.cell
    have hc1 := h1.cell
    have hf1 := h1.frozen
    have hc2 := h2.cell
    have hf2 := h2.frozen
    have hall : L.all okU = true := List.all_eq_true.2 hok
    have hLm : (L.map valU).length = L.length := List.length_map _
    rw [hLm] at hv hc hRx
    have hR := HR.out
    rw [if_pos hall] at hR
    clear hok hall
    by_cases h4 : 4 < L.length
    · rw [if_pos h4] at hR
      subst hR
      have d4 : decide ((4 : Int) < (L.length : Int)) = true := decide_eq_true (by omega)
      gi_wp2
      exact unit_end w _ D (by omega) _ (.slice none 0 0) 3 [] rfl rfl (((KeepsOthers.setCell _ _ _).trans (KeepsOthers.setCell _ _ _)).same D _ hK rfl) ((h1.set _).other (by omega) _) ((h2.other (by omega) _).set _) (World.ownsRow_nil _ _ _ _) (below_set (below_set hB (Nat.le_refl _)) (by omega))
    · rw [if_neg h4] at hR
      subst hR
      have d4 : decide ((4 : Int) < (L.length : Int)) = false := decide_eq_false (by omega)
      have hne1 := h1.not_row (by decide) hrow
      have hne2 := h2.not_row (by decide) hrow
      rw [hLm] at hne1 hne2
      gi_wp2
      have e : (L.map valU).length = L.length := hLm
      refine unit_end w _ D (by omega) _ (.slice A L.length c) 0 (L.map valU) rfl rfl (((KeepsOthers.setCell _ _ _).trans (KeepsOthers.setCell _ _ _)).same D _ hK rfl) ((h1.set _).other (by omega) _) ((h2.other (by omega) _).set _) ?_ (below_set (below_set hB (Nat.le_refl _)) (by omega))
      rw [hLm] at hrow ⊢
      exact (hrow.kept (grownBy_setCell' _ _ _) (.inr hne1.symm)).kept (grownBy_setCell' _ _ _) (.inr hne2.symm)
  case stop =>
    rintro D c k W hD hkk ⟨⟨rfl, hX⟩, h1, h2, hB⟩ hK
    have hR := HR.out
    rw [if_neg (fun h => hX (List.all_eq_true.1 h))] at hR
    subst hR
    have hc1 := h1.cell
    have hc2 := h2.cell
    gi_wp2
    exact unit_end w _ D (by omega) _ (.slice none 0 0) 15 [] rfl rfl hK h1 h2 (World.ownsRow_nil _ _ _ _) hB
def prop_ParseUnit.f (s : ByteArray) : Option (List Int × Int) := if s.size ≤ 100000000 then some (unitF s) else none
theorem prop_ParseUnit.calls (a0 : ByteArray) (r1 : List Int) (r2 : Int) (w : World) (h : prop_ParseUnit.f a0 = some (r1, r2)) :
    Calls Tryd.prog 35 #[.string a0] w fun e w' => ∃ v0_ : Value, e = .returned (.tuple #[v0_, .int .i64 r2]) ∧ Kd.R (Kd.int .u32) 24 w' w.heap.size (fun _ => True) v0_ r1 ∧ Below w.heap.size w w' := by
  unfold prop_ParseUnit.f at h
  split at h
  · rename_i hs
    have e := Option.some.inj h
    have h2 := unit_calls a0 w hs
    rw [e] at h2
    exact h2
  · cases h
end Go.Proofs.YtlhnaplmphdhlaaDoor.Q
end
section
namespace Go.Proofs.YtlhnaplmphdhlaaDoor.Q
open Go.RowKit Go.Proofs.YtlhnaplmphdhlaaDoorW.PrintWords Go.Proofs.YtlhnaplmphdhlaaDoorW.PrintLast
def strings_IndexByte.f (a0 : ByteArray) (a1 : Int) : Option Int := some (Lib.indexByte a0.data.toList a1.toNat.toUInt8)
theorem strings_IndexByte.calls (a0 : ByteArray) (a1 : Int) (r : Int) (w : World) (h : strings_IndexByte.f a0 a1 = some r) : Calls Tryd.prog 45 #[.string a0, .int .u8 a1] w fun e w' => e = .returned (.int .i64 r) ∧ Below w.heap.size w w' := by
  obtain rfl := Option.some.inj h
  refine (Tryd.strings_IndexByte a0 a1 w).mono ?_
  rintro e w' ⟨rfl, rfl⟩
  exact ⟨rfl, Below.refl _ _⟩
end Go.Proofs.YtlhnaplmphdhlaaDoor.Q
end
section
set_option linter.unusedSimpArgs false
set_option linter.unusedVariables false
namespace Go.Proofs.YtlhnaplmphdhlaaDoor.Q
open Go.RowKit Go.Proofs.YtlhnaplmphdhlaaDoorW.PrintWords Go.Proofs.YtlhnaplmphdhlaaDoorW.PrintLast
def encF (s : ByteArray) : List Int × Int := if 0 ≤ Lib.indexByte s.data.toList 0 then ([], 15) else if 256 ≤ s.size then ([], 3) else (bytesOf s ++ [0], 0)
theorem info5i : (Tryd.prog.info? 5).map (fun i => (i.zero, i.size, i.bytes)) = some (some (.int .u8 0), 1, 1) := by kernel_rfl
theorem bw_size (W : World) (s : ByteArray) : (Lib.bytesCells W 5 s).size = grownCap W s.size 0 5 := by
  have h := grownCap_ge W s.size 0 5
  unfold Lib.bytesCells
  rw [Array.size_append, Array.size_map, Array.size_replicate]
  show s.data.size + _ = _
  have : s.data.size = s.size := rfl
  omega
theorem bw_room (W : World) (s : ByteArray) (h : s.size + 1 ≤ grownCap W s.size 0 5) : ((Lib.bytesWorld W 5 s).cell? ⟨W.heap.size, s.size, none⟩).isSome = true ∧ (Lib.bytesWorld W 5 s).frozen? ⟨W.heap.size, s.size, none⟩ = false := by
  have hb := Lib.bytesWorld_at_new W 5 s
  have hs := bw_size W s
  constructor
  · rw [cell_of_row _ _ _ _ _ _ hb, Array.getElem?_eq_getElem (by omega)]
    rfl
  · unfold World.frozen?
    simp only [hb]
    rw [hs]
    simp
    omega
theorem bw_C (W : World) (s : ByteArray) (hs : s.size < 256) (h : s.size + 1 ≤ grownCap W s.size 0 5) :
    Kd.C (Kd.int .u8) (((Lib.bytesWorld W 5 s).alloc (.cells #[.int .u8 0] 5)).setCell ⟨W.heap.size, s.size, none⟩ (.int .u8 0)) (some ⟨W.heap.size, 0, none⟩) (s.size + 1) (bytesOf s ++ [0]) := by
  have hr := bw_room W s h
  have hbs := Lib.bytesWorld_size W 5 s
  have hlen : (bytesOf s ++ [0]).length = s.size + 1 := by rw [List.length_append, bytesOf_length]; rfl
  refine Kd.C_of_reads (d := (0 : Int)) ⟨hlen, by omega, fun _ => ⟨_, rfl, fun j hj => ?_⟩⟩
  rw [add_plain]
  have hal : ∀ i, ((Lib.bytesWorld W 5 s).alloc (.cells #[.int .u8 0] 5)).cell? ⟨W.heap.size, i, none⟩ = (Lib.bytesWorld W 5 s).cell? ⟨W.heap.size, i, none⟩ := fun i => (below_alloc (Below.refl (Lib.bytesWorld W 5 s).heap.size (Lib.bytesWorld W 5 s)) _).cell (p := ⟨W.heap.size, i, none⟩) (by show W.heap.size < _; omega)
  by_cases hj2 : j = s.size
  · subst hj2
    rw [World.cell?_setCell_same' _ _ _ (by rw [hal]; exact hr.1)]
    rw [List.getD_eq_getElem?_getD, List.getElem?_append_right (by rw [bytesOf_length]; exact Nat.le_refl _), bytesOf_length, Nat.sub_self]
    rfl
  · rw [World.cell?_setCell_other (h := by intro e; injection e with _ e2 _; exact hj2 e2.symm), hal, Lib.bytesWorld_cell W 5 s j (by omega)]
    have h' : j < s.data.toList.length := by rw [data_length]; omega
    rw [show List.getD (bytesOf s ++ [0] : List Int) j 0 = (bytesOf s).getD j 0 from by rw [List.getD_eq_getElem?_getD, List.getElem?_append_left (by rw [bytesOf_length]; omega), ← List.getD_eq_getElem?_getD]]
    simp [bytesOf, List.getD_eq_getElem?_getD, List.getElem?_eq_getElem h']
set_option maxRecDepth 100000 in
set_option maxHeartbeats 2000000 in
theorem enc_calls (s : ByteArray) (w : World) : Calls Tryd.prog 17 #[.string s] w fun e w' => ∃ A c, e = .returned (.tuple #[.slice A (encF s).1.length c, .int .i64 (encF s).2]) ∧ (encF s).1.length ≤ c ∧ Kd.C (Kd.int .u8) w' A (encF s).1.length (encF s).1 ∧ Below w.heap.size w w' := by
  obtain ⟨x, hx⟩ : ∃ x, x = Lib.indexByte s.data.toList 0 := ⟨_, rfl⟩
  have HI := Aside0.mk (show ∀ W : World, Calls Tryd.prog 45 #[.string s, .int .u8 0] W (fun e w' => e = .returned (.int .i64 x) ∧ Below W.heap.size W w') from fun W => strings_IndexByte.calls s 0 x W (by rw [hx]; rfl))
  obtain ⟨R, hR⟩ : ∃ R, R = encF s := ⟨_, rfl⟩
  rw [← hR]
  unfold encF at hR
  rw [← hx] at hR
  clear hx
  by_cases h0 : 0 ≤ x
  · rw [if_pos h0] at hR
    subst hR
    have d0 : decide (0 ≤ x) = true := decide_eq_true h0
    clear h0
    go_enter Tryd.func17, Tryd.ntmps17
    go_wp2_with (go_at_call 45; (with_reducible refine (HI.out _).mono ?_); rintro e w7 ⟨rfl, hb⟩; have HB := Aside0.mk hb; clear hb)
    go_ret2
    exact ⟨none, 0, rfl, Nat.le_refl _, Kd.C_nil _ _, HB.out⟩
  · rw [if_neg h0] at hR
    have d0 : decide (0 ≤ x) = false := decide_eq_false h0
    clear h0
    by_cases h1 : 256 ≤ s.size
    · rw [if_pos h1] at hR
      subst hR
      have d1 : decide ((256 : Int) ≤ (s.size : Int)) = true := decide_eq_true (by omega)
      clear h1
      go_enter Tryd.func17, Tryd.ntmps17
      go_wp2_with (go_at_call 45; (with_reducible refine (HI.out _).mono ?_); rintro e w7 ⟨rfl, hb⟩; have HB := Aside0.mk hb; clear hb)
      go_ret2
      exact ⟨none, 0, rfl, Nat.le_refl _, Kd.C_nil _ _, HB.out⟩
    · rw [if_neg h1] at hR
      subst hR
      have d1 : decide ((256 : Int) ≤ (s.size : Int)) = false := decide_eq_false (by omega)
      have kb := fun W => print_bytes (P := Tryd.prog) 9 25 5 Tryd.underlying9 Tryd.underlying25 Tryd.underlying5 s W
      have H1 := Aside0.mk h1
      clear h1
      go_enter Tryd.func17, Tryd.ntmps17
      obtain ⟨i0, hi, hz0, hz1, hz2⟩ := info_parts info5i
      have HSz := Aside0.mk (show s.size < 256 by have := H1.out; omega)
      have HLn := Aside0.mk (show (bytesOf s ++ [0]).length = s.size + 1 by rw [List.length_append, bytesOf_length]; rfl)
      go_wp2_with (first
        | (go_at_call 45; (with_reducible refine (HI.out _).mono ?_); rintro e w7 ⟨rfl, hb⟩; have HB := Aside0.mk hb; clear hb)
        | (at_builtin; refine wpList_append_arg ((Lib.bytesWorld w7 5 s).alloc (.cells #[.int .u8 0] 5)) rfl (.tmp 13) (.tmp 14) 25 rfl 5 i0 (.int .u8 0) 1 1 Tryd.underlying25 hi hz0 hz1 hz2 rfl (by decide) w7.heap.size 0 s.size (grownCap w7 s.size 0 5) ((bytesOf s).map (Value.int .u8)) rfl ?a1 ?a2 ⟨(Lib.bytesWorld w7 5 s).heap.size, 0, none⟩ 1 1 [.int .u8 0] rfl rfl ?a3 (by simp [Value.oneCell']) ?a4 ?a5 ?a6 ?a7 ?a8))
      case a1 => rw [List.length_map, bytesOf_length, Nat.mul_one]
      case a2 =>
        intro j u hj
        rw [Nat.zero_add]
        obtain ⟨hl, hu⟩ := List.getElem?_eq_some_iff.1 hj
        rw [List.length_map, bytesOf_length] at hl
        rw [show ((Lib.bytesWorld w7 5 s).alloc (.cells #[.int .u8 0] 5)).cell? ⟨w7.heap.size, j, none⟩ = (Lib.bytesWorld w7 5 s).cell? ⟨w7.heap.size, j, none⟩ from (below_alloc (Below.refl (Lib.bytesWorld w7 5 s).heap.size (Lib.bytesWorld w7 5 s)) _).cell (by show w7.heap.size < _; rw [Lib.bytesWorld_size]; omega), Lib.bytesWorld_cell w7 5 s j hl, ← hu]
        have h' : j < s.data.toList.length := by rw [data_length]; exact hl
        simp [bytesOf, List.getD_eq_getElem?_getD, List.getElem?_eq_getElem h']
      case a3 => exact cell_one_new _ _ _
      case a4 =>
        intro hr j hj
        obtain rfl : j = 0 := by simpa using hj
        have h2 := bw_room w7 s hr
        rw [show 0 + s.size * 1 + 0 = s.size by omega, show ((Lib.bytesWorld w7 5 s).alloc (.cells #[.int .u8 0] 5)).cell? ⟨w7.heap.size, s.size, none⟩ = (Lib.bytesWorld w7 5 s).cell? ⟨w7.heap.size, s.size, none⟩ from (below_alloc (Below.refl (Lib.bytesWorld w7 5 s).heap.size (Lib.bytesWorld w7 5 s)) _).cell (by show w7.heap.size < _; rw [Lib.bytesWorld_size]; omega)]
        refine ⟨h2.1, ?_⟩
        rw [← h2.2]
        exact (below_alloc (Below.refl (Lib.bytesWorld w7 5 s).heap.size (Lib.bytesWorld w7 5 s)) _).frozen (p := ⟨w7.heap.size, s.size, none⟩) (by show w7.heap.size < _; rw [Lib.bytesWorld_size]; omega)
      case a5 => have := HSz.out; unfold maxLen; omega
      case a6 => have := HSz.out; omega
      case a7 =>
        intro hr
        have hC := bw_C w7 s HSz.out hr
        have hW : ((Lib.bytesWorld w7 5 s).alloc (.cells #[.int .u8 0] 5)).setCells w7.heap.size s.size [.int .u8 0] = ((Lib.bytesWorld w7 5 s).alloc (.cells #[.int .u8 0] 5)).setCell ⟨w7.heap.size, s.size, none⟩ (.int .u8 0) := rfl
        rw [hW]
        have HC := Aside0.mk hC
        have HBE := Aside0.mk (show Below w.heap.size w (((Lib.bytesWorld w7 5 s).alloc (.cells #[.int .u8 0] 5)).setCell ⟨w7.heap.size, s.size, none⟩ (.int .u8 0)) from (below_alloc (bytes_below HB.out HB.out.size 5 s) _).setCell (p := ⟨w7.heap.size, s.size, none⟩) HB.out.size _)
        clear hC hW
        go_wp2
        go_ret2
        exact ⟨some ⟨w7.heap.size, 0, none⟩, grownCap w7 s.size 0 5, by rw [HLn.out]; rfl, by rw [HLn.out]; exact hr, by rw [HLn.out]; exact HC.out, HBE.out⟩
      case a8 =>
        intro hr v' w' hown hg
        have hBW : Below w.heap.size w ((Lib.bytesWorld w7 5 s).alloc (.cells #[.int .u8 0] 5)) := below_alloc (bytes_below HB.out HB.out.size 5 s) _
        have hR : Kd.R (Kd.int .u8) 5 w' ((Lib.bytesWorld w7 5 s).heap.size + 1) (fun _ => True) v' (bytesOf s ++ [0]) := Kd.R_of_own (xs := bytesOf s ++ [0]) (by rw [HLn.out, encs, List.map_append]; exact hown) (fun _ _ => trivial)
        have hBE : Below w.heap.size w w' := pw_below_grown hBW _ hBW.size hg (fun k e => by cases e)
        obtain ⟨A, c, rfl, hc, hC⟩ := Kd.R_reads hR
        have HC := Aside0.mk hC
        have HCC := Aside0.mk hc
        have HBE := Aside0.mk hBE
        clear hR hBE hBW hown hg hC hc
        go_wp2
        go_ret2
        exact ⟨A, c, rfl, HCC.out, HC.out, HBE.out⟩
end Go.Proofs.YtlhnaplmphdhlaaDoor.Q
end
section
set_option linter.unusedSimpArgs false
set_option linter.unusedVariables false
namespace Go.Proofs.YtlhnaplmphdhlaaDoor.Q
open Go.RowKit Go.Proofs.YtlhnaplmphdhlaaDoorW.PrintWords Go.Proofs.YtlhnaplmphdhlaaDoorW.PrintLast
theorem enc_zero {s : ByteArray} {i : Nat} (h : i < s.size) (h0 : (s[i]'h).toNat = 0) : 0 ≤ Lib.indexByte s.data.toList 0 := by
  have hge := Lib.indexByte_ge s.data.toList 0
  by_cases hx : Lib.indexByte s.data.toList 0 = -1
  · exfalso
    have h2 := Lib.indexByte_none hx i
    refine h2 ?_
    have hl : i < s.data.toList.length := by rw [data_length]; exact h
    rw [List.getElem?_eq_getElem hl]
    congr 1
    apply UInt8.toNat_inj.1
    exact h0
  · omega
theorem enc_none {s : ByteArray} (h : ∀ i, (hi : i < s.size) → (s[i]'hi).toNat ≠ 0) : ¬ 0 ≤ Lib.indexByte s.data.toList 0 := by
  intro h1
  obtain ⟨o, ho⟩ := Int.eq_ofNat_of_zero_le h1
  have h2 := (Lib.indexByte_some ho).1
  obtain ⟨hl, he⟩ := List.getElem?_eq_some_iff.1 h2
  have hl' : o < s.size := by rwa [data_length] at hl
  refine h o hl' ?_
  have e : s[o]'hl' = s.data.toList[o]'hl := rfl
  rw [e, he]
  rfl
set_option maxRecDepth 100000 in
set_option maxHeartbeats 4000000 in
theorem refenc_calls (s : ByteArray) (w : World) (hs : s.size ≤ 140737488351232) : Calls Tryd.prog 18 #[.string s] w fun e w' => ∃ v, e = .returned (.tuple #[v, .int .i64 (encF s).2]) ∧ Kd.R (Kd.int .u8) 5 w' w.heap.size (fun _ => True) v (encF s).1 ∧ Below w.heap.size w w' := by
  obtain ⟨R, hR⟩ : ∃ R, R = encF s := ⟨_, rfl⟩
  rw [← hR]
  have HR := Aside0.mk hR
  clear hR
  go_enter Tryd.func18, Tryd.ntmps18
  go_wp2
  go_loop [4] (fun v => ∃ i : Nat, i ≤ s.size ∧ v = .int .i64 i ∧ Aside0 (∀ j, (hj : j < s.size) → j < i → (s[j]'hj).toNat ≠ 0)) (fun v => s.size - (intOf v).toNat)
  case atStart => exact ⟨0, Nat.zero_le _, rfl, ⟨fun j _ h => absurd h (Nat.not_lt_zero _)⟩⟩
  case round =>
    obtain ⟨i, hi, rfl, HZ⟩ := hrel
    by_cases hlt : i < s.size
    · by_cases h0 : (s[i]'hlt).toNat = 0
      · have hR := HR.out
        unfold encF at hR
        rw [if_pos (enc_zero hlt h0)] at hR
        subst hR
        have d0 : (((s[i]'hlt).toNat : Int) == 0) = true := by rw [h0]; rfl
        clear h0
        go_wp2
        go_ret2
        exact ⟨_, rfl, Kd.R_nil _ _ _ _ _, Below.refl _ _⟩
      · have d0 : (((s[i]'hlt).toNat : Int) == 0) = false := beq_false_of_ne (by omega)
        have HZ2 := Aside0.mk (show ∀ j, (hj : j < s.size) → j < i + 1 → (s[j]'hj).toNat ≠ 0 from fun j hj h => by
          rcases Nat.lt_or_ge j i with h1 | h1
          · exact HZ.out j hj h1
          · obtain rfl : j = i := by omega
            exact h0)
        clear h0 HZ
        go_wp2
        go_round
        case rel => exact ⟨i + 1, by omega, by go_num, HZ2⟩
        case measure => simp [intOf]; omega
    · obtain rfl : i = s.size := by omega
      have hR := HR.out
      unfold encF at hR
      rw [if_neg (enc_none fun j hj => HZ.out j hj hj)] at hR
      by_cases h1 : 256 ≤ s.size
      · rw [if_pos h1] at hR
        subst hR
        have d1 : decide ((256 : Int) ≤ (s.size : Int)) = true := decide_eq_true (by omega)
        clear hs hi h1
        go_wp2
        go_ret2
        exact ⟨_, rfl, Kd.R_nil _ _ _ _ _, Below.refl _ _⟩
      · rw [if_neg h1] at hR
        subst hR
        have d1 : decide ((256 : Int) ≤ (s.size : Int)) = false := decide_eq_false (by omega)
        have HSz := Aside0.mk (show s.size < 256 by omega)
        obtain ⟨i0, hi, hz0, hz1, hz2⟩ := info_parts info5i
        clear hs hlt h1
        go_wp2_with (first
          | (at_builtin; refine print_append_str (w0 := w) w.heap.size rfl (.tmp 19) (.tmp 20) 25 9 5 rfl Tryd.underlying25 Tryd.underlying9 info5 (.slice none 0 0) ([] : List Int) s rfl rfl (World.ownsRow_nil _ _ _ _) (Below.refl _ _) (Nat.le_refl _) (by have := HSz.out; simp; omega) ?_; intro v2 w2 ho0 hb hg; have HO2 := Aside0.mk (show Kd.R (Kd.int .u8) 5 w2 w.heap.size (fun _ => True) v2 ([] ++ bytesOf s) from Kd.R_of_own (h1 := fun _ => rfl) (ok := fun _ => True) ho0 (fun _ _ => trivial)); have HB2 := Aside0.mk hb; clear ho0 hb hg)
          | ((with_reducible refine gate_builtin (b := .append) (xs := #[.tmp 22, .tmp 23]) rfl ?_); at_builtin; refine Kd.R_append (Kd.int .u8) (w0 := w) w.heap.size rfl (.tmp 22) (.tmp 23) 25 5 (.int .u8 0) 1 rfl Tryd.underlying25 info5 rfl (by decide) (by omega) v2 ([] ++ bytesOf s) 0 [.int .u8 0] (fun _ => True) (fun _ => False) rfl rfl rfl (fun _ hk => hk.elim) (fun _ _ => trivial) HO2.out HB2.out (below_size HB2.out) (by have := HSz.out; rw [List.nil_append, bytesOf_length]; omega) ?_; intro v3 w3 ho hb hg hat; have HO3 := Aside0.mk ho; have HB3 := Aside0.mk hb; clear ho hb hg hat))
        go_ret2
        exact ⟨_, rfl, HO3.out, HB3.out⟩
end Go.Proofs.YtlhnaplmphdhlaaDoor.Q
end
section
namespace Go.Proofs.YtlhnaplmphdhlaaDoor.Q
open Go.RowKit Go.Proofs.YtlhnaplmphdhlaaDoorW.PrintWords Go.Proofs.YtlhnaplmphdhlaaDoorW.PrintLast Go.Proofs.YtlhnaplmphdhlaaDoorW.PrintMore
set_option linter.unusedVariables false
set_option linter.unusedSimpArgs false

attribute [local go_sem] max2_int min2_int max_two min_two max_three min_three max_four min_four
/-! ### prop_Named: function 15 -/
mutual
def prop_Named.j0 : Nat → ByteArray → Bool → Option (Bool)
  | 0, _, _ => none
  | k + 1, x0, x11 => if x11 = true then (some false) else (prop_Named.l0 k x0 (x0.size : Int) 0)
def prop_Named.l0 : Nat → ByteArray → Int → Int → Option (Bool)
  | 0, _, _, _ => none
  | k + 1, x0, x13, x14 => if x14 < x13 then (if 0 ≤ x14 then (if x14 < (x0.size : Int) then (if (bt x0 x14) ≤ 32 then (prop_Named.j2 k x0 (bt x0 x14) x13 x14 true) else (if (bt x0 x14) > 126 then (prop_Named.j2 k x0 (bt x0 x14) x13 x14 true) else (if (bt x0 x14) ≥ 65 then (prop_Named.j2 k x0 (bt x0 x14) x13 x14 (decide ((bt x0 x14) ≤ 90))) else (prop_Named.j2 k x0 (bt x0 x14) x13 x14 false)))) else (none)) else (none)) else (some true)
def prop_Named.j2 : Nat → ByteArray → Int → Int → Int → Bool → Option (Bool)
  | 0, _, _, _, _, _ => none
  | k + 1, x0, x4, x13, x14, x20 => if x20 = true then (some false) else ((strings_IndexByte.f (⟨#[47, 92, 58, 91, 93, 64]⟩ : ByteArray) x4).bind fun t16001 => (if t16001 ≥ 0 then (some false) else (prop_Named.l0 k x0 x13 (wrap64 (x14 + 1)))))
end
def prop_Named.f (k : Nat) (a0 : ByteArray) : Option (Bool) := if a0.toList = ([] : List UInt8) then (prop_Named.j0 k a0 true) else (prop_Named.j0 k a0 (decide ((a0.size : Int) > 31)))
theorem prop_Named.mono_l : ∀ k, (∀ y0 y1, LeO (prop_Named.j0 k y0 y1) (prop_Named.j0 (k + 1) y0 y1)) ∧ (∀ y0 y1 y2, LeO (prop_Named.l0 k y0 y1 y2) (prop_Named.l0 (k + 1) y0 y1 y2)) ∧ (∀ y0 y1 y2 y3 y4, LeO (prop_Named.j2 k y0 y1 y2 y3 y4) (prop_Named.j2 (k + 1) y0 y1 y2 y3 y4))
  | 0 => ⟨fun _ _ r h => by simp [prop_Named.j0] at h, fun _ _ _ r h => by simp [prop_Named.l0] at h, fun _ _ _ _ _ r h => by simp [prop_Named.j2] at h⟩
  | k + 1 => by
    obtain ⟨ih0, ih1, ih2⟩ := prop_Named.mono_l k
    refine ⟨?_, ?_, ?_⟩
    · intro y0 y1
      unfold prop_Named.j0
      repeat' first
      | (with_reducible exact ih0 _ _)
      | (with_reducible exact ih1 _ _ _)
      | (with_reducible exact ih2 _ _ _ _ _)
      | (with_reducible exact LeO.refl _)
      | (with_reducible exact LeO.none _)
      | (with_reducible refine LeO.ite ?_ ?_)
      | (with_reducible refine LeO.bind ?_ (fun _ => ?_))
      | exact ih0 _ _
      | exact ih1 _ _ _
      | exact ih2 _ _ _ _ _
      | exact LeO.none _
      | refine LeO.ite ?_ ?_
      | refine LeO.bind ?_ (fun _ => ?_)
    · intro y0 y1 y2
      unfold prop_Named.l0
      repeat' first
      | (with_reducible exact ih0 _ _)
      | (with_reducible exact ih1 _ _ _)
      | (with_reducible exact ih2 _ _ _ _ _)
      | (with_reducible exact LeO.refl _)
      | (with_reducible exact LeO.none _)
      | (with_reducible refine LeO.ite ?_ ?_)
      | (with_reducible refine LeO.bind ?_ (fun _ => ?_))
      | exact ih0 _ _
      | exact ih1 _ _ _
      | exact ih2 _ _ _ _ _
      | exact LeO.none _
      | refine LeO.ite ?_ ?_
      | refine LeO.bind ?_ (fun _ => ?_)
    · intro y0 y1 y2 y3 y4
      unfold prop_Named.j2
      repeat' first
      | (with_reducible exact ih0 _ _)
      | (with_reducible exact ih1 _ _ _)
      | (with_reducible exact ih2 _ _ _ _ _)
      | (with_reducible exact LeO.refl _)
      | (with_reducible exact LeO.none _)
      | (with_reducible refine LeO.ite ?_ ?_)
      | (with_reducible refine LeO.bind ?_ (fun _ => ?_))
      | exact ih0 _ _
      | exact ih1 _ _ _
      | exact ih2 _ _ _ _ _
      | exact LeO.none _
      | refine LeO.ite ?_ ?_
      | refine LeO.bind ?_ (fun _ => ?_)
theorem prop_Named.mono : ∀ a0 k, LeO (prop_Named.f k a0) (prop_Named.f (k + 1) a0) := by
  intro a0 k
  obtain ⟨ih0, ih1, ih2⟩ := prop_Named.mono_l k
  unfold prop_Named.f
  repeat' first
      | (with_reducible exact ih0 _ _)
      | (with_reducible exact ih1 _ _ _)
      | (with_reducible exact ih2 _ _ _ _ _)
      | (with_reducible exact LeO.refl _)
      | (with_reducible exact LeO.none _)
      | (with_reducible refine LeO.ite ?_ ?_)
      | (with_reducible refine LeO.bind ?_ (fun _ => ?_))
      | exact ih0 _ _
      | exact ih1 _ _ _
      | exact ih2 _ _ _ _ _
      | exact LeO.none _
      | refine LeO.ite ?_ ?_
      | refine LeO.bind ?_ (fun _ => ?_)
set_option maxHeartbeats 8000000 in
set_option maxRecDepth 100000 in
theorem prop_Named.calls (k : Nat) (a0 : ByteArray) (r : Bool) (w : World) (h : prop_Named.f k a0 = some r) :
    Calls Tryd.prog 15 #[.string a0] w fun e w' => e = .returned (.bool r) ∧ Below w.heap.size w w' := by
  have HB := Aside0.mk (Below.refl w.heap.size w)
  have H : (if a0.toList = ([] : List UInt8) then (prop_Named.j0 k a0 true) else (prop_Named.j0 k a0 (decide ((a0.size : Int) > 31)))) = some r := h
  clear h
  have HC2 := Aside0.mk H
  clear H
  go_enter Tryd.func15, Tryd.ntmps15
  go_upto_region 1 with (fail)
  go_cut [11] (fun v11 wc => ∃ (kq : Nat) (x11_1 : Bool), v11 = .bool x11_1 ∧ Aside0 (prop_Named.j0 kq a0 x11_1 = some r) ∧ Aside0 (kq ≤ k) ∧ Aside0 (Below w.heap.size w wc))
  case first =>
    have H := HC2.out
    clear HC2
    by_cases c3 : a0.toList = ([] : List UInt8)
    · rw [if_pos c3] at H
      have c3b0 : (a0.toList == ([] : List UInt8)) = true := beq_iff_eq.mpr c3
      have c3b1 : (a0.toList != ([] : List UInt8)) = false := bne_eq_false_iff_eq.mpr c3
      clear c3
      (first | rw [c3b0] | (simp only [i64_w, i32_w]; rw [c3b0]) | skip)
      have H' := Aside0.mk H
      clear H
      go_wp2
      go_meet
      case rel => exact ⟨_, (true), (by first | rfl | (simp; done) | (simp [*]; done)), H', ⟨by first | omega | exact Nat.le_refl _⟩, ⟨by repeat (first | (with_reducible first | exact HB.out | apply below_alloc | apply pw_below_drewN | apply below_drew1) | exact HB.out)⟩⟩
    · rw [if_neg c3] at H
      have c3b0 : (a0.toList == ([] : List UInt8)) = false := beq_eq_false_iff_ne.mpr c3
      have c3b1 : (a0.toList != ([] : List UInt8)) = true := bne_iff_ne.mpr c3
      (first | rw [c3b0] | (simp only [i64_w, i32_w]; rw [c3b0]) | skip)
      have H' := Aside0.mk H
      clear H
      go_wp2
      go_meet
      case rel => exact ⟨_, (decide ((a0.size : Int) > 31)), (by first | rfl | (simp; done) | (simp [*]; done)), H', ⟨by first | omega | exact Nat.le_refl _⟩, ⟨by repeat (first | (with_reducible first | exact HB.out | apply below_alloc | apply pw_below_drewN | apply below_drew1) | exact HB.out)⟩⟩
  case rest =>
    clear HC2
    try clear c1
    try clear p2
    try clear c3
    try clear c3b0
    try clear c3b1
    obtain ⟨kq, x11_1, rfl, HA, HJ1, HB⟩ := hcut
    cases kq with
    | zero => exact absurd HA.out (by simp [prop_Named.j0])
    | succ kj1 =>
      have H := HA.out
      clear HA
      simp only [prop_Named.j0] at H
      by_cases c4 : x11_1 = true
      · subst c4
        have H1 : (some false) = some r := by rw [if_pos rfl] at H; exact H
        clear H
        have H := H1
        clear H1
        obtain rfl := Option.some.inj H
        go_wp2
        go_ret
        exact ⟨by first | rfl | (simp [errW_none, errW_some] <;> rfl) | (simp [*, errW_none, errW_some] <;> rfl), by repeat (first | (with_reducible first | exact HB.out | apply below_alloc | apply pw_below_drewN | apply below_drew1) | exact HB.out)⟩
      · replace c4 := Bool.eq_false_iff.mpr c4
        subst c4
        have H1 : (prop_Named.l0 kj1 a0 (a0.size : Int) 0) = some r := by rw [if_neg (show ¬ (false = true) by decide)] at H; exact H
        clear H
        have H := H1
        clear H1
        have H' := Aside0.mk H
        clear H
        go_wp2
        go_loopg [14] kj1 (fun kq v14 w' => ∃ (x14_2 : Int), v14 = .int .i64 x14_2 ∧ Aside0 (prop_Named.l0 kq a0 (a0.size : Int) x14_2 = some r) ∧ Aside0 (kq ≤ kj1) ∧ Aside0 (Below w.heap.size w w'))
        case atStart => exact ⟨(0), (by first | rfl | (simp; done) | (simp [*]; done)), H', ⟨Nat.le_refl _⟩, ⟨by repeat (first | (with_reducible first | exact HB.out | apply below_alloc | apply pw_below_drewN | apply below_drew1) | exact HB.out)⟩⟩
        case round =>
          clear H'
          try clear c1
          try clear p2
          try clear c3
          try clear c3b0
          try clear c3b1
          try clear c4
          try clear p2
          obtain ⟨x14_2, rfl, HA, HK2, HB⟩ := hrel
          cases gk with
          | zero => exact absurd HA.out (by simp [prop_Named.l0])
          | succ k2 =>
            have H := HA.out
            clear HA
            simp only [prop_Named.l0] at H
            by_cases c5 : x14_2 < (a0.size : Int)
            · rw [if_pos c5] at H
              have c5b0 : decide (x14_2 < (a0.size : Int)) = true := decide_eq_true c5
              clear c5
              by_cases c6 : 0 ≤ x14_2
              · rw [if_pos c6] at H
                have c6b0 : decide (0 ≤ x14_2) = true := decide_eq_true c6
                clear c6
                by_cases c7 : x14_2 < (a0.size : Int)
                · rw [if_pos c7] at H
                  have c7b0 : decide (x14_2 < (a0.size : Int)) = true := decide_eq_true c7
                  clear c7
                  have HC9 := Aside0.mk H
                  clear H
                  have p8 : 0 ≤ (x14_2 : Int) := of_decide_eq_true (by first | (with_reducible assumption) | assumption)
                  have q8 : x14_2 < (a0.size : Int) := of_decide_eq_true (by first | (with_reducible assumption) | assumption)
                  have hx8 := bt_at a0 x14_2
                  replace p8 := eq_true p8
                  replace q8 := eq_true q8
                  go_upto_region 7 with (fail)
                  go_cut [20] (fun v20 wc => ∃ (kq : Nat) (x20_8 : Bool), v20 = .bool x20_8 ∧ Aside0 (prop_Named.j2 kq a0 (bt a0 x14_2) (a0.size : Int) x14_2 x20_8 = some r) ∧ Aside0 (kq ≤ k2) ∧ Aside0 (Below w.heap.size w wc))
                  case first =>
                    have H := HC9.out
                    clear HC9
                    by_cases c10 : (bt a0 x14_2) ≤ 32
                    · rw [if_pos c10] at H
                      have c10b0 : decide ((bt a0 x14_2) ≤ 32) = true := decide_eq_true c10
                      clear c10
                      (first | rw [c10b0] | (simp only [i64_w, i32_w]; rw [c10b0]) | skip)
                      have H' := Aside0.mk H
                      clear H
                      go_wp2
                      go_meet
                      case rel => exact ⟨_, (true), (by first | rfl | (simp; done) | (simp [*]; done)), H', ⟨by have := HJ1.out; have := HK2.out; first | omega | exact Nat.le_refl _⟩, ⟨by repeat (first | (with_reducible first | exact HB.out | apply below_alloc | apply pw_below_drewN | apply below_drew1) | exact HB.out)⟩⟩
                    · rw [if_neg c10] at H
                      have c10b0 : decide ((bt a0 x14_2) ≤ 32) = false := decide_eq_false c10
                      clear c10
                      (first | rw [c10b0] | (simp only [i64_w, i32_w]; rw [c10b0]) | skip)
                      by_cases c11 : (bt a0 x14_2) > 126
                      · rw [if_pos c11] at H
                        have c11b0 : decide (126 < (bt a0 x14_2)) = true := decide_eq_true c11
                        clear c11
                        have H' := Aside0.mk H
                        clear H
                        go_wp2
                        go_meet
                        case rel => exact ⟨_, (true), (by first | rfl | (simp; done) | (simp [*]; done)), H', ⟨by have := HJ1.out; have := HK2.out; first | omega | exact Nat.le_refl _⟩, ⟨by repeat (first | (with_reducible first | exact HB.out | apply below_alloc | apply pw_below_drewN | apply below_drew1) | exact HB.out)⟩⟩
                      · rw [if_neg c11] at H
                        have c11b0 : decide (126 < (bt a0 x14_2)) = false := decide_eq_false c11
                        clear c11
                        by_cases c12 : (bt a0 x14_2) ≥ 65
                        · rw [if_pos c12] at H
                          have c12b0 : decide (65 ≤ (bt a0 x14_2)) = true := decide_eq_true c12
                          clear c12
                          have H' := Aside0.mk H
                          clear H
                          go_wp2
                          go_meet
                          case rel => exact ⟨_, (decide ((bt a0 x14_2) ≤ 90)), (by first | rfl | (simp; done) | (simp [*]; done)), H', ⟨by have := HJ1.out; have := HK2.out; first | omega | exact Nat.le_refl _⟩, ⟨by repeat (first | (with_reducible first | exact HB.out | apply below_alloc | apply pw_below_drewN | apply below_drew1) | exact HB.out)⟩⟩
                        · rw [if_neg c12] at H
                          have c12b0 : decide (65 ≤ (bt a0 x14_2)) = false := decide_eq_false c12
                          clear c12
                          have H' := Aside0.mk H
                          clear H
                          go_wp2
                          go_meet
                          case rel => exact ⟨_, (false), (by first | rfl | (simp; done) | (simp [*]; done)), H', ⟨by have := HJ1.out; have := HK2.out; first | omega | exact Nat.le_refl _⟩, ⟨by repeat (first | (with_reducible first | exact HB.out | apply below_alloc | apply pw_below_drewN | apply below_drew1) | exact HB.out)⟩⟩
                  case rest =>
                    clear HC9
                    try clear c1
                    try clear p2
                    try clear c3
                    try clear c3b0
                    try clear c3b1
                    try clear c4
                    try clear c5
                    try clear c5b0
                    try clear c6
                    try clear c6b0
                    try clear c7
                    try clear c7b0
                    try clear p8
                    try clear q8
                    try clear hx8
                    try clear c10
                    try clear c10b0
                    try clear c11
                    try clear c11b0
                    try clear c12
                    try clear c12b0
                    try clear p2
                    try clear p8
                    try clear q8
                    obtain ⟨kq, x20_8, rfl, HA, HJ8, HB⟩ := hcut
                    cases kq with
                    | zero => exact absurd HA.out (by simp [prop_Named.j2])
                    | succ kj8 =>
                      have H := HA.out
                      clear HA
                      simp only [prop_Named.j2] at H
                      by_cases c13 : x20_8 = true
                      · subst c13
                        have H1 : (some false) = some r := by rw [if_pos rfl] at H; exact H
                        clear H
                        have H := H1
                        clear H1
                        obtain rfl := Option.some.inj H
                        go_wp2
                        go_ret
                        exact ⟨by first | rfl | (simp [errW_none, errW_some] <;> rfl) | (simp [*, errW_none, errW_some] <;> rfl), by repeat (first | (with_reducible first | exact HB.out | apply below_alloc | apply pw_below_drewN | apply below_drew1) | exact HB.out)⟩
                      · replace c13 := Bool.eq_false_iff.mpr c13
                        subst c13
                        have H1 : ((strings_IndexByte.f (⟨#[47, 92, 58, 91, 93, 64]⟩ : ByteArray) (bt a0 x14_2)).bind fun t16001 => (if t16001 ≥ 0 then (some false) else (prop_Named.l0 kj8 a0 (a0.size : Int) (wrap64 (x14_2 + 1))))) = some r := by rw [if_neg (show ¬ (false = true) by decide)] at H; exact H
                        clear H
                        have H := H1
                        clear H1
                        replace H := Option.bind_eq_some_iff.mp H
                        obtain ⟨t16001, A140, H⟩ := H
                        replace H : (if t16001 ≥ 0 then (some false) else (prop_Named.l0 kj8 a0 (a0.size : Int) (wrap64 (x14_2 + 1)))) = some r := H
                        have A14 := Aside0.mk A140
                        clear A140
                        by_cases c15 : t16001 ≥ 0
                        · rw [if_pos c15] at H
                          have c15b0 : decide (0 ≤ t16001) = true := decide_eq_true c15
                          clear c15
                          obtain rfl := Option.some.inj H
                          go_wp2_with (first | ((with_reducible refine gate_callee (f := 45) rfl ?_); refine goesL_ (some 37) rfl rfl Tryd.func45 (by kernel_rfl) rfl #[.string (⟨#[47, 92, 58, 91, 93, 64]⟩ : ByteArray), .int .u8 (bt a0 x14_2)] rfl (by (try simp only [List.map_toArray, List.map_cons, List.map_nil]); first | done | rfl | (simp only [List.length_drop, List.length_take]; rfl)) ?_; (with_reducible refine (strings_IndexByte.calls (⟨#[47, 92, 58, 91, 93, 64]⟩ : ByteArray) (bt a0 x14_2) t16001 _ A14.out).mono ?_); rintro e w16 ⟨rfl, hb⟩; refine ⟨_, rfl, ?_⟩; have n0_ := Aside0.mk (below_step (by repeat (first | (with_reducible first | exact HB.out | apply below_alloc | apply pw_below_drewN | apply below_drew1) | exact HB.out)) hb); clear HB; have HB := n0_; clear n0_; (try clear hb); (try clear hb2); (try clear hk); (try clear hi)))
                          go_ret
                          exact ⟨by first | rfl | (simp [errW_none, errW_some] <;> rfl) | (simp [*, errW_none, errW_some] <;> rfl), by repeat (first | (with_reducible first | exact HB.out | apply below_alloc | apply pw_below_drewN | apply below_drew1) | exact HB.out)⟩
                        · rw [if_neg c15] at H
                          have c15b0 : decide (0 ≤ t16001) = false := decide_eq_false c15
                          clear c15
                          have H' := Aside0.mk H
                          clear H
                          go_wp2_with (first | ((with_reducible refine gate_callee (f := 45) rfl ?_); refine goesL_ (some 37) rfl rfl Tryd.func45 (by kernel_rfl) rfl #[.string (⟨#[47, 92, 58, 91, 93, 64]⟩ : ByteArray), .int .u8 (bt a0 x14_2)] rfl (by (try simp only [List.map_toArray, List.map_cons, List.map_nil]); first | done | rfl | (simp only [List.length_drop, List.length_take]; rfl)) ?_; (with_reducible refine (strings_IndexByte.calls (⟨#[47, 92, 58, 91, 93, 64]⟩ : ByteArray) (bt a0 x14_2) t16001 _ A14.out).mono ?_); rintro e w17 ⟨rfl, hb⟩; refine ⟨_, rfl, ?_⟩; have n0_ := Aside0.mk (below_step (by repeat (first | (with_reducible first | exact HB.out | apply below_alloc | apply pw_below_drewN | apply below_drew1) | exact HB.out)) hb); clear HB; have HB := n0_; clear n0_; (try clear hb); (try clear hb2); (try clear hk); (try clear hi)))
                          go_roundg kj8
                          case measure => have := HJ1.out; have := HK2.out; have := HJ8.out; omega
                          case rel => exact ⟨(wrap64 (x14_2 + 1)), (by first | rfl | (simp; done) | (simp [*]; done)), H', ⟨by have := HJ1.out; have := HK2.out; have := HJ8.out; omega⟩, ⟨by repeat (first | (with_reducible first | exact HB.out | apply below_alloc | apply pw_below_drewN | apply below_drew1) | exact HB.out)⟩⟩
                · rw [if_neg c7] at H
                  exact absurd H (by simp)
              · rw [if_neg c6] at H
                exact absurd H (by simp)
            · rw [if_neg c5] at H
              have c5b0 : decide (x14_2 < (a0.size : Int)) = false := decide_eq_false c5
              clear c5
              obtain rfl := Option.some.inj H
              go_wp2
              go_ret
              exact ⟨by first | rfl | (simp [errW_none, errW_some] <;> rfl) | (simp [*, errW_none, errW_some] <;> rfl), by repeat (first | (with_reducible first | exact HB.out | apply below_alloc | apply pw_below_drewN | apply below_drew1) | exact HB.out)⟩

end Go.Proofs.YtlhnaplmphdhlaaDoor.Q
end
