/- The walks of the laws DigitValues, DigitParses, DigitLiterals. -/
import Derived.Test.YthlpdjnfcjpbpaaDoorHDigitP
import Derived.Test.YthlpdjnfcjpbpaaDoorQTinderlaw02DigitValues
import Derived.Test.YthlpdjnfcjpbpaaDoorQTinderlaw02DigitParses
import Derived.Test.YthlpdjnfcjpbpaaDoorQTinderlaw02DigitLiterals
namespace Go.Proofs.YthlpdjnfcjpbpaaDoor.Q
open Go.RowKit Go.Proofs.YthlpdjnfcjpbpaaDoorW.PrintWords Go.Proofs.YthlpdjnfcjpbpaaDoorW.PrintLast Go.Proofs.YthlpdjnfcjpbpaaDoorW.PrintMore
theorem u8_wf {x : Int} (h : (Lit.int .u8 x).wf = true) : 0 ≤ x ∧ x < 256 := by
  simp [Lit.wf, IntKind.min, IntKind.max, IntKind.bits, IntKind.signed] at h
  omega
theorem digitValues_row {w : World} (ht : Tabs w) (c : Int) (hc : (Lit.int .u8 c).wf = true) (b : Int) (_hb : (Lit.int .u32 b).wf = true) :
    Calls Tryd.prog 3 #[.int .u8 c, .int .u32 b] w fun e w' => e = .returned (.bool true) ∧ Below w.heap.size w w' := by
  refine tinderlaw02_DigitValues.calls 43 c b true w ht ?_
  unfold tinderlaw02_DigitValues.f tinderlaw02_alive.f
  rw [Option.bind_some, if_pos rfl, digit_Value_eq 40 c b (u8_wf hc), Option.bind_some, refvalue_eq 43 c b (u8_wf hc) (by omega), Option.bind_some]
  have hv : (valF c b).2 = true → (valF c b).1 < b := by
    unfold valF
    split
    · intro _; dsimp only; omega
    · intro h; cases h
  rw [if_pos rfl, if_pos (beq_self_eq_true _)]
  by_cases h : (valF c b).2 = true
  · rw [if_pos h, decide_eq_true (hv h)]
  · rw [if_neg h]
theorem digitParses_row {w : World} (ht : Tabs w) (s : ByteArray) (hs : s.size ≤ 140737488351232) (b : Int) (_hb : (Lit.int .u32 b).wf = true) :
    Calls Tryd.prog 4 #[.string s, .int .u32 b] w fun e w' => e = .returned (.bool true) ∧ Below w.heap.size w w' := by
  refine tinderlaw02_DigitParses.calls (s.size + 100) s b true w ht ?_
  unfold tinderlaw02_DigitParses.f tinderlaw02_alive.f
  rw [Option.bind_some, if_pos rfl, parse_eq _ s b (by omega) (by omega), Option.bind_some, refparse_eq _ s b (by omega) (by omega), Option.bind_some, if_pos rfl]
  simp
theorem resF_err (neg : Bool) (o : Option (Int × Bool)) (h : (resF neg o).2 ≠ 0) : (resF neg o).1 = 0 := by
  rcases o with _ | ⟨n, g⟩
  · rfl
  · cases g
    · cases neg <;> exact absurd rfl h
    · rfl
theorem parF_err (s : ByteArray) (b : Int) (h : (parF s b).2 ≠ 0) : (parF s b).1 = 0 := by
  unfold parF at h ⊢
  by_cases h1 : 2 ≤ b ∧ b ≤ 36
  · rw [if_pos h1] at h ⊢
    by_cases h2 : 0 < s.size ∧ bt s 0 = 45
    · rw [if_pos h2] at h ⊢
      by_cases h3 : s.size = 1
      · rw [if_pos h3]
      · rw [if_neg h3] at h ⊢
        exact resF_err _ _ h
    · rw [if_neg h2] at h ⊢
      by_cases h3 : s.size = 0
      · rw [if_pos h3]
      · rw [if_neg h3] at h ⊢
        exact resF_err _ _ h
  · rw [if_neg h1]
def litE (r : Int × Int) : Int × Bool := if r.2 = 0 then (r.1, true) else (0, false)
theorem litE_eq (s : ByteArray) (b : Int) : ((parF s b).1, ((parF s b).2 == 0)) = litE (parF s b) := by
  unfold litE
  by_cases h : (parF s b).2 = 0
  · rw [if_pos h, h]; rfl
  · rw [if_neg h, parF_err s b h, beq_eq_false_iff_ne.2 h]
def basF (c : Int) : Int := if smallF c = 104 then 16 else if smallF c = 111 then 8 else if smallF c = 98 then 2 else if smallF c = 100 then 10 else 0
theorem bases_all : ((List.range 256).all fun (c : Nat) => digit_bases.f (c : Int) == some (basF (c : Int))) = true := by kernel_rfl
theorem bases_eq (c : Int) (h : 0 ≤ c ∧ c < 256) : digit_bases.f c = some (basF c) := by
  have := List.all_eq_true.1 bases_all c.toNat (List.mem_range.2 (by omega))
  rw [beq_iff_eq, show ((c.toNat : Nat) : Int) = c by omega] at this
  exact this
def litF (s : ByteArray) : Int × Bool := if 2 < s.size ∧ bt s 1 = 35 then litE (parF (s.extract 2 s.size) (basF (bt s 0))) else litE (parF s 10)
theorem extract2_size (s : ByteArray) : (s.extract 2 s.size).size = s.size - 2 := by rw [ByteArray.size_extract]; omega
theorem literal_eq (k : Nat) (s : ByteArray) (hs : s.size ≤ 140737488351232) (hk : s.size + 30 < k) : digit_Literal.f k s = some (litF s) := by
  obtain ⟨k, rfl⟩ : ∃ k', k = k' + 1 := ⟨k - 1, by omega⟩
  have hx := extract2_size s
  have hbt := bt_range s 0
  have hpl : ∀ t b, t.size ≤ s.size → ((digit_Parse.f k t b).bind fun bt => (if bt.2 = 0 then (some (bt.1, true)) else (some ((0 : Int), false)))) = some (litE (parF t b)) := fun t b ht => by
    rw [parse_eq k t b (by omega) (by omega), Option.bind_some]
    unfold litE
    split <;> rfl
  unfold digit_Literal.f litF
  by_cases h2 : 2 < s.size
  · rw [if_pos (by omega), if_pos (by omega), digit_Literal.j0]
    by_cases h3 : bt s 1 = 35
    · rw [if_pos (by simpa using h3), if_pos (by omega), bases_eq _ ⟨hbt.1, by omega⟩, Option.bind_some, if_pos (by omega), hpl _ _ (by omega), if_pos ⟨h2, h3⟩]
    · rw [if_neg (by simpa using h3), hpl _ _ (Nat.le_refl _), if_neg (fun h => h3 h.2)]
  · rw [if_neg (by omega), digit_Literal.j0, if_neg Bool.false_ne_true, hpl _ _ (Nat.le_refl _), if_neg (fun h => h2 h.1)]
theorem refliteral_eq (k : Nat) (s : ByteArray) (hs : s.size ≤ 140737488351232) (hk : s.size + 70 < k) : tinderref02_Literal.f k s = some (litF s) := by
  obtain ⟨k, rfl⟩ : ∃ k', k = k' + 1 := ⟨k - 1, by omega⟩
  have hx := extract2_size s
  have hbt := bt_range s 0
  have hpl : ∀ t b, t.size ≤ s.size → ((tinderref02_Parse.f k t b).bind fun bt => some (bt.1, (bt.2 == 0))) = some (litE (parF t b)) := fun t b ht => by
    rw [refparse_eq k t b (by omega) (by omega), Option.bind_some, litE_eq]
  have h0 : ∀ t, litE (parF t 0) = (0, false) := fun t => by
    unfold parF
    rw [if_neg (by decide)]
    rfl
  unfold tinderref02_Literal.f litF
  by_cases h2 : 2 < s.size
  · rw [if_pos (by omega), if_pos (by omega), tinderref02_Literal.j0]
    by_cases h3 : bt s 1 = 35
    · rw [if_pos (by simpa using h3), if_pos (by omega), small_eq _ ⟨hbt.1, by omega⟩, Option.bind_some, if_pos (show 2 < s.size ∧ bt s 1 = 35 from ⟨h2, h3⟩)]
      unfold basF
      by_cases e1 : smallF (bt s 0) = 104
      · rw [if_pos e1, if_pos e1, if_pos (by omega), hpl _ _ (by omega)]
      · rw [if_neg e1, if_neg e1]
        by_cases e2 : smallF (bt s 0) = 111
        · rw [if_pos e2, if_pos e2, if_pos (by omega), hpl _ _ (by omega)]
        · rw [if_neg e2, if_neg e2]
          by_cases e3 : smallF (bt s 0) = 98
          · rw [if_pos e3, if_pos e3, if_pos (by omega), hpl _ _ (by omega)]
          · rw [if_neg e3, if_neg e3]
            by_cases e4 : smallF (bt s 0) = 100
            · rw [if_pos e4, if_pos e4, if_pos (by omega), hpl _ _ (by omega)]
            · rw [if_neg e4, if_neg e4, h0]
    · rw [if_neg (by simpa using h3), hpl _ _ (Nat.le_refl _), if_neg (fun h => h3 h.2)]
  · rw [if_neg (by omega), tinderref02_Literal.j0, if_neg Bool.false_ne_true, hpl _ _ (Nat.le_refl _), if_neg (fun h => h2 h.1)]
theorem digitLiterals_row {w : World} (ht : Tabs w) (s : ByteArray) (hs : s.size ≤ 140737488351232) :
    Calls Tryd.prog 7 #[.string s] w fun e w' => e = .returned (.bool true) ∧ Below w.heap.size w w' := by
  refine tinderlaw02_DigitLiterals.calls (s.size + 100) s true w ht ?_
  unfold tinderlaw02_DigitLiterals.f tinderlaw02_alive.f
  rw [Option.bind_some, if_pos rfl, literal_eq _ s hs (by omega), Option.bind_some, refliteral_eq _ s hs (by omega), Option.bind_some, if_pos rfl]
  simp
end Go.Proofs.YthlpdjnfcjpbpaaDoor.Q
