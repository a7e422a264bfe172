/- The walk of the law DigitRights. -/
import Derived.Test.YthlpdjnfcjpbpaaDoorQTinderlaw02DigitRights
namespace Go.Proofs.YthlpdjnfcjpbpaaDoor.Q
open Go.RowKit Go.Proofs.YthlpdjnfcjpbpaaDoorW.PrintWords Go.Proofs.YthlpdjnfcjpbpaaDoorW.PrintLast Go.Proofs.YthlpdjnfcjpbpaaDoorW.PrintMore
theorem repeat_snoc (n : Nat) : Go.Lib.repeatL [32] n ++ [32] = Go.Lib.repeatL [32] (n + 1) := by
  induction n with
  | zero => rfl
  | succ n ih =>
    show [32] ++ Go.Lib.repeatL [32] n ++ [32] = [32] ++ Go.Lib.repeatL [32] (n + 1)
    rw [List.append_assoc, ih]
theorem blanks_snoc (n : Nat) : blanks n ++ (⟨#[32]⟩ : ByteArray) = blanks (n + 1) := by
  unfold blanks
  rw [show (⟨#[32]⟩ : ByteArray) = ⟨([32] : List UInt8).toArray⟩ from rfl, ByteArray.mk_append_mk, repeat_snoc]
theorem right_go (s : ByteArray) (w : Int) (hs : s.size ≤ 100000) (hw : 0 ≤ w ∧ w ≤ 255) (d : Nat) : ∀ (k j : Nat), j + d = w.toNat - s.size → d < k → tinderref02_Right.l0 k s w (blanks j) ((s.size : Int) + j) = some (blanks (w.toNat - s.size) ++ s, 0) := by
  have e : wrap64 w = w := by unfold wrap64; omega
  induction d with
  | zero =>
    intro k j h1 hk
    obtain ⟨k, rfl⟩ : ∃ k', k = k' + 1 := ⟨k - 1, by omega⟩
    have hbs := blanks_size j
    rw [tinderref02_Right.l0, e, if_neg (by omega), if_pos (by omega), ← h1]
    rfl
  | succ d ih =>
    intro k j h1 hk
    obtain ⟨k, rfl⟩ : ∃ k', k = k' + 1 := ⟨k - 1, by omega⟩
    have hbs := blanks_size j
    rw [tinderref02_Right.l0, e, if_pos (by omega), if_pos (by omega), blanks_snoc, show wrap64 ((s.size : Int) + j + 1) = (s.size : Int) + ((j + 1 : Nat) : Int) by unfold wrap64; omega]
    exact ih k (j + 1) (by omega) (by omega)
theorem u32_wf {x : Int} (h : (Lit.int .u32 x).wf = true) : 0 ≤ x ∧ x < 4294967296 := by
  simp [Lit.wf, IntKind.min, IntKind.max, IntKind.bits, IntKind.signed] at h
  omega
theorem digitRights_row {w : World} (ht : Tabs w) (s : ByteArray) (_hs : s.size ≤ 140737488351232) (b : Int) (hb : (Lit.int .u32 b).wf = true) :
    Calls Tryd.prog 8 #[.string s, .int .u32 b] w fun e w' => e = .returned (.bool true) ∧ Below w.heap.size w w' := by
  have hb := u32_wf hb
  refine tinderlaw02_DigitRights.calls 1000 s b true w ht ?_
  unfold tinderlaw02_DigitRights.f tinderlaw02_alive.f
  rw [Option.bind_some, if_pos rfl]
  by_cases h1 : (s.size : Int) > 100000
  · rw [if_pos h1]
  · rw [if_neg h1]
    unfold digit_Right.f tinderref02_Right.f
    rw [if_pos (by omega)]
    by_cases h2 : b > 255
    · rw [if_pos h2, if_pos h2, Option.bind_some, Option.bind_some]
      simp
    · have hg := right_go s b (by omega) (by omega) (b.toNat - s.size) 1000 0 (by omega) (by omega)
      rw [if_neg h2, if_neg h2, Option.bind_some]
      rw [show tinderref02_Right.l0 1000 s b (⟨#[]⟩ : ByteArray) (s.size : Int) = some (blanks (b.toNat - s.size) ++ s, 0) from by rw [← hg]; simp [blanks, Go.Lib.repeatL], Option.bind_some]
      simp
end Go.Proofs.YthlpdjnfcjpbpaaDoor.Q
