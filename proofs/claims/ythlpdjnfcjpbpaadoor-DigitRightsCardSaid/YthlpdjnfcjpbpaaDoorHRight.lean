/- A text to the right of a width. -/
import Derived.Test.YthlpdjnfcjpbpaaDoorHAlive
import Derived.Test.YthlpdjnfcjpbpaaDoorQTinderref02Right
namespace Go.Proofs.YthlpdjnfcjpbpaaDoor.Q
open Go.RowKit Go.Proofs.YthlpdjnfcjpbpaaDoorW.PrintWords Go.Proofs.YthlpdjnfcjpbpaaDoorW.PrintLast Go.Proofs.YthlpdjnfcjpbpaaDoorW.PrintMore
attribute [local go_sem] max2_int min2_int max_two min_two max_three min_three max_four min_four
def blanks (n : Nat) : ByteArray := ⟨(Go.Lib.repeatL [32] n).toArray⟩
theorem blanks_size (n : Nat) : (blanks n).size = n := by
  show (Go.Lib.repeatL [32] n).toArray.size = n
  rw [List.size_toArray, Go.Lib.repeatL_length]
  simp
def digit_Right.f (s : ByteArray) (width : Int) : Option (ByteArray × Int) :=
  if 0 ≤ width ∧ s.size ≤ 140737488351232 then (if width > 255 then some (⟨#[]⟩, 1) else some (blanks (width.toNat - s.size) ++ s, 0)) else none
theorem repeat_blank (c : Nat) (hc : c ≤ 255) (W : World) : Calls Tryd.prog 28 #[.string ⟨#[32]⟩, .int .i64 c] W fun e w' => e = .returned (.string (blanks c)) ∧ Below W.heap.size W w' :=
  Tryd.strings_Repeat ⟨#[32]⟩ c W (by omega) (by rw [show (⟨#[32]⟩ : ByteArray).size = 1 from rfl]; omega)
set_option maxHeartbeats 1000000 in
set_option maxRecDepth 100000 in
theorem digit_Right.calls (a0 : ByteArray) (a1 : Int) (r1 : ByteArray) (r2 : Int) (w : World) (h : digit_Right.f a0 a1 = some (r1, r2)) :
    Calls Tryd.prog 20 #[.string a0, .int .u32 a1] w fun e w' => e = .returned (.tuple #[.string r1, .int .i64 r2]) ∧ Below w.heap.size w w' := by
  unfold digit_Right.f at h
  split at h
  case isFalse => cases h
  rename_i hb
  by_cases h1 : a1 > 255
  · rw [if_pos h1] at h
    obtain ⟨rfl, rfl⟩ := Prod.mk.inj (Option.some.inj h)
    have d1 : decide (255 < a1) = true := decide_eq_true (by omega)
    clear h hb h1
    go_enter Tryd.func20, Tryd.ntmps20
    go_wp2
    go_ret2
    exact ⟨rfl, Below.refl _ _⟩
  · rw [if_neg h1] at h
    obtain ⟨rfl, rfl⟩ := Prod.mk.inj (Option.some.inj h)
    have d1 : decide (255 < a1) = false := decide_eq_false (by omega)
    obtain ⟨c, hc⟩ : ∃ c : Nat, c = a1.toNat - a0.size := ⟨_, rfl⟩
    rw [← hc]
    have hcc : c ≤ 255 := by omega
    have hbs := blanks_size c
    have hcl : (blanks c).size + a0.size ≤ 9223372036854775807 := by omega
    have e2 : wrap64 a1 = a1 := by unfold wrap64; omega
    have e1 : (if 0 < wrap64 (a1 - (a0.size : Int)) then wrap64 (a1 - (a0.size : Int)) else 0) = (c : Int) := by
      unfold wrap64
      split <;> omega
    have HRp := Aside0.mk (repeat_blank c hcc)
    clear h hb h1 hc
    go_enter Tryd.func20, Tryd.ntmps20
    go_wp2_with (first
      | (go_at_call 28; (with_reducible refine (HRp.out _).mono ?_); rintro e w1 ⟨rfl, hb⟩; have HB1 := Aside0.mk hb; clear hb))
    go_ret2
    exact ⟨rfl, HB1.out⟩
end Go.Proofs.YthlpdjnfcjpbpaaDoor.Q
