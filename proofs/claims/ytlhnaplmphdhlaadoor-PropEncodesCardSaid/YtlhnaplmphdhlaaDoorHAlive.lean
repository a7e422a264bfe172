/- The fixed fact of layer 5. -/
import Derived.Test.YtlhnaplmphdhlaaDoorHRefEnc
import Derived.Test.YtlhnaplmphdhlaaDoorHNamed
set_option linter.unusedSimpArgs false
set_option linter.unusedVariables false
namespace Go.Proofs.YtlhnaplmphdhlaaDoor.Q
open Go.RowKit Go.Proofs.YtlhnaplmphdhlaaDoorW.PrintWords Go.Proofs.YtlhnaplmphdhlaaDoorW.PrintLast
theorem unit_1f0 : unitF (⟨#[49, 102, 44, 48]⟩ : ByteArray) = ([31, 0], 0) := by kernel_rfl
theorem enc_ab : encF (⟨#[97, 98]⟩ : ByteArray) = ([97, 98, 0], 0) := by kernel_rfl
theorem named_ab : namedF (⟨#[97, 98]⟩ : ByteArray) = true := by kernel_rfl
theorem exec_string {w : World} {A : Option Addr} {n c : Nat} {l : List Int} {a : Act} {o : Oper} {x : Operand} (ho : o.op = .convert 25 9 x) (hx : a.eval x = .slice A n c) (hC : Kd.C (Kd.int .u8) w A n l) : (execOp a.eval o).run Tryd.prog w = .ok (.value (.string (strOfNums l))) w := by
  have hr : (convert 25 9 (.slice A n c)).run Tryd.prog w = .ok (.string (strOfNums l)) w := Kd.C_string Tryd.underlying25 Tryd.underlying5 Tryd.underlying9 hC
  simp only [execOp, ho, hx]
  rw [Sem.run_bind, hr]
  rfl
theorem cell_first {W : World} {A : Addr} {n : Nat} {x : Int} {l : List Int} (h : Kd.C (Kd.int .u32) W (some A) n (x :: l)) : W.cell? A = some (.int .u32 x) := by
  obtain ⟨ad, cs, hA, _, hK, hcell⟩ := ReadsRow.get_ h 0 0 (by decide) (by have := h.1; simp at this; omega)
  injection hA with hA
  subst hA
  obtain rfl : cs = [.int .u32 x] := hK
  have h2 := hcell 0 _ rfl
  rw [show (0 : Int).toNat * (Kd.int .u32).sz + 0 = 0 by rfl, Addr_add_zero] at h2
  exact h2
set_option maxRecDepth 100000 in
set_option maxHeartbeats 4000000 in
theorem alive_calls (w : World) : Calls Tryd.prog 14 #[] w fun e w' => e = .returned (.bool true) ∧ Below w.heap.size w w' := by
  have HU := Aside0.mk (show ∀ W : World, Calls Tryd.prog 35 #[.string ⟨#[49, 102, 44, 48]⟩] W (fun e w' => ∃ A c, e = .returned (.tuple #[.slice (some A) 2 c, .int .i64 0]) ∧ 2 ≤ c ∧ Kd.C (Kd.int .u32) w' (some A) 2 [31, 0] ∧ Below W.heap.size W w') from fun W => by
    have h := unit_calls ⟨#[49, 102, 44, 48]⟩ W (by decide)
    rw [unit_1f0] at h
    refine h.mono ?_
    rintro e w' ⟨v, rfl, hR, hb⟩
    obtain ⟨A, c, rfl, hc, hC⟩ := Kd.R_reads hR
    obtain ⟨ad, rfl, _⟩ := hC.2.2 (by decide)
    exact ⟨ad, c, rfl, hc, hC, hb⟩)
  have HE := Aside0.mk (show ∀ W : World, Calls Tryd.prog 17 #[.string ⟨#[97, 98]⟩] W (fun e w' => ∃ A c, e = .returned (.tuple #[.slice A 3 c, .int .i64 0]) ∧ 3 ≤ c ∧ Kd.C (Kd.int .u8) w' A 3 [97, 98, 0] ∧ Below W.heap.size W w') from fun W => by
    have h := enc_calls ⟨#[97, 98]⟩ W
    rw [enc_ab] at h
    exact h)
  have HN := Aside0.mk (show ∀ W : World, Calls Tryd.prog 15 #[.string ⟨#[97, 98]⟩] W (fun e w' => e = .returned (.bool true) ∧ Below W.heap.size W w') from fun W => by
    refine (prop_Named.calls 100 ⟨#[97, 98]⟩ true W (by rw [named_eq 100 (by decide), named_ab])).mono ?_
    rintro e w' ⟨rfl, hb⟩
    exact ⟨rfl, hb⟩)
  have d1 : ((strOfNums [97, 98, 0]).toList == ([97, 98, 0] : List UInt8)) = true := by kernel_rfl
  go_enter Tryd.func14, Tryd.ntmps14
  go_wp2_with (first
    | (go_at_call 35; (with_reducible refine (HU.out _).mono ?_); rintro e w1 ⟨A, c, rfl, hc, hC, hb⟩; have HC1 := Aside0.mk hC; have HB1 := Aside0.mk hb; clear hC hb hc)
    | (go_at_call 17; (with_reducible refine (HE.out _).mono ?_); rintro e w2 ⟨A2, c2, rfl, hc2, hC2, hb⟩; have HC2 := Aside0.mk hC2; have HB2 := Aside0.mk (below_step HB1.out hb); have hcell := cell_first (Kd.C_below HC1.out hb); clear hC2 hb hc2)
    | ((with_reducible refine gate_dst (N := 32) rfl ?_); refine gate_guard (by rfl) ?_; refine Kd.event_run rfl (exec_string rfl rfl HC2.out) ?_)
    | (go_at_call 15; (with_reducible refine (HN.out _).mono ?_); rintro e w3 ⟨rfl, hb⟩; have HB3 := Aside0.mk (below_step HB2.out hb); clear hb))
  go_ret
  exact ⟨rfl, HB3.out⟩
def tinderlaw05_alive.f : Option Bool := some true
theorem tinderlaw05_alive.calls (r : Bool) (w : World) (h : tinderlaw05_alive.f = some r) : Calls Tryd.prog 14 #[] w fun e w' => e = .returned (.bool r) ∧ Below w.heap.size w w' := by
  obtain rfl := Option.some.inj h
  exact alive_calls w
end Go.Proofs.YtlhnaplmphdhlaaDoor.Q
