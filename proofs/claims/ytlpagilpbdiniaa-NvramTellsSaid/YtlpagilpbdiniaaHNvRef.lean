/- The reference's Counts and Recover. -/
import Derived.Test.YtlpagilpbdiniaaHNvBank
import Derived.Test.YtlpagilpbdiniaaHNvRecC
import Derived.Test.YtlpagilpbdiniaaQTinderref04Copy
namespace Go.Proofs.Ytlpagilpbdiniaa.Q
open Go.RowKit Go.Proofs.YtlpagilpbdiniaaW.PrintWords Go.Proofs.YtlpagilpbdiniaaW.PrintLast Go.Proofs.YtlpagilpbdiniaaW.PrintMore
def countsR (nv : List Int) : Int × Int :=
  if (bankR (bankF nv 0)).2.2 = true ∧ (bankR (bankF nv 1)).2.2 = true ∧ (bankR (bankF nv 1)).1 = ((bankR (bankF nv 0)).1 + 1) % 256 then (1, (bankR (bankF nv 1)).1)
  else if (bankR (bankF nv 0)).2.2 = true then (0, (bankR (bankF nv 0)).1) else if (bankR (bankF nv 1)).2.2 = true then (1, (bankR (bankF nv 1)).1) else (-1, 0)
/-- What the reference's Counts answers. -/
def tinderref18_Counts.f (l0 : List Int) : Option (Int × Int) := if l0.length = 512 ∧ bytesB l0 = true then some (countsR l0) else none
set_option maxHeartbeats 4000000 in
set_option maxRecDepth 100000 in
theorem tinderref18_Counts.calls (A0 : Option Addr) (c0 : Nat) (l0 : List Int) (r1 r2 : Int) (w : World) (hr0 : Kd.C (Kd.int .u8) w A0 l0.length l0) (hc0 : l0.length ≤ c0) (h : tinderref18_Counts.f l0 = some (r1, r2)) :
    Calls Try.prog 27 #[.slice A0 l0.length c0] w fun e w' => e = .returned (.tuple #[.int .i64 r1, .int .u8 r2]) ∧ Below w.heap.size w w' := by
  unfold tinderref18_Counts.f at h
  split at h
  case isFalse => cases h
  rename_i hh
  obtain ⟨hl, hb⟩ := hh
  have hR := Option.some.inj h
  unfold countsR at hR
  have hbb := bytesB_iff.1 hb
  rw [hl] at hr0 hc0 ⊢
  obtain ⟨g0, hg0⟩ : ∃ g, g = (bankR (bankF l0 0)).1 := ⟨_, rfl⟩
  obtain ⟨g1, hg1⟩ : ∃ g, g = (bankR (bankF l0 1)).1 := ⟨_, rfl⟩
  obtain ⟨x, hx⟩ : ∃ x, x = (bankR (bankF l0 0)).2.2 := ⟨_, rfl⟩
  obtain ⟨y, hy⟩ : ∃ y, y = (bankR (bankF l0 1)).2.2 := ⟨_, rfl⟩
  rw [← hg0, ← hg1, ← hx, ← hy] at hR
  have H0 := Aside0.mk (show Calls Try.prog 28 #[.slice A0 512 c0, .int .i64 0] w (fun e w' => ∃ v : Value, e = .returned (.tuple #[.int .u8 g0, v, .bool x]) ∧ Below w.heap.size w w') from by
    rw [hg0, hx]
    refine (bank_calls A0 c0 l0 0 w (.inl rfl) hr0 hc0 hbb).mono ?_
    rintro e w' ⟨A, c, rfl, -, -, hb⟩
    exact ⟨_, rfl, hb⟩)
  have H1 := Aside0.mk (show ∀ W : World, Kd.C (Kd.int .u8) W A0 512 l0 → Calls Try.prog 28 #[.slice A0 512 c0, .int .i64 1] W (fun e w' => ∃ v : Value, e = .returned (.tuple #[.int .u8 g1, v, .bool y]) ∧ Below W.heap.size W w') from fun W h => by
    rw [hg1, hy]
    refine (bank_calls A0 c0 l0 1 W (.inr rfl) h hc0 hbb).mono ?_
    rintro e w' ⟨A, c, rfl, -, -, hb⟩
    exact ⟨_, rfl, hb⟩)
  have HR0 := Aside0.mk hr0
  have HRR := Aside0.mk hR
  clear h hl hb hR hbb hr0 hc0 hg0 hg1 hx hy
  cases x
  · cases y
    · go_enter Try.func27, Try.ntmps27
      go_wp2_with (first
        | (go_at_call 28; (with_reducible refine H0.out.mono ?_); rintro e w1 ⟨va, rfl, hb⟩; have HB := Aside0.mk (below_step (Below.refl _ _) hb); clear hb)
        | (go_at_call 28; (with_reducible refine (H1.out _ ?cb).mono ?_); (case cb => exact Kd.C_below HR0.out HB.out); rintro e w2 ⟨vb, rfl, hb⟩; have HB2 := Aside0.mk (below_step HB.out hb); clear hb HB))
      go_ret2
      have hR := HRR.out
      simp  at hR
      obtain ⟨rfl, rfl⟩ := hR
      exact ⟨rfl, HB2.out⟩
    · go_enter Try.func27, Try.ntmps27
      go_wp2_with (first
        | (go_at_call 28; (with_reducible refine H0.out.mono ?_); rintro e w1 ⟨va, rfl, hb⟩; have HB := Aside0.mk (below_step (Below.refl _ _) hb); clear hb)
        | (go_at_call 28; (with_reducible refine (H1.out _ ?cb).mono ?_); (case cb => exact Kd.C_below HR0.out HB.out); rintro e w2 ⟨vb, rfl, hb⟩; have HB2 := Aside0.mk (below_step HB.out hb); clear hb HB))
      go_ret2
      have hR := HRR.out
      simp  at hR
      obtain ⟨rfl, rfl⟩ := hR
      exact ⟨rfl, HB2.out⟩
  · cases y
    · go_enter Try.func27, Try.ntmps27
      go_wp2_with (first
        | (go_at_call 28; (with_reducible refine H0.out.mono ?_); rintro e w1 ⟨va, rfl, hb⟩; have HB := Aside0.mk (below_step (Below.refl _ _) hb); clear hb)
        | (go_at_call 28; (with_reducible refine (H1.out _ ?cb).mono ?_); (case cb => exact Kd.C_below HR0.out HB.out); rintro e w2 ⟨vb, rfl, hb⟩; have HB2 := Aside0.mk (below_step HB.out hb); clear hb HB))
      go_ret2
      have hR := HRR.out
      simp  at hR
      obtain ⟨rfl, rfl⟩ := hR
      exact ⟨rfl, HB2.out⟩
    · by_cases he : g1 = (g0 + 1) % 256
      · have hne : (g1 == (g0 + 1) % 256) = true := by simp [he]
        have HE := Aside0.mk he
        clear he
        go_enter Try.func27, Try.ntmps27
        go_wp2_with (first
          | (go_at_call 28; (with_reducible refine H0.out.mono ?_); rintro e w1 ⟨va, rfl, hb⟩; have HB := Aside0.mk (below_step (Below.refl _ _) hb); clear hb)
          | (go_at_call 28; (with_reducible refine (H1.out _ ?cb).mono ?_); (case cb => exact Kd.C_below HR0.out HB.out); rintro e w2 ⟨vb, rfl, hb⟩; have HB2 := Aside0.mk (below_step HB.out hb); clear hb HB))
        go_ret2
        have hR := HRR.out
        rw [if_pos (by simp [HE.out])] at hR
        simp at hR
        obtain ⟨rfl, rfl⟩ := hR
        exact ⟨rfl, HB2.out⟩
      · have hne : (g1 == (g0 + 1) % 256) = false := by simp [he]
        have HE := Aside0.mk he
        clear he
        go_enter Try.func27, Try.ntmps27
        go_wp2_with (first
          | (go_at_call 28; (with_reducible refine H0.out.mono ?_); rintro e w1 ⟨va, rfl, hb⟩; have HB := Aside0.mk (below_step (Below.refl _ _) hb); clear hb)
          | (go_at_call 28; (with_reducible refine (H1.out _ ?cb).mono ?_); (case cb => exact Kd.C_below HR0.out HB.out); rintro e w2 ⟨vb, rfl, hb⟩; have HB2 := Aside0.mk (below_step HB.out hb); clear hb HB))
        go_ret2
        have hR := HRR.out
        rw [if_neg (by simp [HE.out])] at hR
        simp at hR
        obtain ⟨rfl, rfl⟩ := hR
        exact ⟨rfl, HB2.out⟩
theorem countsR_cases (nv : List Int) : (countsR nv).1 = -1 ∨ (countsR nv).1 = 0 ∨ (countsR nv).1 = 1 := by
  unfold countsR
  split
  · right; right; rfl
  · split
    · right; left; rfl
    · split
      · right; right; rfl
      · left; rfl
theorem bankR_len (B : List Int) (hB : B.length = 256) : (bankR B).2.1.length ≤ 248 := by
  unfold bankR
  split
  · simp [List.length_take, List.length_drop, hB]; omega
  · simp
def recR (nv : List Int) : List Int × Int × Bool :=
  if nv.length = 512 then (if 0 ≤ (countsR nv).1 then ((bankR (bankF nv (countsR nv).1)).2.1, (countsR nv).1, true) else ([], 0, false)) else ([], 0, false)
/-- What the reference's Recover answers. -/
def tinderref18_Recover.f (l0 : List Int) : Option (List Int × Int × Bool) := if bytesB l0 = true then some (recR l0) else none
set_option maxHeartbeats 4000000 in
set_option maxRecDepth 100000 in
theorem tinderref18_Recover.calls (A0 : Option Addr) (c0 : Nat) (l0 : List Int) (r1 : List Int) (r2 : Int) (r3 : Bool) (w : World) (hr0 : Kd.C (Kd.int .u8) w A0 l0.length l0) (hc0 : l0.length ≤ c0) (h : tinderref18_Recover.f l0 = some (r1, r2, r3)) :
    Calls Try.prog 15 #[.slice A0 l0.length c0] w fun e w' => ∃ v0_ : Value, e = .returned (.tuple #[v0_, .int .i64 r2, .bool r3]) ∧ Kd.R (Kd.int .u8) 5 w' w.heap.size (fun _ => True) v0_ r1 ∧ Below w.heap.size w w' := by
  unfold tinderref18_Recover.f at h
  split at h
  case isFalse => cases h
  rename_i hb
  have hR := Option.some.inj h
  unfold recR at hR
  have hbb := bytesB_iff.1 hb
  clear h
  by_cases hl : l0.length = 512
  · rw [if_pos hl] at hR
    obtain ⟨p, hp⟩ : ∃ p, p = countsR l0 := ⟨_, rfl⟩
    obtain ⟨k, g⟩ := p
    have hcf : tinderref18_Counts.f l0 = some (k, g) := by unfold tinderref18_Counts.f; rw [if_pos ⟨hl, hb⟩, ← hp]
    have hk1 : (countsR l0).1 = k := by rw [← hp]
    have hkc := countsR_cases l0
    rw [hk1] at hkc hR
    have hcc := tinderref18_Counts.calls A0 c0 l0 k g w hr0 hc0 hcf
    rw [hl] at hr0 hc0 hcc ⊢
    have HC := Aside0.mk hcc
    have HR0 := Aside0.mk hr0
    have HC0 := Aside0.mk hc0
    have HBY := Aside0.mk hbb
    have HL := Aside0.mk hl
    clear hcc hcf hp hk1 hb hbb hr0 hc0
    by_cases hk0 : 0 ≤ k
    · rw [if_pos hk0] at hR
      have hlt : decide (k < 0) = false := decide_eq_false (by omega)
      have hk01 : k = 0 ∨ k = 1 := by omega
      obtain ⟨d, hd⟩ : ∃ d, d = (bankR (bankF l0 k)).2.1 := ⟨_, rfl⟩
      rw [← hd] at hR
      have hdl : d.length ≤ 248 := by rw [hd]; exact bankR_len _ (bankF_len hl k)
      have HBk := Aside0.mk (show ∀ W : World, Kd.C (Kd.int .u8) W A0 512 l0 → Calls Try.prog 28 #[.slice A0 512 c0, .int .i64 k] W (fun e w' => ∃ (A : Option Addr) (c : Nat), e = .returned (.tuple #[.int .u8 (bankR (bankF l0 k)).1, .slice A d.length c, .bool (bankR (bankF l0 k)).2.2]) ∧ Kd.C (Kd.int .u8) W A d.length d ∧ d.length ≤ c ∧ Below W.heap.size W w') from fun W h => by rw [hd]; exact bank_calls A0 c0 l0 k W hk01 h HC0.out HBY.out)
      have HCp := Aside0.mk (show tinderref04_Copy.f d = some d by unfold tinderref04_Copy.f; rw [if_pos (by simp; omega)]; simp)
      have HRR := Aside0.mk hR
      clear hR hd hdl hk01 hk0 hkc hl
      go_enter Try.func15, Try.ntmps15
      go_wp2_with (first
        | (go_at_call 27; (with_reducible refine HC.out.mono ?_); rintro e w1 ⟨rfl, hb⟩; have HB := Aside0.mk (below_step (Below.refl _ _) hb); clear hb)
        | (go_at_call 28; (with_reducible refine (HBk.out _ ?cb).mono ?_); (case cb => exact Kd.C_below HR0.out HB.out); rintro e w2 ⟨A, c, rfl, hcd, hle, hb⟩; have HD := Aside0.mk (Kd.C_below hcd hb); have HLE := Aside0.mk hle; have HB2 := Aside0.mk (below_step HB.out hb); clear hb hcd hle HB)
        | (go_at_call 13; refine (tinderref04_Copy.calls _ _ _ _ _ HD.out HLE.out HCp.out).mono ?_; rintro e w3 ⟨v, rfl, ho, hb⟩; have HO := Aside0.mk (Kd.R_lower ho HB2.out.size); have HB3 := Aside0.mk (below_step HB2.out hb); clear hb ho))
      go_ret3
      have hR := HRR.out
      simp only [Prod.mk.injEq] at hR
      obtain ⟨rfl, rfl, rfl⟩ := hR
      exact ⟨_, rfl, HO.out, HB3.out⟩
    · rw [if_neg hk0] at hR
      have hlt : decide (k < 0) = true := decide_eq_true (by omega)
      have HRR := Aside0.mk hR
      clear hR hk0 hkc hl
      go_enter Try.func15, Try.ntmps15
      go_wp2_with (first
        | (go_at_call 27; (with_reducible refine HC.out.mono ?_); rintro e w1 ⟨rfl, hb⟩; have HB := Aside0.mk (below_step (Below.refl _ _) hb); clear hb)
        | (go_at_call 28; (with_reducible refine (HBk.out _ ?cb).mono ?_); (case cb => exact Kd.C_below HR0.out HB.out); rintro e w2 ⟨A, c, rfl, hcd, hle, hb⟩; have HD := Aside0.mk (Kd.C_below hcd hb); have HLE := Aside0.mk hle; have HB2 := Aside0.mk (below_step HB.out hb); clear hb hcd hle HB)
        | (go_at_call 13; refine (tinderref04_Copy.calls _ _ _ _ _ HD.out HLE.out HCp.out).mono ?_; rintro e w3 ⟨v, rfl, ho, hb⟩; have HO := Aside0.mk (Kd.R_lower ho HB2.out.size); have HB3 := Aside0.mk (below_step HB2.out hb); clear hb ho))
      go_ret3
      have hR := HRR.out
      simp only [Prod.mk.injEq] at hR
      obtain ⟨rfl, rfl, rfl⟩ := hR
      exact ⟨_, rfl, Kd.R_nil _ _ _ _ _, HB.out⟩
  · rw [if_neg hl] at hR
    have hne : ((l0.length : Int) != 512) = true := by simp; omega
    have HRR := Aside0.mk hR
    clear hR hl hb hbb
    go_enter Try.func15, Try.ntmps15
    go_wp2
    go_ret3
    have hR := HRR.out
    simp only [Prod.mk.injEq] at hR
    obtain ⟨rfl, rfl, rfl⟩ := hR
    exact ⟨_, rfl, Kd.R_nil _ _ _ _ _, Below.refl _ _⟩
end Go.Proofs.Ytlpagilpbdiniaa.Q
