/- The walks of the laws PropNames and PropEncodes. -/
import Derived.Test.YtlhnaplmphdhlaaDoorHAlive
import Derived.Test.YtlhnaplmphdhlaaDoorHLaid
import Derived.Test.YtlhnaplmphdhlaaDoorQTinderlaw05PropNames
import Derived.Test.YtlhnaplmphdhlaaDoorQTinderref05EncodeInt
import Derived.Test.YtlhnaplmphdhlaaDoorQPropEncodeInt
import Derived.Test.YtlhnaplmphdhlaaDoorQTinderref04Same
set_option linter.unusedSimpArgs false
set_option linter.unusedVariables false
namespace Go.Proofs.YtlhnaplmphdhlaaDoor.Q
open Go.RowKit Go.Proofs.YtlhnaplmphdhlaaDoorW.PrintWords Go.Proofs.YtlhnaplmphdhlaaDoorW.PrintLast
def fourF (a : Int) : List Int := [(a / 16777216) % 256, (a / 65536) % 256, (a / 256) % 256, a % 256]
theorem refEnc_eq (a : Int) (h0 : 0 ≤ a) (h1 : a < 4294967296) : tinderref05_EncodeInt.f 5 a = some (fourF a) := by
  have q3 : IntKind.u64.wrap (wrap64 (8 * 3)) = 24 := by kernel_rfl
  have q2 : IntKind.u64.wrap (wrap64 (8 * 2)) = 16 := by kernel_rfl
  have q1 : IntKind.u64.wrap (wrap64 (8 * 1)) = 8 := by kernel_rfl
  have q0 : IntKind.u64.wrap (wrap64 (8 * 0)) = 0 := by kernel_rfl
  have s3 : wrap64 (3 - 1) = 2 := by kernel_rfl
  have s2 : wrap64 (2 - 1) = 1 := by kernel_rfl
  have s1 : wrap64 (1 - 1) = 0 := by kernel_rfl
  have s0 : wrap64 (0 - 1) = -1 := by kernel_rfl
  have e3 : Int.tmod (shr .u32 a 24) 256 % 256 = a / 16777216 % 256 := by rw [show shr .u32 a 24 = a / 16777216 from rfl, Int.tmod_eq_emod_of_nonneg (by omega)]; omega
  have e2 : Int.tmod (shr .u32 a 16) 256 % 256 = a / 65536 % 256 := by rw [show shr .u32 a 16 = a / 65536 from rfl, Int.tmod_eq_emod_of_nonneg (by omega)]; omega
  have e1 : Int.tmod (shr .u32 a 8) 256 % 256 = a / 256 % 256 := by rw [show shr .u32 a 8 = a / 256 from rfl, Int.tmod_eq_emod_of_nonneg (by omega)]; omega
  have e0 : Int.tmod (shr .u32 a 0) 256 % 256 = a % 256 := by rw [show shr .u32 a 0 = a / 1 from rfl, Int.tmod_eq_emod_of_nonneg (by omega)]; omega
  unfold tinderref05_EncodeInt.f
  unfold tinderref05_EncodeInt.l0
  rw [if_pos (by decide), q3, if_pos (by decide), if_pos (by decide), e3, s3]
  unfold tinderref05_EncodeInt.l0
  rw [if_pos (by decide), q2, if_pos (by decide), if_pos (by simp), e2, s2]
  unfold tinderref05_EncodeInt.l0
  rw [if_pos (by decide), q1, if_pos (by decide), if_pos (by simp), e1, s1]
  unfold tinderref05_EncodeInt.l0
  rw [if_pos (by decide), q0, if_pos (by decide), if_pos (by simp), e0, s0]
  unfold tinderref05_EncodeInt.l0
  rw [if_neg (by decide)]
  rfl
theorem same_at (A : Option Addr) (c n : Nat) (B : Option Addr) (d : Nat) (L : List Int) (W : World) (hn : L.length = n) (h1 : Kd.C (Kd.int .u8) W A n L) (hc : n ≤ c) (h2 : Kd.C (Kd.int .u8) W B n L) (hd : n ≤ d) :
    Calls Tryd.prog 19 #[.slice A n c, .slice B n d] W fun e w' => e = .returned (.bool true) ∧ Below W.heap.size W w' := by
  subst hn
  refine (tinderref04_Same.calls A c L B d L true W h1 hc h2 hd (by unfold tinderref04_Same.f; simp)).mono ?_
  rintro e w' ⟨rfl, h⟩
  exact ⟨rfl, h.below⟩
theorem names_true (s : ByteArray) : tinderlaw05_PropNames.f 400 s = some true := by
  unfold tinderlaw05_PropNames.f tinderlaw05_alive.f
  rw [named_eq 400 (by decide), refnamed_eq 400 (by decide)]
  simp
theorem propNames_row {w : World} (ht : Tabs w) (s : ByteArray) (hs : s.size ≤ 140737488351232) : Calls Tryd.prog 3 #[.string s] w fun e w' => e = .returned (.bool true) ∧ Below w.heap.size w w' := tinderlaw05_PropNames.calls 400 s true w (names_true s)
set_option maxRecDepth 100000 in
set_option maxHeartbeats 4000000 in
theorem propEncodes_row {w : World} (ht : Tabs w) (a : Int) (wa : (Lit.int .u32 a).wf = true) (s : ByteArray) (hs : s.size ≤ 140737488351232) : Calls Tryd.prog 4 #[.int .u32 a, .string s] w fun e w' => e = .returned (.bool true) ∧ Below w.heap.size w w' := by
  clear ht
  simp only [Lit.wf, Bool.and_eq_true, decide_eq_true_eq, show IntKind.u32.min = 0 from rfl, show IntKind.u32.max = 4294967295 from rfl] at wa
  obtain ⟨L, hL⟩ : ∃ L, L = (encF s).1 := ⟨_, rfl⟩
  obtain ⟨e0, he0⟩ : ∃ e0, e0 = (encF s).2 := ⟨_, rfl⟩
  obtain ⟨F, hF⟩ : ∃ F, F = fourF a := ⟨_, rfl⟩
  have HE := Aside0.mk (show ∀ W : World, Calls Tryd.prog 17 #[.string s] W (fun e w' => ∃ A c, e = .returned (.tuple #[.slice A L.length c, .int .i64 e0]) ∧ L.length ≤ c ∧ Kd.C (Kd.int .u8) w' A L.length L ∧ Below W.heap.size W w') from fun W => by rw [hL, he0]; exact enc_calls s W)
  have HF := Aside0.mk (show ∀ W : World, Calls Tryd.prog 18 #[.string s] W (fun e w' => ∃ A c, e = .returned (.tuple #[.slice A L.length c, .int .i64 e0]) ∧ L.length ≤ c ∧ Kd.C (Kd.int .u8) w' A L.length L ∧ Below W.heap.size W w') from fun W => by
    refine (refenc_calls s W hs).mono ?_
    rintro e w' ⟨v, rfl, hR, hb⟩
    rw [← hL] at hR
    obtain ⟨A, c, rfl, hc, hC⟩ := Kd.R_reads hR
    exact ⟨A, c, by rw [he0], hc, hC, hb⟩)
  have H1 := Aside0.mk (show ∀ W : World, Calls Tryd.prog 20 #[.int .u32 a] W (fun e w' => ∃ A c, e = .returned (.slice A 4 c) ∧ 4 ≤ c ∧ Kd.C (Kd.int .u8) w' A 4 F ∧ Below W.heap.size W w') from fun W => by
    refine (prop_EncodeInt.calls a (fourF a) W rfl).mono ?_
    rintro e w' ⟨v, rfl, hR, hb⟩
    rw [← hF] at hR
    obtain ⟨A, c, rfl, hc, hC⟩ := Kd.R_reads hR
    have h4 : F.length = 4 := by rw [hF]; rfl
    rw [h4] at hc hC ⊢
    exact ⟨A, c, rfl, hc, hC, hb⟩)
  have H2 := Aside0.mk (show ∀ W : World, Calls Tryd.prog 21 #[.int .u32 a] W (fun e w' => ∃ A c, e = .returned (.slice A 4 c) ∧ 4 ≤ c ∧ Kd.C (Kd.int .u8) w' A 4 F ∧ Below W.heap.size W w') from fun W => by
    refine (tinderref05_EncodeInt.calls 5 a (fourF a) W (refEnc_eq a wa.1 (by omega))).mono ?_
    rintro e w' ⟨v, rfl, hR, hb⟩
    rw [← hF] at hR
    obtain ⟨A, c, rfl, hc, hC⟩ := Kd.R_reads hR
    have h4 : F.length = 4 := by rw [hF]; rfl
    rw [h4] at hc hC ⊢
    exact ⟨A, c, rfl, hc, hC, hb⟩)
  have HF4 := Aside0.mk (show F.length = 4 by rw [hF]; rfl)
  clear hL he0 hF wa hs
  go_enter Tryd.func4, Tryd.ntmps4
  go_wp2_with (first
    | (go_at_call 14; (with_reducible refine (alive_calls _).mono ?_); rintro e w1 ⟨rfl, hb⟩; have HB1 := Aside0.mk hb; clear hb)
    | (go_at_call 17; (with_reducible refine (HE.out _).mono ?_); rintro e w2 ⟨A2, c2, rfl, hc, hC, hb⟩; have HB2 := Aside0.mk (below_step HB1.out hb); have HC2 := Aside0.mk hC; have HK2 := Aside0.mk hc; clear hc hC hb)
    | (go_at_call 18; (with_reducible refine (HF.out _).mono ?_); rintro e w3 ⟨A3, c3, rfl, hc, hC, hb⟩; have HB3 := Aside0.mk (below_step HB2.out hb); have HC3 := Aside0.mk hC; have HK3 := Aside0.mk hc; have HC23 := Aside0.mk (Kd.C_below HC2.out hb); clear hc hC hb)
    | (go_at_call 20; (with_reducible refine (H1.out _).mono ?_); rintro e w4 ⟨A4, c4, rfl, hc, hC, hb⟩; have HB4 := Aside0.mk (below_step HB3.out hb); have HC4 := Aside0.mk hC; have HK4 := Aside0.mk hc; have HC24 := Aside0.mk (Kd.C_below HC23.out hb); have HC34 := Aside0.mk (Kd.C_below HC3.out hb); clear hc hC hb)
    | (go_at_call 21; (with_reducible refine (H2.out _).mono ?_); rintro e w5 ⟨A5, c5, rfl, hc, hC, hb⟩; have HB5 := Aside0.mk (below_step HB4.out hb); have HC5 := Aside0.mk hC; have HK5 := Aside0.mk hc; have HC25 := Aside0.mk (Kd.C_below HC24.out hb); have HC35 := Aside0.mk (Kd.C_below HC34.out hb); have HC45 := Aside0.mk (Kd.C_below HC4.out hb); clear hc hC hb)
    | (go_at_call 19; (with_reducible refine (same_at _ _ _ _ _ F _ HF4.out HC45.out HK4.out HC5.out HK5.out).mono ?_); rintro e w6 ⟨rfl, hb⟩; have HB6 := Aside0.mk (below_step HB5.out hb); have HC26 := Aside0.mk (Kd.C_below HC25.out hb); have HC36 := Aside0.mk (Kd.C_below HC35.out hb); clear hb; clear HC45)
    | (go_at_call 19; (with_reducible refine (same_at _ _ _ _ _ L _ rfl HC26.out HK2.out HC36.out HK3.out).mono ?_); rintro e w7 ⟨rfl, hb⟩; have HB7 := Aside0.mk (below_step HB6.out hb); clear hb))
  go_ret
  exact ⟨rfl, HB7.out⟩
end Go.Proofs.YtlhnaplmphdhlaaDoor.Q
