/- Contracts of Go functions and plain facts, of several texts, one behind the other; no condition. -/
import Derived.BigQuiet
import Derived.Deep.QuietTactic
import Derived.Test.YtnbomjfpnpmllaaMApart2
import Derived.Test.YtnbomjfpnpmllaaMApart1
import Derived.Test.YtnbomjfpnpmllaaWEqStruct
import Derived.ChangeKeysEq
import Derived.Shelf.Strings.Search1
import Derived.Shelf.Strings.Search2
import Derived.Shelf.Strings.Cut
import Derived.Shelf.LaysM
import Derived.Shelf.Strings.Shaped
import Derived.Test.YtnbomjfpnpmllaaProg
import Derived.Lib.IndexLaws
import Derived.Laws.Cover1
import Derived.Test.YtnbomjfpnpmllaaWZeros
section
set_option linter.unusedSimpArgs false
set_option linter.unusedVariables false
namespace Go.Proofs.Ytnbomjfpnpmllaa.Q
open Go.RowKit Go.Proofs.YtnbomjfpnpmllaaW.PrintWords Go.Proofs.YtnbomjfpnpmllaaW.PrintLast Go.Proofs.YtnbomjfpnpmllaaW.PrintMore
set_option maxHeartbeats 8000000 in
set_option maxRecDepth 100000 in
theorem refWin_walk (A : Option Addr) (n c : Nat) (s : ByteArray) (w : World) (f : Bool) (k es : Int) (rs : ByteArray) (ps : List Part) (ep : Int)
    (hF : ∀ W : World, Below w.heap.size w W → Calls Try.prog 33 #[.slice A n c] W (fun e w' => e = .returned (.bool f) ∧ Below W.heap.size W w'))
    (hS : ∀ W : World, Calls Try.prog 16 #[.string s] W (fun e w' => e = .returned (.tuple #[.int .i64 k, .string rs, .int .i64 es]) ∧ Below W.heap.size W w'))
    (hP : ∀ W : World, Below w.heap.size w W → f = true → 0 < n → Calls Try.prog 14 #[.slice A 512 c] W (fun e w' => e = .returned (.tuple #[.agg (partCells ps).toArray, .int .i64 ep]) ∧ Below W.heap.size W w'))
    (hk : es = 0 → k < 8) (hn : f = true → n ≤ 32768 ∧ n % 512 = 0) (hnc : n ≤ c) (hps : ps.length = 8) (hpr : Parts ps) :
    Calls Try.prog 19 #[.slice A n c, .string s] w fun e w' => e = .returned (.tuple #[.int .i64 (winG f k es ps ep n).1, .int .i64 (winG f k es ps ep n).2.1, .int .i64 (winG f k es ps ep n).2.2]) ∧ Below w.heap.size w w' := by
  obtain ⟨R, hR⟩ : ∃ R, R = winG f k es ps ep n := ⟨_, rfl⟩
  rw [← hR]
  unfold winG at hR
  have HF := Aside0.mk hF
  have HS := Aside0.mk hS
  clear hF hS
  cases f with
  | false =>
    rw [if_pos rfl] at hR
    obtain rfl := hR
    clear hP hk hn hnc
    go_enter Try.func19, Try.ntmps19
    go_wp2_with (go_at_call 33; (with_reducible refine (HF.out _ (Below.refl _ _)).mono ?_); rintro e w7 ⟨rfl, hb⟩; have HB := Aside0.mk hb; clear hb)
    exact bodyPost_ret (results_tmp3 rfl _ _ _) rfl ⟨rfl, HB.out⟩
  | true =>
    rw [if_neg (by decide)] at hR
    obtain ⟨hn1, hn2⟩ := hn rfl
    by_cases he : es = 0
    · subst he
      rw [if_neg (by decide)] at hR
      have hk8 := hk rfl
      by_cases hk0 : k < 0
      · rw [if_pos hk0] at hR
        have d1 : decide (k < 0) = true := decide_eq_true hk0
        obtain rfl := hR
        clear hP hk hn hnc hn1 hn2 hk8 hk0
        go_enter Try.func19, Try.ntmps19
        go_wp2_with (first
          | (go_at_call 33; (with_reducible refine (HF.out _ (Below.refl _ _)).mono ?_); rintro e w7 ⟨rfl, hb⟩; have HB := Aside0.mk hb; clear hb)
          | (go_at_call 16; (with_reducible refine (HS.out _).mono ?_); rintro e w8 ⟨rfl, hb⟩; have HB8 := Aside0.mk (below_step HB.out hb); clear hb))
        exact bodyPost_ret (results_tmp3 rfl _ _ _) rfl ⟨rfl, HB8.out⟩
      · rw [if_neg hk0] at hR
        have d1 : decide (k < 0) = false := decide_eq_false hk0
        by_cases hz : n = 0
        · rw [if_pos hz] at hR
          have d2 : ((n : Int) == 0) = true := by rw [hz]; rfl
          obtain rfl := hR
          clear hP hk hn hnc hn1 hn2 hk8 hk0 hz
          go_enter Try.func19, Try.ntmps19
          go_wp2_with (first
            | (go_at_call 33; (with_reducible refine (HF.out _ (Below.refl _ _)).mono ?_); rintro e w7 ⟨rfl, hb⟩; have HB := Aside0.mk hb; clear hb)
            | (go_at_call 16; (with_reducible refine (HS.out _).mono ?_); rintro e w8 ⟨rfl, hb⟩; have HB8 := Aside0.mk (below_step HB.out hb); clear hb))
          exact bodyPost_ret (results_tmp3 rfl _ _ _) rfl ⟨rfl, HB8.out⟩
        · rw [if_neg hz] at hR
          have d2 : ((n : Int) == 0) = false := beq_false_of_ne (by omega)
          have HP := Aside0.mk (fun W hW => hP W hW rfl (by omega))
          have q512 : ((512 : Int) ≤ (c : Int)) = True := eq_true (by omega)
          by_cases hep : ep = 0
          · subst hep
            rw [if_neg (by decide)] at hR
            obtain ⟨a, ha⟩ : ∃ a, a = (ps.getD k.toNat (0, 0)).1 := ⟨_, rfl⟩
            obtain ⟨b, hb⟩ : ∃ b, b = (ps.getD k.toNat (0, 0)).2 := ⟨_, rfl⟩
            have hrg := hpr.at_ k.toNat (by omega)
            have HG := Aside0.mk (show ∀ (W : World) (g : Nat), PCell W g ps → W.cell? ⟨g, k.toNat * 2, none⟩ = some (.int .u32 a) ∧ W.cell? ⟨g, k.toNat * 2 + 1, none⟩ = some (.int .u32 b) from fun W g h => ⟨ha ▸ h.get0 k.toNat (by omega), hb ▸ h.get1 k.toNat (by omega)⟩)
            rw [← ha, ← hb] at hR hrg
            clear ha hb
            have p1 : (0 ≤ k) = True := eq_true (by omega)
            have p2 : (k < 8) = True := eq_true (by omega)
            have m1 : a % 18446744073709551616 = a := Int.emod_eq_of_lt (by omega) (by omega)
            have m2 : b % 18446744073709551616 = b := Int.emod_eq_of_lt (by omega) (by omega)
            have m3 : (a + b) % 18446744073709551616 = a + b := Int.emod_eq_of_lt (by omega) (by omega)
            have m4 : wrap64 ((n : Int) / 512) = (n : Int) / 512 := div_wr n hn1
            have hq : 0 ≤ (n : Int) / 512 ∧ (n : Int) / 512 ≤ 64 := div_bd n hn1
            have m5 : ((n : Int) / 512) % 18446744073709551616 = (n : Int) / 512 := div_mod64 n hn1
            have m6 : wrap64 (a * 512) = a * 512 := by unfold wrap64; omega
            have m7 : wrap64 (b * 512) = b * 512 := by unfold wrap64; omega
            have v1 : IntKind.i64.wrap a = a := (i64_w _).trans (by unfold wrap64; omega)
            have v2 : IntKind.i64.wrap b = b := (i64_w _).trans (by unfold wrap64; omega)
            have v6 : IntKind.i64.wrap (a * 512) = a * 512 := (i64_w _).trans m6
            have v7 : IntKind.i64.wrap (b * 512) = b * 512 := (i64_w _).trans m7
            have HRA := Aside0.mk hrg
            have HPS := Aside0.mk hps
            have m8 : wrap64 (a + b) = a + b := by unfold wrap64; omega
            have m9 : wrap64 (512 * a) = 512 * a := by unfold wrap64; omega
            have m10 : wrap64 (512 * b) = 512 * b := by unfold wrap64; omega
            by_cases hb0 : b = 0
            · subst hb0
              rw [if_pos (.inl rfl)] at hR
              obtain rfl := hR
              clear hP hk hn hnc hn1 hn2 hk8 hk0 hz hrg hpr hps
              go_enter Try.func19, Try.ntmps19
              go_wp2_with (first
              | (go_at_call 33; (with_reducible refine (HF.out _ (Below.refl _ _)).mono ?_); rintro e w7 ⟨rfl, hb⟩; have HB := Aside0.mk hb; clear hb)
              | (go_at_call 16; (with_reducible refine (HS.out _).mono ?_); rintro e w8 ⟨rfl, hb⟩; have HB8 := Aside0.mk (below_step HB.out hb); clear hb)
              | (go_at_call 14; (with_reducible refine (HP.out _ HB8.out).mono ?_); rintro e w9 ⟨rfl, hb⟩; have HB9 := Aside0.mk (below_step HB8.out hb); clear hb)
              | ((with_reducible refine gate_ (.store 25 (.tmp 10) (.tmp 36)) rfl ?_); refine store_parts rfl (.tmp 10) (.tmp 36) rfl w9.heap.size noParts ps rfl rfl (blk_new w9 _) noParts_len HPS.out ?_; intro w5 h5 hg5; have P5 := Aside0.mk h5; have hcs := HG.out w5 _ h5; have hc0 := hcs.1; have hc1 := hcs.2; have HB5 := Aside0.mk (pw_below_grown (below_alloc HB9.out _) _ (below_size (below_alloc HB9.out _)) hg5 (fun k hk => Option.some.inj hk ▸ below_size HB9.out)); clear h5 hg5 hcs))
              go_quiet (fail)
              go_wp2
              exact bodyPost_ret (results_tmp3 rfl _ _ _) rfl ⟨rfl, pw_below_drewN HB5.out _⟩
            · have d4 : (b == 0) = false := beq_false_of_ne hb0
              by_cases hgt : (n : Int) / 512 < a + b
              · rw [if_pos (.inr hgt)] at hR
                have d5 : decide ((n : Int) / 512 < a + b) = true := decide_eq_true hgt
                obtain rfl := hR
                clear hP hk hn hnc hn1 hn2 hk8 hk0 hz hrg hpr hps hb0 hgt
                go_enter Try.func19, Try.ntmps19
                go_wp2_with (first
              | (go_at_call 33; (with_reducible refine (HF.out _ (Below.refl _ _)).mono ?_); rintro e w7 ⟨rfl, hb⟩; have HB := Aside0.mk hb; clear hb)
              | (go_at_call 16; (with_reducible refine (HS.out _).mono ?_); rintro e w8 ⟨rfl, hb⟩; have HB8 := Aside0.mk (below_step HB.out hb); clear hb)
              | (go_at_call 14; (with_reducible refine (HP.out _ HB8.out).mono ?_); rintro e w9 ⟨rfl, hb⟩; have HB9 := Aside0.mk (below_step HB8.out hb); clear hb)
              | ((with_reducible refine gate_ (.store 25 (.tmp 10) (.tmp 36)) rfl ?_); refine store_parts rfl (.tmp 10) (.tmp 36) rfl w9.heap.size noParts ps rfl rfl (blk_new w9 _) noParts_len HPS.out ?_; intro w5 h5 hg5; have P5 := Aside0.mk h5; have hcs := HG.out w5 _ h5; have hc0 := hcs.1; have hc1 := hcs.2; have HB5 := Aside0.mk (pw_below_grown (below_alloc HB9.out _) _ (below_size (below_alloc HB9.out _)) hg5 (fun k hk => Option.some.inj hk ▸ below_size HB9.out)); clear h5 hg5 hcs))
                go_quiet (fail)
                go_wp2
                exact bodyPost_ret (results_tmp3 rfl _ _ _) rfl ⟨rfl, pw_below_drewN HB5.out _⟩
              · rw [if_neg (fun h => h.elim hb0 hgt)] at hR
                have d5 : decide ((n : Int) / 512 < a + b) = false := decide_eq_false hgt
                have e1 : a * 512 = 512 * a := by omega
                have e2 : b * 512 = 512 * b := by omega
                rw [e1, e2] at hR
                obtain rfl := hR
                clear hP hk hn hnc hn1 hn2 hk8 hk0 hz hrg hpr hps hb0 hgt e1 e2
                go_enter Try.func19, Try.ntmps19
                go_wp2_with (first
              | (go_at_call 33; (with_reducible refine (HF.out _ (Below.refl _ _)).mono ?_); rintro e w7 ⟨rfl, hb⟩; have HB := Aside0.mk hb; clear hb)
              | (go_at_call 16; (with_reducible refine (HS.out _).mono ?_); rintro e w8 ⟨rfl, hb⟩; have HB8 := Aside0.mk (below_step HB.out hb); clear hb)
              | (go_at_call 14; (with_reducible refine (HP.out _ HB8.out).mono ?_); rintro e w9 ⟨rfl, hb⟩; have HB9 := Aside0.mk (below_step HB8.out hb); clear hb)
              | ((with_reducible refine gate_ (.store 25 (.tmp 10) (.tmp 36)) rfl ?_); refine store_parts rfl (.tmp 10) (.tmp 36) rfl w9.heap.size noParts ps rfl rfl (blk_new w9 _) noParts_len HPS.out ?_; intro w5 h5 hg5; have P5 := Aside0.mk h5; have hcs := HG.out w5 _ h5; have hc0 := hcs.1; have hc1 := hcs.2; have HB5 := Aside0.mk (pw_below_grown (below_alloc HB9.out _) _ (below_size (below_alloc HB9.out _)) hg5 (fun k hk => Option.some.inj hk ▸ below_size HB9.out)); clear h5 hg5 hcs))
                go_quiet (fail)
                go_wp2
                exact bodyPost_ret (results_tmp3 rfl _ _ _) rfl ⟨by show Ending.returned (.tuple #[.int .i64 (wrap64 (512 * a)), .int .i64 (wrap64 (512 * b)), .int .i64 0]) = _; rw [m9, m10], pw_below_drewN HB5.out _⟩
          · rw [if_pos hep] at hR
            have d3 : (ep != 0) = true := by simp [hep]
            have HPS := Aside0.mk hps
            obtain rfl := hR
            clear hP hk hn hnc hn1 hn2 hk8 hk0 hz hpr hps hep
            go_enter Try.func19, Try.ntmps19
            go_wp2_with (first
              | (go_at_call 33; (with_reducible refine (HF.out _ (Below.refl _ _)).mono ?_); rintro e w7 ⟨rfl, hb⟩; have HB := Aside0.mk hb; clear hb)
              | (go_at_call 16; (with_reducible refine (HS.out _).mono ?_); rintro e w8 ⟨rfl, hb⟩; have HB8 := Aside0.mk (below_step HB.out hb); clear hb)
              | (go_at_call 14; (with_reducible refine (HP.out _ HB8.out).mono ?_); rintro e w9 ⟨rfl, hb⟩; have HB9 := Aside0.mk (below_step HB8.out hb); clear hb)
              | ((with_reducible refine gate_ (.store 25 (.tmp 10) (.tmp 36)) rfl ?_); refine store_parts rfl (.tmp 10) (.tmp 36) rfl w9.heap.size noParts ps rfl rfl (blk_new w9 _) noParts_len HPS.out ?_; intro w5 h5 hg5; have P5 := Aside0.mk h5; have HB5 := Aside0.mk (pw_below_grown (below_alloc HB9.out _) _ (below_size (below_alloc HB9.out _)) hg5 (fun k hk => Option.some.inj hk ▸ below_size HB9.out)); clear h5 hg5))
            exact bodyPost_ret (results_tmp3 rfl _ _ _) rfl ⟨rfl, HB5.out⟩
    · rw [if_pos he] at hR
      have d1 : (es != 0) = true := by simp [he]
      obtain rfl := hR
      clear hP hk hn hnc hn1 hn2 he
      go_enter Try.func19, Try.ntmps19
      go_wp2_with (first
        | (go_at_call 33; (with_reducible refine (HF.out _ (Below.refl _ _)).mono ?_); rintro e w7 ⟨rfl, hb⟩; have HB := Aside0.mk hb; clear hb)
        | (go_at_call 16; (with_reducible refine (HS.out _).mono ?_); rintro e w8 ⟨rfl, hb⟩; have HB8 := Aside0.mk (below_step HB.out hb); clear hb))
      exact bodyPost_ret (results_tmp3 rfl _ _ _) rfl ⟨rfl, HB8.out⟩
end Go.Proofs.Ytnbomjfpnpmllaa.Q
end
section
namespace Go.Proofs.Ytnbomjfpnpmllaa.Q
open Go.RowKit Go.Proofs.YtnbomjfpnpmllaaW.PrintWords Go.Proofs.YtnbomjfpnpmllaaW.PrintLast
def anyNZ (l : List Int) : Bool := l.any fun x => x != 0
theorem light_calls (x : Int) (w : World) : Calls Try.prog 27 #[.int .u8 x] w fun e w' => e = .returned (.bool (x != 0)) ∧ w' = w := by
  go_enter Try.func27, Try.ntmps27
  go_wp2
  go_ret
  exact ⟨rfl, rfl⟩
set_option maxHeartbeats 2000000 in
set_option maxRecDepth 100000 in
theorem indexLight_calls (A : Option Addr) (c : Nat) (l : List Int) (w : World) (hC : Kd.C (Kd.int .u8) w A l.length l) (hl : l.length ≤ 140737488351232) :
    Calls Try.prog 41 #[.slice A l.length c, .func (.func 27) #[] #[]] w fun e w' => ∃ r : Int, e = .returned (.int .i64 r) ∧ (decide (0 ≤ r) = anyNZ l) ∧ Below w.heap.size w w' := by
  have HC := Aside0.mk hC
  have HL := Aside0.mk hl
  clear hC hl
  go_enter Try.func41, Try.ntmps41
  go_wp2
  go_loopg [8] l.length (fun kq v8 w' => ∃ i : Int, v8 = .int .i64 i ∧ Aside0 (0 ≤ i ∧ i + kq = l.length) ∧ Aside0 (anyNZ (l.take i.toNat) = false) ∧ Aside0 (Below w.heap.size w w'))
  case atStart => exact ⟨0, rfl, ⟨by omega, by omega⟩, ⟨rfl⟩, ⟨Below.refl _ _⟩⟩
  case round =>
    obtain ⟨i, rfl, HI, HZ, HB⟩ := hrel
    cases gk with
    | zero =>
      have hlt : decide (i < (l.length : Int)) = false := decide_eq_false (by have := HI.out; omega)
      go_wp2
      go_ret
      have hz := HZ.out
      rw [List.take_of_length_le (by have := HI.out; omega)] at hz
      exact ⟨-1, rfl, by rw [hz]; rfl, HB.out⟩
    | succ k1 =>
      have hi := HI.out
      have hL := HL.out
      have hlt : decide (i < (l.length : Int)) = true := decide_eq_true (by omega)
      have p1 : (0 ≤ i) = True := eq_true (by omega)
      have p2 : (i < (l.length : Int)) = True := eq_true (by omega)
      have hw : IntKind.i64.wrap (i + 1) = i + 1 := (i64_w _).trans (by unfold wrap64; omega)
      have hw2 : wrap64 (i + 1) = i + 1 := by unfold wrap64; omega
      obtain ⟨ad, eA, hx⟩ := Kd.at_int (Kd.C_below HC.out HB.out) i (by omega) (by omega)
      cases eA
      have hsn : anyNZ (l.take (i + 1).toNat) = (anyNZ (l.take i.toNat) || (rd l i != 0)) := by
        rw [show (i + 1).toNat = i.toNat + 1 by omega, List.take_succ_eq_append_getElem (show i.toNat < l.length by omega)]
        unfold anyNZ
        rw [List.any_append]
        simp [rd, List.getD_eq_getElem?_getD, List.getElem?_eq_getElem (show i.toNat < l.length by omega)]
      have HSN := Aside0.mk hsn
      have HIN := Aside0.mk (show (rd l i != 0) = true → anyNZ l = true from fun h => by
        unfold anyNZ
        rw [List.any_eq_true]
        refine ⟨rd l i, ?_, h⟩
        simp [rd, List.getD_eq_getElem?_getD, List.getElem?_eq_getElem (show i.toNat < l.length by omega)])
      clear hsn hi hL
      by_cases hz : (rd l i != 0) = true
      · go_wp2_with (first
          | (go_at_call 27; (with_reducible refine (light_calls _ _).mono ?_); rintro e w2 ⟨rfl, rfl⟩))
        go_ret
        have hi := HI.out
        exact ⟨i, rfl, by rw [HIN.out hz]; exact decide_eq_true hi.1, HB.out⟩
      · have hz2 : (rd l i != 0) = false := by simpa using hz
        go_wp2_with (first
          | (go_at_call 27; (with_reducible refine (light_calls _ _).mono ?_); rintro e w2 ⟨rfl, rfl⟩))
        go_roundg k1
        case measure => omega
        case rel =>
          have hi := HI.out
          exact ⟨i + 1, rfl, ⟨by omega, by omega⟩, ⟨by rw [HSN.out, HZ.out, hz2]; rfl⟩, HB⟩
set_option maxHeartbeats 2000000 in
theorem containsLight_calls (A : Option Addr) (c : Nat) (l : List Int) (w : World) (hC : Kd.C (Kd.int .u8) w A l.length l) (hl : l.length ≤ 140737488351232) :
    Calls Try.prog 28 #[.slice A l.length c, .func (.func 27) #[] #[]] w fun e w' => e = .returned (.bool (anyNZ l)) ∧ Below w.heap.size w w' := by
  have HI := Aside0.mk (indexLight_calls A c l w hC hl)
  clear hC hl
  go_enter Try.func28, Try.ntmps28
  go_wp2_with (first
    | (go_at_call 41; (with_reducible refine HI.out.mono ?_); rintro e w2 ⟨r, rfl, hr, hb⟩; have HR := Aside0.mk hr; have HB := Aside0.mk hb; clear hr hb))
  go_ret
  exact ⟨by rw [HR.out]; rfl, HB.out⟩
end Go.Proofs.Ytnbomjfpnpmllaa.Q
end
section
set_option linter.unusedSimpArgs false
set_option linter.unusedVariables false
namespace Go.Proofs.Ytnbomjfpnpmllaa.Q
open Go.RowKit Go.Proofs.YtnbomjfpnpmllaaW.PrintWords Go.Proofs.YtnbomjfpnpmllaaW.PrintLast Go.Proofs.YtnbomjfpnpmllaaW.PrintMore
theorem cellsOf5 : Try.prog.cellsOf 5 = 1 := by kernel_rfl
theorem cellsOf24 : Try.prog.cellsOf 24 = 2 := by kernel_rfl
theorem stood24 : Try.prog.stoodInHeld 24 = false := by kernel_rfl
theorem plain5 : Try.prog.plainKey 5 = true := by kernel_rfl
theorem plain22 : Try.prog.plainKey 22 = true := by kernel_rfl
theorem eq24 (d : Nat) (a b a' b' : Int) (w : World) : (Op.equalIn (d + 2) 24 (.agg #[.int .u32 a, .int .u32 b]) (.agg #[.int .u32 a', .int .u32 b'])).run Try.prog w = .ok ((a == a') && (b == b')) w :=
  eqA_of Try.underlying24 stood24 (eqf_cons rfl (run_part_plain w plain22 rfl) (run_part_plain w plain22 rfl) (run_equalIn_int w d 22 .u32 .u32 a a' Try.underlying22)
    (eqf_last rfl (run_part_plain w plain22 rfl) (run_part_plain w plain22 rfl) (run_equalIn_int w d 22 .u32 .u32 b b' Try.underlying22)))
theorem extract2 (cs : List Value) (i : Nat) (a b : Value) (ha : cs[2 * i]? = some a) (hb : cs[2 * i + 1]? = some b) : cs.toArray.extract (i * 2) (i * 2 + 2) = #[a, b] := by
  have h1 := (List.getElem?_eq_some_iff.1 hb).1
  apply Array.ext_getElem?
  intro k
  rw [Array.getElem?_extract]
  simp only [List.size_toArray, List.getElem?_toArray]
  match k with
  | 0 => rw [if_pos (by simp only [Nat.min_def]; split <;> omega), Nat.add_zero, Nat.mul_comm, ha]; rfl
  | 1 => rw [if_pos (by simp only [Nat.min_def]; split <;> omega), Nat.mul_comm, hb]; rfl
  | k + 2 => rw [if_neg (by simp only [Nat.min_def]; split <;> omega)]; rfl
theorem part24 (W : World) (ps : List Part) (i : Nat) (hi : i < ps.length) : (part 24 (partCells ps).toArray (i * 2)).run Try.prog W = .ok (.agg #[.int .u32 (ps.getD i (0, 0)).1, .int .u32 (ps.getD i (0, 0)).2]) W := by
  obtain ⟨i24, hi24, hsz⟩ := Option.map_eq_some_iff.1 size24
  have hsize : (sizeOf 24).run Try.prog W = .ok 2 W := by simp [sizeOf, typeInfo, hi24, hsz]
  have hagg : (isAgg 24).run Try.prog W = .ok true W := by
    unfold isAgg
    rw [Sem.run_bind, run_underlying Try.underlying24 W]
    rfl
  have hg := partCells_get ps i hi
  have hex := extract2 _ i _ _ hg.1 hg.2
  unfold part
  rw [Sem.run_bind, hagg, Result.andThen_ok, if_pos rfl, Sem.run_bind, hsize, Result.andThen_ok, hex]
  rfl
theorem eqItems25 (d : Nat) (W : World) (ps qs : List Part) : ∀ is : List Nat, (∀ i ∈ is, i < ps.length ∧ i < qs.length) →
    (Op.eqItems (d + 2) 24 2 (partCells ps).toArray (partCells qs).toArray is).run Try.prog W = .ok (is.all fun i => ps.getD i (0, 0) == qs.getD i (0, 0)) W
  | [], _ => by simp [Op.eqItems]
  | i :: is, h => by
    have h1 := h i (List.mem_cons_self ..)
    have ih := eqItems25 d W ps qs is (fun j hj => h j (List.mem_cons_of_mem _ hj))
    rw [Op.eqItems, Sem.run_bind, part24 W ps i h1.1, Result.andThen_ok, Sem.run_bind, part24 W qs i h1.2, Result.andThen_ok, Sem.run_bind, eq24, Result.andThen_ok, List.all_cons]
    have e : (ps.getD i (0, 0) == qs.getD i (0, 0)) = (((ps.getD i (0, 0)).1 == (qs.getD i (0, 0)).1) && ((ps.getD i (0, 0)).2 == (qs.getD i (0, 0)).2)) := rfl
    rw [e]
    cases (((ps.getD i (0, 0)).1 == (qs.getD i (0, 0)).1) && ((ps.getD i (0, 0)).2 == (qs.getD i (0, 0)).2))
    · simp
    · simpa using ih
theorem all_getD (ps qs : List Part) (hp : ps.length = 8) (hq : qs.length = 8) : ((List.range 8).all fun i => ps.getD i (0, 0) == qs.getD i (0, 0)) = decide (ps = qs) := by
  by_cases h : ps = qs
  · subst h
    simp
  · rw [decide_eq_false h, Bool.eq_false_iff]
    intro ha
    refine h (List.ext_getElem? fun i => ?_)
    by_cases hi : i < 8
    · have := List.all_eq_true.1 ha i (List.mem_range.2 hi)
      have := beq_iff_eq.1 this
      rw [List.getD_eq_getElem?_getD, List.getD_eq_getElem?_getD, List.getElem?_eq_getElem (by omega), List.getElem?_eq_getElem (by omega)] at this
      rw [List.getElem?_eq_getElem (by omega), List.getElem?_eq_getElem (by omega)]
      exact congrArg some this
    · rw [List.getElem?_eq_none (by omega), List.getElem?_eq_none (by omega)]
theorem eq25 (d : Nat) (w : World) (ps qs : List Part) (hp : ps.length = 8) (hq : qs.length = 8) : (Op.equalIn (d + 3) 25 (.agg (partCells ps).toArray) (.agg (partCells qs).toArray)).run Try.prog w = .ok (decide (ps = qs)) w := by
  obtain ⟨i24, hi24, _⟩ := Option.map_eq_some_iff.1 size24
  rw [run_equalIn_array w (d + 2) _ _ Try.underlying25 hi24, cellsOf24, eqItems25 d w ps qs _ (fun i hi => by have := List.mem_range.1 hi; omega), all_getD ps qs hp hq]
theorem eq52 (d : Nat) (w : World) (x y x' y' : Int) : (Op.equalIn (d + 2) 52 (.agg #[.int .u8 x, .int .u8 y]) (.agg #[.int .u8 x', .int .u8 y'])).run Try.prog w = .ok ((x == x') && (y == y')) w := by
  obtain ⟨i5, hi5, _⟩ := info_parts info5s
  rw [run_equalIn_array w (d + 1) _ _ Try.underlying52 hi5, cellsOf5, show List.range 2 = [0, 1] from rfl]
  have q1 : (part 5 #[Value.int .u8 x, Value.int .u8 y] (0 * 1)).run Try.prog w = .ok (.int .u8 x) w := run_part_plain w plain5 rfl
  have q2 : (part 5 #[Value.int .u8 x', Value.int .u8 y'] (0 * 1)).run Try.prog w = .ok (.int .u8 x') w := run_part_plain w plain5 rfl
  have q3 : (part 5 #[Value.int .u8 x, Value.int .u8 y] (1 * 1)).run Try.prog w = .ok (.int .u8 y) w := run_part_plain w plain5 rfl
  have q4 : (part 5 #[Value.int .u8 x', Value.int .u8 y'] (1 * 1)).run Try.prog w = .ok (.int .u8 y') w := run_part_plain w plain5 rfl
  have e1 := run_equalIn_int w d 5 .u8 .u8 x x' Try.underlying5
  have e2 := run_equalIn_int w d 5 .u8 .u8 y y' Try.underlying5
  simp only [Op.eqItems, Sem.run_bind, q1, q2, Result.andThen_ok, e1]
  cases x == x'
  · rfl
  · simp only [Bool.not_true, Bool.false_eq_true, if_false, Sem.run_bind, q3, q4, Result.andThen_ok, e2]
    cases y == y' <;> rfl
end Go.Proofs.Ytnbomjfpnpmllaa.Q
end
section
set_option linter.unusedSimpArgs false
set_option linter.unusedVariables false
namespace Go.Proofs.Ytnbomjfpnpmllaa.Q
open Go.RowKit Go.Proofs.YtnbomjfpnpmllaaW.PrintWords Go.Proofs.YtnbomjfpnpmllaaW.PrintLast Go.Proofs.YtnbomjfpnpmllaaW.PrintMore
theorem eq52_at (w : World) (x y x' y' : Int) : (Op.equalIn 10000 52 (.agg #[.int .u8 x, .int .u8 y]) (.agg #[.int .u8 x', .int .u8 y'])).run Try.prog w = .ok ((x == x') && (y == y')) w := eq52 9998 w x y x' y'
attribute [local go_sem] eq52_at
def partN (N : List Int) (i : Nat) : Part := (rd N (2 * i), rd N (2 * i + 1))
def partsN (l : List Int) : List Part := (List.range 8).map (partN (allNums (l.take 64)))
def atN (N : List Int) (i : Nat) : List Part := (List.range i).map (partN N) ++ List.replicate (8 - i) (0, 0)
theorem atN_len (l : List Int) (i : Nat) (h : i ≤ 8) : (atN l i).length = 8 := by simp [atN]; omega
theorem partsN_len (l : List Int) : (partsN l).length = 8 := by simp [partsN]
theorem atN_set (l : List Int) (i : Nat) (h : i < 8) : (atN l i).set i (partN l i) = atN l (i + 1) := by
  unfold atN
  rw [show 8 - i = (8 - (i + 1)) + 1 by omega, List.replicate_succ, List.range_succ, List.map_append, List.append_assoc, List.set_append_right _ _ (by simp)]
  simp
theorem allNums_16 (l : List Int) (h : l.length = 512) : (allNums (l.take 64)).length = 16 := by simp [allNums, h]
theorem C_take {w : World} {A : Option Addr} {n : Nat} {l : List Int} (h : Kd.C (Kd.int .u8) w A n l) (m : Nat) (hm : m ≤ n) : Kd.C (Kd.int .u8) w A m (l.take m) := by
  have hl : l.length = n := h.1
  refine ⟨by rw [List.length_take]; omega, by have := h.2.1; omega, fun hp => ?_⟩
  obtain ⟨ad, e, hc⟩ := h.2.2 (by omega)
  refine ⟨ad, e, fun j p hj => hc j p ?_⟩
  rw [List.getElem?_take] at hj
  split at hj
  · exact hj
  · cases hj
theorem ints_64 (A : Option Addr) (c : Nat) (l : List Int) (w : World) (h : Kd.C (Kd.int .u8) w A 512 l) (hc : 512 ≤ c) :
    Calls Try.prog 29 #[.slice A 64 c] w (fun e w' => ∃ A9 c9, e = .returned (.tuple #[.slice A9 16 c9, .int .i64 0]) ∧ Kd.R (Kd.int .u32) 22 w' w.heap.size (fun _ => True) (.slice A9 16 c9) (allNums (l.take 64)) ∧ Below w.heap.size w w') := by
  have hl : l.length = 512 := h.1
  have hll : (l.take 64).length = 64 := by rw [List.length_take]; omega
  have h2 := prop_Ints.calls A c (l.take 64) (allNums (l.take 64)) 0 w (by rw [hll]; exact C_take h 64 (by omega)) (by omega) (by unfold prop_Ints.f; rw [hll, if_pos (by decide), if_pos (by decide)])
  rw [hll] at h2
  refine h2.mono ?_
  rintro e w' ⟨v, rfl, hR, hb⟩
  obtain ⟨A9, c9, rfl⟩ := Kd.R_slice hR
  rw [allNums_16 l hl] at hR ⊢
  exact ⟨A9, c9, rfl, hR, hb⟩
def goodF (l : List Int) : Bool := decide (crossF l = (0, 0)) && decide (rd l 508 = 218) && decide (rd l 509 = 190) && !anyNZ ((l.drop 64).take 444)
def parseF (l : List Int) : List Part × Int := if l.length = 512 then (if goodF l = true then (partsN l, 0) else (noParts, 24)) else (noParts, 24)
set_option maxHeartbeats 8000000 in
set_option maxRecDepth 100000 in
theorem parse_calls (A : Option Addr) (c : Nat) (l : List Int) (w : World) (hC : Kd.C (Kd.int .u8) w A l.length l) (hc : l.length ≤ c) :
    Calls Try.prog 13 #[.slice A l.length c] w fun e w' => e = .returned (.tuple #[.agg (partCells (parseF l).1).toArray, .int .i64 (parseF l).2]) ∧ Below w.heap.size w w' := by
  obtain ⟨R, hR⟩ : ∃ R, R = parseF l := ⟨_, rfl⟩
  rw [← hR]
  unfold parseF at hR
  by_cases hl : l.length = 512
  · rw [if_pos hl] at hR
    have d0 : ((l.length : Int) != 512) = false := by rw [hl]; rfl
    obtain ⟨x, hx⟩ : ∃ x, x = (crossF l).1 := ⟨_, rfl⟩
    obtain ⟨y, hy⟩ : ∃ y, y = (crossF l).2 := ⟨_, rfl⟩
    have HX := Aside0.mk (show ∀ W : World, Kd.C (Kd.int .u8) W A 512 l → Calls Try.prog 25 #[.slice A 512 c] W (fun e w' => e = .returned (.agg #[.int .u8 x, .int .u8 y]) ∧ Below W.heap.size W w') from fun W h => by
      rw [hx, hy]
      exact cross_at _ _ _ _ _ hl (by omega) h)
    obtain ⟨nz, hnz⟩ : ∃ nz, nz = anyNZ ((l.drop 64).take 444) := ⟨_, rfl⟩
    have hC5 : Kd.C (Kd.int .u8) w A 512 l := hl ▸ hC
    have HR := Aside0.mk (show R = if (decide ((x, y) = ((0 : Int), (0 : Int))) && decide (rd l 508 = 218) && decide (rd l 509 = 190) && !nz) = true then (partsN l, 0) else (noParts, 24) by rw [hR, goodF, hx, hy, hnz])
    obtain ⟨ad, eA, h508⟩ := Kd.at_int hC5 508 (by omega) (by omega)
    cases eA
    obtain ⟨ad2, eA, h509⟩ := Kd.at_int hC5 509 (by omega) (by omega)
    cases eA
    have HNZ := Aside0.mk (show ∀ W : World, Kd.C (Kd.int .u8) W (some ad) 512 l → Calls Try.prog 28 #[.slice (some ⟨ad.block, ad.off + 64, none⟩) 444 (c - 64), .func (.func 27) #[] #[]] W (fun e w' => e = .returned (.bool nz) ∧ Below W.heap.size W w') from fun W h => by
      have h2 := C_cut h (show 512 ≤ c by omega) 64 444 (by omega)
      unfold cutAt at h2
      rw [if_neg (by omega)] at h2
      have hll : ((l.drop 64).take 444).length = 444 := by rw [List.length_take, List.length_drop]; omega
      have h3 := containsLight_calls (some (ad.add 64)) (c - 64) ((l.drop 64).take 444) W (by rw [hll]; exact h2) (by omega)
      rw [hll, ← hnz] at h3
      exact h3)
    have q508 : ((508 : Int) ≤ (c : Int)) = True := eq_true (by omega)
    have q64 : ((64 : Int) ≤ (c : Int)) = True := eq_true (by omega)
    have H508 := Aside0.mk (show w.cell? ⟨ad.block, ad.off + 508, none⟩ = some (.int .u8 (rd l 508)) from h508)
    have H509 := Aside0.mk (show w.cell? ⟨ad.block, ad.off + 509, none⟩ = some (.int .u8 (rd l 509)) from h509)
    obtain ⟨m, hm⟩ : ∃ m, m = rd l 508 := ⟨_, rfl⟩
    obtain ⟨n, hn⟩ : ∃ n, n = rd l 509 := ⟨_, rfl⟩
    rw [← hm, ← hn] at HR
    rw [← hm] at H508
    rw [← hn] at H509
    have HL := Aside0.mk hl
    have HC := Aside0.mk hC5
    have HCC := Aside0.mk (show 512 ≤ c by omega)
    have hcc : ¬ c = 64 := by omega
    rw [hl]
    clear hR hl hC hc hx hy hnz hC5 h508 h509 hm hn
    by_cases hx0 : x = 0
    · subst hx0
      by_cases hy0 : y = 0
      · subst hy0
        by_cases hm : m = 218
        · subst hm
          by_cases hn : n = 190
          · subst hn
            cases nz with
            | true =>
              obtain rfl : R = (noParts, 24) := by rw [HR.out, if_neg (by decide)]
              clear HR
              go_enter Try.func13, Try.ntmps13
              go_wp2_with (first
                | (go_at_call 25; (with_reducible refine (HX.out _ (Kd.C_alloc HC.out _)).mono ?_); rintro e w7 ⟨rfl, hb⟩; have P7 := Aside0.mk (show PCell w7 w.heap.size noParts from PCell.below (blk_new w _) hb); have HB7 := Aside0.mk (below_step (below_alloc (Below.refl _ _) _) hb); have HC7 := Aside0.mk (Kd.C_below (Kd.C_alloc HC.out _) hb); have h508 := pw_cell_below HB7.out H508.out; have h509 := pw_cell_below HB7.out H509.out; clear hb)
                | (go_at_call 28; (with_reducible refine (HNZ.out _ HC7.out).mono ?_); rintro e w8 ⟨rfl, hb⟩; have P8 := Aside0.mk (P7.out.below hb); have HB8 := Aside0.mk (below_step HB7.out hb); have HC8 := Aside0.mk (Kd.C_below HC7.out hb); clear hb)
                | ((with_reducible refine gate_dst (N := 34) rfl ?_); refine load_parts rfl (.tmp 2) rfl w.heap.size noParts rfl P8.out noParts_len ?_)
                | ((with_reducible refine gate_ (.store 25 (.tmp 2) (.tmp 34)) rfl ?_); refine store_parts rfl (.tmp 2) (.tmp 34) rfl w.heap.size noParts noParts rfl rfl P8.out noParts_len noParts_len ?_; intro w5 h5 hg5; have P5 := Aside0.mk h5; have HB5 := Aside0.mk (pw_below_grown HB8.out _ (below_size HB8.out) hg5 (fun k hk => Option.some.inj hk ▸ Nat.le_refl _)); clear h5 hg5))
              exact bodyPost_ret (results_parts (p := 2) (u := 3) rfl _ _ _ noParts rfl P5.out noParts_len) rfl ⟨rfl, HB5.out⟩
            | false =>
              obtain rfl : R = (partsN l, 0) := by rw [HR.out, if_pos (by decide)]
              clear HR
              go_enter Try.func13, Try.ntmps13
              go_wp2_with (first
                | (go_at_call 25; (with_reducible refine (HX.out _ (Kd.C_alloc HC.out _)).mono ?_); rintro e w7 ⟨rfl, hb⟩; have P7 := Aside0.mk (show PCell w7 w.heap.size noParts from PCell.below (blk_new w _) hb); have HB7 := Aside0.mk (below_step (below_alloc (Below.refl _ _) _) hb); have HC7 := Aside0.mk (Kd.C_below (Kd.C_alloc HC.out _) hb); have h508 := pw_cell_below HB7.out H508.out; have h509 := pw_cell_below HB7.out H509.out; clear hb)
                | (go_at_call 28; (with_reducible refine (HNZ.out _ HC7.out).mono ?_); rintro e w8 ⟨rfl, hb⟩; have P8 := Aside0.mk (P7.out.below hb); have HB8 := Aside0.mk (below_step HB7.out hb); have HC8 := Aside0.mk (Kd.C_below HC7.out hb); clear hb))
              clear HX HNZ H508 H509 hcc q64 q508
              have HIN := Aside0.mk (show ∀ W : World, Kd.C (Kd.int .u8) W (some ad) 512 l → Calls Try.prog 29 #[.slice (some ad) 64 c] W (fun e w' => ∃ A9 c9, e = .returned (.tuple #[.slice A9 16 c9, .int .i64 0]) ∧ Kd.R (Kd.int .u32) 22 w' W.heap.size (fun _ => True) (.slice A9 16 c9) (allNums (l.take 64)) ∧ Below W.heap.size W w') from fun W h => ints_64 _ _ _ W h HCC.out)
              obtain ⟨N, hN⟩ : ∃ N, N = allNums (l.take 64) := ⟨_, rfl⟩
              have HNl := Aside0.mk (show N.length = 16 by rw [hN]; exact allNums_16 l HL.out)
              have HPN := Aside0.mk (show partsN l = atN N 8 by rw [hN]; simp [partsN, atN])
              rw [← hN] at HIN
              clear hN
              go_wp2_with (first
                | (go_at_call 29; (with_reducible refine (HIN.out _ HC8.out).mono ?_); rintro e w9 ⟨A9, c9, rfl, hR9, hb⟩; have HO9 := Aside0.mk (Kd.R_lower hR9 (below_size HB8.out)); have P9 := Aside0.mk (P8.out.below hb); have HB9 := Aside0.mk (below_step HB8.out hb); clear hR9 hb))
              clear P7 P8 HB7 HB8 HC7 HC8
              go_loopg [41] 8 (fun kq v41 w' => ∃ i : Int, v41 = .int .i64 i ∧ Aside0 (0 ≤ i ∧ i + kq = 8) ∧ Aside0 (Kd.R (Kd.int .u32) 22 w' w.heap.size (fun _ => True) (.slice A9 16 c9) N) ∧ Aside0 (PCell w' w.heap.size (atN N i.toNat)) ∧ Aside0 (Below w.heap.size w w'))
              case atStart => exact ⟨0, rfl, ⟨by omega, by omega⟩, HO9, P9, HB9⟩
              case round =>
                clear HO9 P9 HB9
                obtain ⟨i, rfl, HI, HO, PC, HB⟩ := hrel
                cases gk with
                | zero =>
                  have hi8 : i = 8 := by have := HI.out; omega
                  have hlt : decide (i < (8 : Int)) = false := decide_eq_false (by omega)
                  have hP := PC.out
                  rw [hi8, show (8 : Int).toNat = 8 from rfl, ← HPN.out] at hP
                  have PC2 := Aside0.mk hP
                  clear hP hi8 PC
                  go_wp2_with (first
                    | ((with_reducible refine gate_dst (N := 59) rfl ?_); refine load_parts rfl (.tmp 2) rfl w.heap.size (partsN l) rfl PC2.out (partsN_len l) ?_)
                    | ((with_reducible refine gate_ (.store 25 (.tmp 2) (.tmp 59)) rfl ?_); refine store_parts rfl (.tmp 2) (.tmp 59) rfl w.heap.size (partsN l) (partsN l) rfl rfl PC2.out (partsN_len l) (partsN_len l) ?_; intro w5 h5 hg5; have P5 := Aside0.mk h5; have HB5 := Aside0.mk (pw_below_grown HB.out _ (below_size HB.out) hg5 (fun k hk => Option.some.inj hk ▸ Nat.le_refl _)); clear h5 hg5))
                  exact bodyPost_ret (results_parts (p := 2) (u := 3) rfl _ _ _ (partsN l) rfl P5.out (partsN_len l)) rfl ⟨rfl, HB5.out⟩
                | succ k1 =>
                  have hi := HI.out
                  have hNl := HNl.out
                  have hlt : decide (i < (8 : Int)) = true := decide_eq_true (by omega)
                  have hw2 : wrap64 (i + 1) = i + 1 := by unfold wrap64; omega
                  have hw3 : wrap64 (2 * i) = 2 * i := by unfold wrap64; omega
                  have hw4 : wrap64 (2 * i + 1) = 2 * i + 1 := by unfold wrap64; omega
                  have hv3 : IntKind.i64.wrap (2 * i) = 2 * i := (i64_w _).trans hw3
                  have hv4 : IntKind.i64.wrap (2 * i + 1) = 2 * i + 1 := (i64_w _).trans hw4
                  have p1 : (0 ≤ i) = True := eq_true (by omega)
                  have p2 : (i < 8) = True := eq_true (by omega)
                  have p3 : (0 ≤ 2 * i) = True := eq_true (by omega)
                  have p4 : (2 * i < 16) = True := eq_true (by omega)
                  have p5 : (0 ≤ 2 * i + 1) = True := eq_true (by omega)
                  have p6 : (2 * i + 1 < 16) = True := eq_true (by omega)
                  have hC9 := (Kd.R_reads' HO.out).2.2
                  obtain ⟨ad9, eA, hx0⟩ := Kd.at_int hC9 (2 * i) (by omega) (by omega)
                  cases eA
                  obtain ⟨ad8, eA2, hx1⟩ := Kd.at_int hC9 (2 * i + 1) (by omega) (by omega)
                  cases eA2
                  have HI1 := Aside0.mk hi
                  have HI8 := Aside0.mk (show i.toNat < 8 ∧ i.toNat < (atN N i.toNat).length from ⟨by omega, by rw [atN_len N i.toNat (by omega)]; omega⟩)
                  have hc0 := PC.out.get0 i.toNat HI8.out.2
                  have hc1 := PC.out.get1 i.toNat HI8.out.2
                  have hf0 := blk_frozen PC.out (i.toNat * 2)
                  have hf1 := blk_frozen PC.out (i.toNat * 2 + 1)
                  clear hi hNl hC9
                  go_wp2
                  refine start_ (n := 15) (S := fun w' => w'.cell? (ad9.add (2 * i).toNat) = some (.int .u32 (rd N (2 * i))) ∧ w'.cell? (ad9.add (2 * i + 1).toNat) = some (.int .u32 (rd N (2 * i + 1)))) (ds := [14]) #[false, false, false, false, false, false, false, false, false, false, false, false, false, false, false] (by kernel_rfl) rfl rfl ⟨hx0, hx1⟩ (fun hHeld => ?_)
                  refine pure_ (i := 0) (N := some 44) (v := ?_) (a' := ?_) #[true, false, false, false, false, false, false, false, false, false, false, false, false, false, false] rfl rfl (by kernel_rfl) (fun _ _ _ h => h) (Or.inl ⟨by rfl, ?_⟩) ?_ ?_
                  rotate_left
                  · intro w'
                    go_simp
                    with_reducible rfl
                  rotate_left
                  · simp only [Act.put, List.setIfInBounds_toArray, List.set_cons_zero, List.set_cons_succ]
                    rfl
                  refine pure_ (i := 1) (N := some 45) (v := ?_) (a' := ?_) #[true, true, false, false, false, false, false, false, false, false, false, false, false, false, false] rfl rfl (by kernel_rfl) (fun _ _ _ h => h) (Or.inl ⟨by rfl, ?_⟩) ?_ ?_
                  rotate_left
                  · intro w'
                    go_simp
                    with_reducible rfl
                  rotate_left
                  · simp only [Act.put, List.setIfInBounds_toArray, List.set_cons_zero, List.set_cons_succ]
                    rfl
                  refine pure_ (i := 2) (N := some 46) (v := ?_) (a' := ?_) #[true, true, true, false, false, false, false, false, false, false, false, false, false, false, false] rfl rfl (by kernel_rfl) (fun _ _ _ h => h) (Or.inl ⟨by rfl, ?_⟩) ?_ ?_
                  rotate_left
                  · intro w'
                    go_simp
                    with_reducible rfl
                  rotate_left
                  · simp only [Act.put, List.setIfInBounds_toArray, List.set_cons_zero, List.set_cons_succ]
                    rfl
                  refine pure_ (i := 3) (N := some 47) (v := ?_) (a' := ?_) #[true, true, true, true, false, false, false, false, false, false, false, false, false, false, false] rfl rfl (by kernel_rfl) (fun _ _ _ h => h) (Or.inl ⟨by rfl, ?_⟩) ?_ ?_
                  rotate_left
                  · intro w'
                    go_simp
                    with_reducible rfl
                  rotate_left
                  · simp only [Act.put, List.setIfInBounds_toArray, List.set_cons_zero, List.set_cons_succ]
                    rfl
                  refine pure_ (i := 4) (N := some 48) (v := ?_) (a' := ?_) #[true, true, true, true, true, false, false, false, false, false, false, false, false, false, false] rfl rfl (by kernel_rfl) (fun _ _ _ h => h) (Or.inl ⟨by rfl, ?_⟩) ?_ ?_
                  rotate_left
                  · intro w'
                    go_simp
                    with_reducible rfl
                  rotate_left
                  · simp only [Act.put, List.setIfInBounds_toArray, List.set_cons_zero, List.set_cons_succ]
                    rfl
                  refine take_ (i := 5) (N := some 49) (v := .int .u32 (rd N (2 * i))) (a' := ?_) #[true, true, true, true, true, true, false, false, false, false, false, false, false, false, false] rfl rfl (by kernel_rfl) (fun _ _ _ h => h) (Or.inl ⟨by rfl, ?_⟩) hHeld ?_ ?_
                  rotate_left
                  rotate_left
                  · simp only [Act.put, List.setIfInBounds_toArray, List.set_cons_zero, List.set_cons_succ]
                    rfl
                  rotate_left
                  · rintro w' ⟨s0, s1⟩
                    go_simp
                  refine pure_ (i := 6) (N := some 50) (v := ?_) (a' := ?_) #[true, true, true, true, true, true, true, false, false, false, false, false, false, false, false] rfl rfl (by kernel_rfl) (fun _ _ _ h => h) (Or.inl ⟨by rfl, ?_⟩) ?_ ?_
                  rotate_left
                  · intro w'
                    go_simp
                    with_reducible rfl
                  rotate_left
                  · simp only [Act.put, List.setIfInBounds_toArray, List.set_cons_zero, List.set_cons_succ]
                    rfl
                  refine pure_ (i := 7) (N := some 51) (v := ?_) (a' := ?_) #[true, true, true, true, true, true, true, true, false, false, false, false, false, false, false] rfl rfl (by kernel_rfl) (fun _ _ _ h => h) (Or.inl ⟨by rfl, ?_⟩) ?_ ?_
                  rotate_left
                  · intro w'
                    go_simp
                    with_reducible rfl
                  rotate_left
                  · simp only [Act.put, List.setIfInBounds_toArray, List.set_cons_zero, List.set_cons_succ]
                    rfl
                  refine pure_ (i := 8) (N := some 52) (v := ?_) (a' := ?_) #[true, true, true, true, true, true, true, true, true, false, false, false, false, false, false] rfl rfl (by kernel_rfl) (fun _ _ _ h => h) (Or.inl ⟨by rfl, ?_⟩) ?_ ?_
                  rotate_left
                  · intro w'
                    go_simp
                    with_reducible rfl
                  rotate_left
                  · simp only [Act.put, List.setIfInBounds_toArray, List.set_cons_zero, List.set_cons_succ]
                    rfl
                  refine pure_ (i := 9) (N := some 53) (v := ?_) (a' := ?_) #[true, true, true, true, true, true, true, true, true, true, false, false, false, false, false] rfl rfl (by kernel_rfl) (fun _ _ _ h => h) (Or.inl ⟨by rfl, ?_⟩) ?_ ?_
                  rotate_left
                  · intro w'
                    go_simp
                    with_reducible rfl
                  rotate_left
                  · simp only [Act.put, List.setIfInBounds_toArray, List.set_cons_zero, List.set_cons_succ]
                    rfl
                  refine pure_ (i := 10) (N := some 54) (v := ?_) (a' := ?_) #[true, true, true, true, true, true, true, true, true, true, true, false, false, false, false] rfl rfl (by kernel_rfl) (fun _ _ _ h => h) (Or.inl ⟨by rfl, ?_⟩) ?_ ?_
                  rotate_left
                  · intro w'
                    go_simp
                    with_reducible rfl
                  rotate_left
                  · simp only [Act.put, List.setIfInBounds_toArray, List.set_cons_zero, List.set_cons_succ]
                    rfl
                  refine take_ (i := 11) (N := some 55) (v := .int .u32 (rd N (2 * i + 1))) (a' := ?_) #[true, true, true, true, true, true, true, true, true, true, true, true, false, false, false] rfl rfl (by kernel_rfl) (fun _ _ _ h => h) (Or.inl ⟨by rfl, ?_⟩) hHeld ?_ ?_
                  rotate_left
                  rotate_left
                  · simp only [Act.put, List.setIfInBounds_toArray, List.set_cons_zero, List.set_cons_succ]
                    rfl
                  rotate_left
                  · rintro w' ⟨s0, s1⟩
                    go_simp
                  refine pure_ (i := 12) (N := some 56) (v := ?_) (a' := ?_) #[true, true, true, true, true, true, true, true, true, true, true, true, true, false, false] rfl rfl (by kernel_rfl) (fun _ _ _ h => h) (Or.inl ⟨by rfl, ?_⟩) ?_ ?_
                  rotate_left
                  · intro w'
                    go_simp
                    with_reducible rfl
                  rotate_left
                  · simp only [Act.put, List.setIfInBounds_toArray, List.set_cons_zero, List.set_cons_succ]
                    rfl
                  refine pure_ (i := 13) (N := some 57) (v := ?_) (a' := ?_) #[true, true, true, true, true, true, true, true, true, true, true, true, true, true, false] rfl rfl (by kernel_rfl) (fun _ _ _ h => h) (Or.inl ⟨by rfl, ?_⟩) ?_ ?_
                  rotate_left
                  · intro w'
                    go_simp
                    with_reducible rfl
                  rotate_left
                  · simp only [Act.put, List.setIfInBounds_toArray, List.set_cons_zero, List.set_cons_succ]
                    rfl
                  refine last_ (i := 14) (N := none) #[true, true, true, true, true, true, true, true, true, true, true, true, true, true, true] rfl rfl (by kernel_rfl) (by decide) (fun K hK => ?_)
                  refine skip_stepN (by rfl) rfl (w1 := (wr.drew.setCell ⟨w.heap.size, i.toNat * 2, none⟩ (.int .u32 (rd N (2 * i)))).setCell ⟨w.heap.size, i.toNat * 2 + 1, none⟩ (.int .u32 (rd N (2 * i + 1)))) (by first | (go_simp; done) | (go_simp; rfl)) (hK.out _ _ ?_)
                  clear hK K
                  refine done_ (n := 0) (by kernel_rfl) ?_
                  go_wp2
                  go_roundg k1
                  case measure => omega
                  case rel =>
                    have hi := HI1.out
                    have hne : ∀ k, (Value.slice (some ad9) 16 c9).ownBlock = some k → k ≠ w.heap.size := fun k hk e => Kd.R_ne HO.out PC.out (by decide) (e ▸ hk.symm)
                    refine ⟨i + 1, congrArg (Value.int .i64) hw2, ⟨by omega, by omega⟩, ⟨Kd.R_drew (R_flat_put rfl (R_flat_put rfl HO.out hne) hne)⟩, ⟨?_⟩, ⟨below_drew (below_set (below_set HB.out (Nat.le_refl _)) (Nat.le_refl _))⟩⟩
                    have h0 := PC.out.set0 i.toNat HI8.out.2 (rd N (2 * i))
                    have h := h0.set1 i.toNat (by rw [List.length_set]; exact HI8.out.2) (rd N (2 * i + 1))
                    have hs : (atN N i.toNat).length = 8 := atN_len N i.toNat (by omega)
                    have hg : ((atN N i.toNat).set i.toNat (rd N (2 * i), ((atN N i.toNat).getD i.toNat (0, 0)).2)).getD i.toNat (0, 0) = (rd N (2 * i), ((atN N i.toNat).getD i.toNat (0, 0)).2) := by
                      rw [List.getD_eq_getElem?_getD, List.getElem?_set_self (by omega)]; rfl
                    rw [List.set_set, hg] at h
                    have he := atN_set N i.toNat (by omega)
                    unfold partN at he
                    rw [show ((i.toNat : Nat) : Int) = i by omega] at he
                    rw [he, show i.toNat + 1 = (i + 1).toNat by omega] at h
                    exact blk_drew h
          · have d1 : (n != 190) = true := bne_iff_ne.2 hn
            have d2 : (n == 190) = false := beq_false_of_ne hn
            obtain rfl : R = (noParts, 24) := by rw [HR.out, if_neg (by simp [hn])]
            clear HR
            go_enter Try.func13, Try.ntmps13
            go_wp2_with (first
              | (go_at_call 25; (with_reducible refine (HX.out _ (Kd.C_alloc HC.out _)).mono ?_); rintro e w7 ⟨rfl, hb⟩; have P7 := Aside0.mk (show PCell w7 w.heap.size noParts from PCell.below (blk_new w _) hb); have HB7 := Aside0.mk (below_step (below_alloc (Below.refl _ _) _) hb); have HC7 := Aside0.mk (Kd.C_below (Kd.C_alloc HC.out _) hb); have h508 := pw_cell_below HB7.out H508.out; have h509 := pw_cell_below HB7.out H509.out; clear hb)
              | ((with_reducible refine gate_dst (N := 34) rfl ?_); refine load_parts rfl (.tmp 2) rfl w.heap.size noParts rfl P7.out noParts_len ?_)
              | ((with_reducible refine gate_ (.store 25 (.tmp 2) (.tmp 34)) rfl ?_); refine store_parts rfl (.tmp 2) (.tmp 34) rfl w.heap.size noParts noParts rfl rfl P7.out noParts_len noParts_len ?_; intro w5 h5 hg5; have P5 := Aside0.mk h5; have HB5 := Aside0.mk (pw_below_grown HB7.out _ (below_size HB7.out) hg5 (fun k hk => Option.some.inj hk ▸ Nat.le_refl _)); clear h5 hg5))
            exact bodyPost_ret (results_parts (p := 2) (u := 3) rfl _ _ _ noParts rfl P5.out noParts_len) rfl ⟨rfl, HB5.out⟩
        · have d1 : (m != 218) = true := bne_iff_ne.2 hm
          have d2 : (m == 218) = false := beq_false_of_ne hm
          obtain rfl : R = (noParts, 24) := by rw [HR.out, if_neg (by simp [hm])]
          clear HR
          go_enter Try.func13, Try.ntmps13
          go_wp2_with (first
            | (go_at_call 25; (with_reducible refine (HX.out _ (Kd.C_alloc HC.out _)).mono ?_); rintro e w7 ⟨rfl, hb⟩; have P7 := Aside0.mk (show PCell w7 w.heap.size noParts from PCell.below (blk_new w _) hb); have HB7 := Aside0.mk (below_step (below_alloc (Below.refl _ _) _) hb); have HC7 := Aside0.mk (Kd.C_below (Kd.C_alloc HC.out _) hb); have h508 := pw_cell_below HB7.out H508.out; have h509 := pw_cell_below HB7.out H509.out; clear hb)
            | ((with_reducible refine gate_dst (N := 34) rfl ?_); refine load_parts rfl (.tmp 2) rfl w.heap.size noParts rfl P7.out noParts_len ?_)
            | ((with_reducible refine gate_ (.store 25 (.tmp 2) (.tmp 34)) rfl ?_); refine store_parts rfl (.tmp 2) (.tmp 34) rfl w.heap.size noParts noParts rfl rfl P7.out noParts_len noParts_len ?_; intro w5 h5 hg5; have P5 := Aside0.mk h5; have HB5 := Aside0.mk (pw_below_grown HB7.out _ (below_size HB7.out) hg5 (fun k hk => Option.some.inj hk ▸ Nat.le_refl _)); clear h5 hg5))
          exact bodyPost_ret (results_parts (p := 2) (u := 3) rfl _ _ _ noParts rfl P5.out noParts_len) rfl ⟨rfl, HB5.out⟩
      · have d1 : (y == 0) = false := beq_false_of_ne hy0
        obtain rfl : R = (noParts, 24) := by rw [HR.out, if_neg (by simp [hy0])]
        clear HR
        go_enter Try.func13, Try.ntmps13
        go_wp2_with (first
          | (go_at_call 25; (with_reducible refine (HX.out _ (Kd.C_alloc HC.out _)).mono ?_); rintro e w7 ⟨rfl, hb⟩; have P7 := Aside0.mk (show PCell w7 w.heap.size noParts from PCell.below (blk_new w _) hb); have HB7 := Aside0.mk (below_step (below_alloc (Below.refl _ _) _) hb); have HC7 := Aside0.mk (Kd.C_below (Kd.C_alloc HC.out _) hb); have h508 := pw_cell_below HB7.out H508.out; have h509 := pw_cell_below HB7.out H509.out; clear hb)
          | ((with_reducible refine gate_dst (N := 34) rfl ?_); refine load_parts rfl (.tmp 2) rfl w.heap.size noParts rfl P7.out noParts_len ?_)
          | ((with_reducible refine gate_ (.store 25 (.tmp 2) (.tmp 34)) rfl ?_); refine store_parts rfl (.tmp 2) (.tmp 34) rfl w.heap.size noParts noParts rfl rfl P7.out noParts_len noParts_len ?_; intro w5 h5 hg5; have P5 := Aside0.mk h5; have HB5 := Aside0.mk (pw_below_grown HB7.out _ (below_size HB7.out) hg5 (fun k hk => Option.some.inj hk ▸ Nat.le_refl _)); clear h5 hg5))
        exact bodyPost_ret (results_parts (p := 2) (u := 3) rfl _ _ _ noParts rfl P5.out noParts_len) rfl ⟨rfl, HB5.out⟩
    · have d1 : (x == 0) = false := beq_false_of_ne hx0
      obtain rfl : R = (noParts, 24) := by rw [HR.out, if_neg (by simp [hx0])]
      clear HR
      go_enter Try.func13, Try.ntmps13
      go_wp2_with (first
        | (go_at_call 25; (with_reducible refine (HX.out _ (Kd.C_alloc HC.out _)).mono ?_); rintro e w7 ⟨rfl, hb⟩; have P7 := Aside0.mk (show PCell w7 w.heap.size noParts from PCell.below (blk_new w _) hb); have HB7 := Aside0.mk (below_step (below_alloc (Below.refl _ _) _) hb); have HC7 := Aside0.mk (Kd.C_below (Kd.C_alloc HC.out _) hb); have h508 := pw_cell_below HB7.out H508.out; have h509 := pw_cell_below HB7.out H509.out; clear hb)
        | ((with_reducible refine gate_dst (N := 34) rfl ?_); refine load_parts rfl (.tmp 2) rfl w.heap.size noParts rfl P7.out noParts_len ?_)
        | ((with_reducible refine gate_ (.store 25 (.tmp 2) (.tmp 34)) rfl ?_); refine store_parts rfl (.tmp 2) (.tmp 34) rfl w.heap.size noParts noParts rfl rfl P7.out noParts_len noParts_len ?_; intro w5 h5 hg5; have P5 := Aside0.mk h5; have HB5 := Aside0.mk (pw_below_grown HB7.out _ (below_size HB7.out) hg5 (fun k hk => Option.some.inj hk ▸ Nat.le_refl _)); clear h5 hg5))
      exact bodyPost_ret (results_parts (p := 2) (u := 3) rfl _ _ _ noParts rfl P5.out noParts_len) rfl ⟨rfl, HB5.out⟩
  · rw [if_neg hl] at hR
    have d0 : ((l.length : Int) != 512) = true := bne_iff_ne.2 (by omega)
    obtain rfl := hR
    clear hl hC hc
    go_enter Try.func13, Try.ntmps13
    go_wp2
    exact bodyPost_ret (results_parts (p := 2) (u := 3) rfl _ _ w.heap.size noParts rfl (blk_new w _) noParts_len) rfl ⟨rfl, below_alloc (Below.refl _ _) _⟩
end Go.Proofs.Ytnbomjfpnpmllaa.Q
end
section
set_option linter.unusedSimpArgs false
set_option linter.unusedVariables false
namespace Go.Proofs.Ytnbomjfpnpmllaa.Q
open Go.RowKit Go.Proofs.YtnbomjfpnpmllaaW.PrintWords Go.Proofs.YtnbomjfpnpmllaaW.PrintLast Go.Proofs.YtnbomjfpnpmllaaW.PrintMore
def IsB (a : Int) : Prop := 0 ≤ a ∧ a < 256
def Bytes (l : List Int) : Prop := ∀ a ∈ l, 0 ≤ a ∧ a < 256
theorem wrap_u8 (n : Int) : IntKind.u8.wrap n = n % 256 := by simp [IntKind.wrap, IntKind.bits, IntKind.signed]
theorem wrap_u32 (n : Int) : IntKind.u32.wrap n = n % 4294967296 := by simp [IntKind.wrap, IntKind.bits, IntKind.signed]
theorem xorB_nat (x y : Nat) (hx : x < 256) (hy : y < 256) : xorB (x : Int) (y : Int) = ((x ^^^ y : Nat) : Int) := by
  have hxy : x ^^^ y < 2 ^ 8 := Nat.xor_lt_two_pow (by omega) (by omega)
  have h1 : (BitVec.ofInt 8 (x : Int)).toNat = x := by
    rw [BitVec.ofInt_natCast, BitVec.toNat_ofNat]; exact Nat.mod_eq_of_lt (by omega)
  have h2 : (BitVec.ofInt 8 (y : Int)).toNat = y := by
    rw [BitVec.ofInt_natCast, BitVec.toNat_ofNat]; exact Nat.mod_eq_of_lt (by omega)
  show IntKind.u8.wrap ((BitVec.ofInt 8 (x : Int) ^^^ BitVec.ofInt 8 (y : Int)).toNat : Int) = _
  rw [BitVec.toNat_xor, h1, h2, wrap_u8]
  omega
theorem IsB.nat {a : Int} (h : IsB a) : ∃ x : Nat, a = x ∧ x < 256 := ⟨a.toNat, by have := h.1; omega, by have := h.1; have := h.2; omega⟩
theorem xorB_isB {a b : Int} (ha : IsB a) (hb : IsB b) : IsB (xorB a b) := by
  obtain ⟨x, rfl, hx⟩ := ha.nat
  obtain ⟨y, rfl, hy⟩ := hb.nat
  have hxy : x ^^^ y < 2 ^ 8 := Nat.xor_lt_two_pow (by omega) (by omega)
  rw [xorB_nat x y hx hy]
  exact ⟨by omega, by omega⟩
theorem xorB_self {a : Int} (ha : IsB a) : xorB a a = 0 := by
  obtain ⟨x, rfl, hx⟩ := ha.nat
  rw [xorB_nat x x hx hx, Nat.xor_self]; rfl
theorem xorB_zero {a : Int} (ha : IsB a) : xorB 0 a = a := by
  obtain ⟨x, rfl, hx⟩ := ha.nat
  have := xorB_nat 0 x (by omega) hx
  rw [Nat.zero_xor] at this
  exact this
theorem xorB_eq {a b : Int} (ha : IsB a) (hb : IsB b) (h : xorB a b = 0) : b = a := by
  obtain ⟨x, rfl, hx⟩ := ha.nat
  obtain ⟨y, rfl, hy⟩ := hb.nat
  rw [xorB_nat x y hx hy] at h
  have h3 : x ^^^ y = 0 := by omega
  have h4 : x ^^^ (x ^^^ y) = x ^^^ 0 := by rw [h3]
  rw [← Nat.xor_assoc, Nat.xor_self, Nat.zero_xor, Nat.xor_zero] at h4
  omega
theorem xorB_comm3 {c t e : Int} (hc : IsB c) (ht : IsB t) (he : IsB e) : xorB (xorB c t) e = xorB (xorB c e) t := by
  obtain ⟨x, rfl, hx⟩ := hc.nat
  obtain ⟨y, rfl, hy⟩ := ht.nat
  obtain ⟨z, rfl, hz⟩ := he.nat
  have h1 : x ^^^ y < 2 ^ 8 := Nat.xor_lt_two_pow (by omega) (by omega)
  have h2 : x ^^^ z < 2 ^ 8 := Nat.xor_lt_two_pow (by omega) (by omega)
  rw [xorB_nat x y hx hy, xorB_nat _ z (by omega) hz, xorB_nat x z hx hz, xorB_nat _ y (by omega) hy, Nat.xor_assoc, Nat.xor_assoc, Nat.xor_comm y z]
theorem xorB_assoc3 {c t e : Int} (hc : IsB c) (ht : IsB t) (he : IsB e) : xorB c (xorB e t) = xorB (xorB c e) t := by
  obtain ⟨x, rfl, hx⟩ := hc.nat
  obtain ⟨y, rfl, hy⟩ := ht.nat
  obtain ⟨z, rfl, hz⟩ := he.nat
  have h1 : z ^^^ y < 2 ^ 8 := Nat.xor_lt_two_pow (by omega) (by omega)
  have h2 : x ^^^ z < 2 ^ 8 := Nat.xor_lt_two_pow (by omega) (by omega)
  rw [xorB_nat z y hz hy, xorB_nat x _ hx (by omega), xorB_nat x z hx hz, xorB_nat _ y (by omega) hy, Nat.xor_assoc]
theorem getD_isB {l : List Int} (h : Bytes l) (i : Nat) : IsB (l.getD i 0) := by
  rw [List.getD_eq_getElem?_getD]
  cases hi : l[i]? with
  | none => exact ⟨by decide, by decide⟩
  | some a => exact h a (List.mem_of_getElem? hi)
theorem crossAt_isB {l : List Int} (h : Bytes l) : ∀ i, IsB (crossAt l i).1 ∧ IsB (crossAt l i).2
  | 0 => ⟨⟨Int.le_refl 0, (by decide : (0 : Int) < 256)⟩, ⟨Int.le_refl 0, (by decide : (0 : Int) < 256)⟩⟩
  | i + 1 => by
    have ih := crossAt_isB h i
    have hg := getD_isB h i
    rw [crossAt]
    split
    · exact ⟨xorB_isB ih.1 hg, ih.2⟩
    · exact ⟨ih.1, xorB_isB ih.2 hg⟩
theorem crossAt_left (Y Z : List Int) : ∀ i, i ≤ Y.length → crossAt (Y ++ Z) i = crossAt Y i
  | 0, _ => rfl
  | i + 1, h => by
    have ih := crossAt_left Y Z i (by omega)
    have hg : (Y ++ Z).getD i 0 = Y.getD i 0 := by rw [List.getD_eq_getElem?_getD, List.getElem?_append_left (by omega), ← List.getD_eq_getElem?_getD]
    rw [crossAt, crossAt, ih, hg]
theorem cross_snoc (Y : List Int) (x y : Int) (hl : Y.length = 510) : crossF (Y ++ [x, y]) = (xorB (crossF Y).1 x, xorB (crossF Y).2 y) := by
  unfold crossF
  have e : (Y ++ [x, y]).length = 510 + 1 + 1 := by rw [List.length_append, hl]; rfl
  have g1 : (Y ++ [x, y]).getD 510 0 = x := by rw [List.getD_eq_getElem?_getD, List.getElem?_append_right (by omega), hl]; rfl
  have g2 : (Y ++ [x, y]).getD (510 + 1) 0 = y := by rw [List.getD_eq_getElem?_getD, List.getElem?_append_right (by omega), hl]; rfl
  rw [e, cross_odd _ (510 + 1) (by decide), cross_even _ 510 (by decide), g1, g2, crossAt_left Y _ 510 (by omega), hl]
/-! numbers -/
def val4 (a b c d : Int) : Int := a * 16777216 + b * 65536 + c * 256 + d
theorem or_nat (a b : Nat) (ha : a < 4294967296) (hb : b < 4294967296) : bits BinOp.or IntKind.u32 (a : Int) (b : Int) = ((a ||| b : Nat) : Int) := by
  have hx : a ||| b < 2 ^ 32 := Nat.or_lt_two_pow (by omega) (by omega)
  have h1 : (BitVec.ofInt 32 (a : Int)).toNat = a := by
    rw [BitVec.ofInt_natCast, BitVec.toNat_ofNat]; exact Nat.mod_eq_of_lt (by omega)
  have h2 : (BitVec.ofInt 32 (b : Int)).toNat = b := by
    rw [BitVec.ofInt_natCast, BitVec.toNat_ofNat]; exact Nat.mod_eq_of_lt (by omega)
  show IntKind.u32.wrap ((BitVec.ofInt 32 (a : Int) ||| BitVec.ofInt 32 (b : Int)).toNat : Int) = _
  rw [BitVec.toNat_or, h1, h2, wrap_u32]
  omega
theorem or4 (a b c d : Int) (ha : IsB a) (hb : IsB b) (hc : IsB c) (hd : IsB d) : bits .or .u32 (bits .or .u32 (bits .or .u32 (((a % 4294967296) * 16777216) % 4294967296) (((b % 4294967296) * 65536) % 4294967296)) (((c % 4294967296) * 256) % 4294967296)) (d % 4294967296) = val4 a b c d := by
  obtain ⟨x, rfl, hx⟩ := ha.nat
  obtain ⟨y, rfl, hy⟩ := hb.nat
  obtain ⟨z, rfl, hz⟩ := hc.nat
  obtain ⟨t, rfl, ht⟩ := hd.nat
  have e1 : (((x : Int) % 4294967296) * 16777216) % 4294967296 = ((16777216 * x : Nat) : Int) := by omega
  have e2 : (((y : Int) % 4294967296) * 65536) % 4294967296 = ((65536 * y : Nat) : Int) := by omega
  have e3 : (((z : Int) % 4294967296) * 256) % 4294967296 = ((256 * z : Nat) : Int) := by omega
  have e4 : (t : Int) % 4294967296 = ((t : Nat) : Int) := by omega
  rw [e1, e2, e3, e4, or_nat _ _ (by omega) (by omega)]
  have f1 : 16777216 * x ||| 65536 * y = 65536 * (256 * x + y) := by
    rw [show 16777216 * x = 2 ^ 24 * x by rfl, ← Nat.two_pow_add_eq_or_of_lt (show 65536 * y < 2 ^ 24 by omega)]
    omega
  rw [f1, or_nat _ _ (by omega) (by omega)]
  have f2 : 65536 * (256 * x + y) ||| 256 * z = 256 * (65536 * x + 256 * y + z) := by
    rw [show 65536 * (256 * x + y) = 2 ^ 16 * (256 * x + y) by rfl, ← Nat.two_pow_add_eq_or_of_lt (show 256 * z < 2 ^ 16 by omega)]
    omega
  rw [f2, or_nat _ _ (by omega) (by omega), show 256 * (65536 * x + 256 * y + z) = 2 ^ 8 * (65536 * x + 256 * y + z) by rfl, ← Nat.two_pow_add_eq_or_of_lt (show t < 2 ^ 8 by omega)]
  unfold val4
  omega
theorem rd_isB {l : List Int} (h : Bytes l) (i : Int) : IsB (rd l i) := getD_isB h i.toNat
theorem numF_eq (l : List Int) (h : Bytes l) : numF l = val4 (rd l 0) (rd l 1) (rd l 2) (rd l 3) := or4 _ _ _ _ (rd_isB h _) (rd_isB h _) (rd_isB h _) (rd_isB h _)
theorem numB_eq (l : List Int) (h : Bytes l) : numB l = val4 (rd l 0) (rd l 1) (rd l 2) (rd l 3) := by
  have h0 := rd_isB h 0
  have h1 := rd_isB h 1
  have h2 := rd_isB h 2
  have h3 := rd_isB h 3
  have s1 : decAt l 1 = rd l 0 := by
    show (0 * 256 % 4294967296 + rd l 0 % 4294967296) % 4294967296 = _
    have := h0.1; have := h0.2; omega
  have s2 : decAt l 2 = rd l 0 * 256 + rd l 1 := by
    show (decAt l 1 * 256 % 4294967296 + rd l 1 % 4294967296) % 4294967296 = _
    rw [s1]
    have := h0.1; have := h0.2; have := h1.1; have := h1.2; omega
  have s3 : decAt l 3 = rd l 0 * 65536 + rd l 1 * 256 + rd l 2 := by
    show (decAt l 2 * 256 % 4294967296 + rd l 2 % 4294967296) % 4294967296 = _
    rw [s2]
    have := h0.1; have := h0.2; have := h1.1; have := h1.2; have := h2.1; have := h2.2; omega
  show (decAt l 3 * 256 % 4294967296 + rd l 3 % 4294967296) % 4294967296 = _
  rw [s3]
  unfold val4
  have := h0.1; have := h0.2; have := h1.1; have := h1.2; have := h2.1; have := h2.2; have := h3.1; have := h3.2; omega
theorem four_val (a b c d : Int) (ha : IsB a) (hb : IsB b) (hc : IsB c) (hd : IsB d) : fourF (val4 a b c d) = [a, b, c, d] := by
  obtain ⟨a0, a1⟩ := ha
  obtain ⟨b0, b1⟩ := hb
  obtain ⟨c0, c1⟩ := hc
  obtain ⟨d0, d1⟩ := hd
  unfold fourF val4
  rw [show (a * 16777216 + b * 65536 + c * 256 + d) / 16777216 % 256 = a by omega, show (a * 16777216 + b * 65536 + c * 256 + d) / 65536 % 256 = b by omega, show (a * 16777216 + b * 65536 + c * 256 + d) / 256 % 256 = c by omega, show (a * 16777216 + b * 65536 + c * 256 + d) % 256 = d by omega]
theorem val_four (a : Int) (h : 0 ≤ a ∧ a < 4294967296) : val4 (a / 16777216 % 256) (a / 65536 % 256) (a / 256 % 256) (a % 256) = a := by
  unfold val4; omega
theorem fourF_bytes (a : Int) : Bytes (fourF a) := fun x hx => by
  simp only [fourF, List.mem_cons, List.not_mem_nil, or_false] at hx
  rcases hx with rfl | rfl | rfl | rfl <;> omega
theorem numF_four (a : Int) (h : 0 ≤ a ∧ a < 4294967296) : numF (fourF a) = a := by
  rw [numF_eq _ (fourF_bytes a)]
  exact val_four a h
theorem Bytes.drop {l : List Int} (h : Bytes l) (n : Nat) : Bytes (l.drop n) := fun a ha => h a (List.mem_of_mem_drop ha)
theorem Bytes.take {l : List Int} (h : Bytes l) (n : Nat) : Bytes (l.take n) := fun a ha => h a (List.mem_of_mem_take ha)
theorem Bytes.append {l m : List Int} (h : Bytes l) (k : Bytes m) : Bytes (l ++ m) := fun a ha => (List.mem_append.1 ha).elim (h a) (k a)
theorem four_numB (l : List Int) (h : Bytes l) (hl : 4 ≤ l.length) : fourF (numB l) = l.take 4 := by
  rw [numB_eq l h, four_val _ _ _ _ (rd_isB h 0) (rd_isB h 1) (rd_isB h 2) (rd_isB h 3)]
  match l, hl with
  | a :: b :: c :: d :: _, _ => rfl
/-! the label's pieces -/
theorem headF_bytes (ps : List Part) : Bytes (headF ps) := fun x hx => by
  obtain ⟨p, _, hp⟩ := List.mem_flatMap.1 hx
  exact (List.mem_append.1 hp).elim (fourF_bytes _ x) (fourF_bytes _ x)
theorem zerosL_len (n : Nat) : (zerosL n).length = n := List.length_replicate
theorem zerosL_bytes (n : Nat) : Bytes (zerosL n) := fun x hx => by
  have := List.eq_of_mem_replicate hx
  omega
theorem bodyF_bytes (ps : List Part) : Bytes (bodyF ps) := ((headF_bytes ps).append (zerosL_bytes _)).append (fun x hx => by
  simp only [List.mem_cons, List.not_mem_nil, or_false] at hx
  rcases hx with rfl | rfl <;> omega)
theorem labelF_bytes (ps : List Part) : Bytes (labelF ps) := (bodyF_bytes ps).append (fun x hx => by
  have h := crossAt_isB (bodyF_bytes ps) (bodyF ps).length
  simp only [List.mem_cons, List.not_mem_nil, or_false] at hx
  rcases hx with rfl | rfl
  · exact h.1
  · exact h.2)
theorem bodyF_eq (ps : List Part) (hl : ps.length = 8) : bodyF ps = headF ps ++ zerosL 444 ++ [218, 190] := by unfold bodyF; rw [headF_len, hl]
theorem bodyF_len (ps : List Part) (hl : ps.length = 8) : (bodyF ps).length = 510 := by
  rw [bodyF_eq ps hl, List.length_append, List.length_append, headF_len, hl, zerosL_len]; rfl
theorem labelF_len (ps : List Part) (hl : ps.length = 8) : (labelF ps).length = 512 := by
  unfold labelF; rw [List.length_append, bodyF_len ps hl]; rfl
theorem labelF_cross (ps : List Part) (hl : ps.length = 8) : crossF (labelF ps) = (0, 0) := by
  have h := crossAt_isB (bodyF_bytes ps) (bodyF ps).length
  unfold labelF
  rw [cross_snoc _ _ _ (bodyF_len ps hl)]
  exact Prod.ext (xorB_self h.1) (xorB_self h.2)
theorem labelF_split (ps : List Part) (hl : ps.length = 8) : labelF ps = headF ps ++ (zerosL 444 ++ ([218, 190] ++ [(crossF (bodyF ps)).1, (crossF (bodyF ps)).2])) := by
  unfold labelF
  conv => lhs; arg 1; rw [bodyF_eq ps hl]
  simp only [List.append_assoc]
theorem anyNZ_zeros (n : Nat) : anyNZ (zerosL n) = false := by simp [anyNZ, zerosL]
theorem labelF_good (ps : List Part) (hl : ps.length = 8) : goodF (labelF ps) = true := by
  have hh : (headF ps).length = 64 := by rw [headF_len, hl]
  have hz : (zerosL 444).length = 444 := zerosL_len 444
  unfold goodF
  rw [labelF_cross ps hl]
  rw [labelF_split ps hl]
  generalize (crossF (bodyF ps)).1 = x
  generalize (crossF (bodyF ps)).2 = y
  have r1 : rd (headF ps ++ (zerosL 444 ++ ([218, 190] ++ [x, y]))) 508 = 218 := by
    unfold rd
    rw [List.getD_eq_getElem?_getD, List.getElem?_append_right (by rw [hh]; decide), hh, List.getElem?_append_right (by rw [hz]; decide), hz]
    rfl
  have r2 : rd (headF ps ++ (zerosL 444 ++ ([218, 190] ++ [x, y]))) 509 = 190 := by
    unfold rd
    rw [List.getD_eq_getElem?_getD, List.getElem?_append_right (by rw [hh]; decide), hh, List.getElem?_append_right (by rw [hz]; decide), hz]
    rfl
  rw [r1, r2, List.drop_left' hh, List.take_left' hz, anyNZ_zeros]
  rfl
theorem headF_four (ps : List Part) : ∀ i, i < ps.length → fourAt (headF ps) (2 * i) = fourF (ps.getD i (0, 0)).1 ∧ fourAt (headF ps) (2 * i + 1) = fourF (ps.getD i (0, 0)).2 := by
  induction ps with
  | nil => intro i hi; simp at hi
  | cons p ps ih =>
    intro i hi
    have e : headF (p :: ps) = fourF p.1 ++ (fourF p.2 ++ headF ps) := by simp [headF]
    cases i with
    | zero =>
      rw [e]
      exact ⟨rfl, rfl⟩
    | succ i =>
      have h := ih i (by simpa using hi)
      unfold fourAt at h ⊢
      rw [e, show 4 * (2 * (i + 1)) = 4 * (2 * i) + 4 + 4 by omega, show 4 * (2 * (i + 1) + 1) = 4 * (2 * i + 1) + 4 + 4 by omega]
      exact h
theorem partsN_of (l : List Int) (h : l.length = 512) (i : Nat) (hi : i < 8) : partN (allNums (l.take 64)) i = (numF (fourAt (l.take 64) (2 * i)), numF (fourAt (l.take 64) (2 * i + 1))) := by
  have hN : ∀ m : Nat, m < 16 → rd (allNums (l.take 64)) (m : Int) = numF (fourAt (l.take 64) m) := fun m hm => by
    unfold rd allNums
    rw [Int.toNat_natCast, List.getD_eq_getElem?_getD, List.getElem?_map, List.getElem?_range (by rw [List.length_take, h]; omega)]
    rfl
  unfold partN
  rw [show (2 * (i : Int)) = ((2 * i : Nat) : Int) by omega, show ((2 * i : Nat) : Int) + 1 = ((2 * i + 1 : Nat) : Int) by omega, hN _ (by omega), hN _ (by omega)]
theorem labelF_parts (ps : List Part) (hl : ps.length = 8) (hr : Parts ps) : partsN (labelF ps) = ps := by
  have hh : (headF ps).length = 64 := by rw [headF_len, hl]
  unfold partsN
  apply List.ext_getElem?
  intro i
  by_cases hi : i < 8
  · have hg := hr.at_ i (by omega)
    have h4 := headF_four ps i (by omega)
    rw [List.getElem?_map, List.getElem?_range hi]
    show some (partN _ i) = _
    rw [partsN_of _ (labelF_len ps hl) i hi, labelF_split ps hl, List.take_left' hh, h4.1, h4.2, numF_four _ hg.1, numF_four _ hg.2, List.getD_eq_getElem?_getD, List.getElem?_eq_getElem (by omega)]
    rfl
  · rw [List.getElem?_eq_none (by simp; omega), List.getElem?_eq_none (by omega)]
theorem parse_label (ps : List Part) (hl : ps.length = 8) (hr : Parts ps) : parseF (labelF ps) = (ps, 0) := by
  unfold parseF
  rw [if_pos (labelF_len ps hl), if_pos (labelF_good ps hl), labelF_parts ps hl hr]
end Go.Proofs.Ytnbomjfpnpmllaa.Q
end
section
namespace Go.Proofs
open Go.Shelf
def Try.lays219_ren : Go.Shelf.Ren := ⟨fun | 219 => 51 | 217 => 53 | 225 => 54 | 224 => 55 | 267 => 56 | 266 => 57 | 314 => 58 | n => n, fun | 9 => 9 | 3 => 3 | 4 => 4 | 5 => 5 | 46 => 70 | 146 => 87 | 51 => 22 | n => n, fun | 1 => 0 | n => n⟩
theorem Try.lays219 : Go.Proofs.Lays.n219 Try.prog Try.lays219_ren := {
  mixed := by kernel_rfl
  f217 := Try.func53.trans (congrArg some (by kernel_rfl))
  f219 := Try.func51.trans (congrArg some (by kernel_rfl))
  f224 := Try.func55.trans (congrArg some (by kernel_rfl))
  f225 := Try.func54.trans (congrArg some (by kernel_rfl))
  f266 := Try.func57.trans (congrArg some (by kernel_rfl))
  f267 := Try.func56.trans (congrArg some (by kernel_rfl))
  f314 := Try.func58.trans (congrArg some (by kernel_rfl))
  t3 := Try.underlying3
  a3 := Try.isAgg3
  z3 := Try.sizeOf3
  v3 := Try.zeroValue3
  t4 := Try.underlying4
  a4 := Try.isAgg4
  z4 := Try.sizeOf4
  v4 := Try.zeroValue4
  t5 := Try.underlying5
  a5 := Try.isAgg5
  z5 := Try.sizeOf5
  v5 := Try.zeroValue5
  t9 := Try.underlying9
  a9 := Try.isAgg9
  z9 := Try.sizeOf9
  v9 := Try.zeroValue9
  t46 := Try.underlying70
  a46 := Try.isAgg70
  z46 := Try.sizeOf70
  v46 := Try.zeroValue70
  t51 := Try.underlying22
  a51 := Try.isAgg22
  z51 := Try.sizeOf22
  v51 := Try.zeroValue22
  t146 := Try.underlying87
  a146 := Try.isAgg87
  z146 := Try.sizeOf87
  v146 := Try.zeroValue87
  g1 := by kernel_rfl }
open Go.RowKit Go.Lib in
/-- internal/stringslite.Index (what strings.Index calls) AT A substr OF ONE BYTE c: IT RETURNS 'Lib.indexByte s c'; the world is as it was. (LAID: no walk: one application.) -/
theorem Try.stringslite_Index_one (s : ByteArray) (c : UInt8) (w : World) :
    Calls Try.prog 51 #[.string s, .string ⟨#[c]⟩] w fun e w' => e = .returned (.int .i64 (Lib.indexByte s.data.toList c)) ∧ w' = w := Any.stringslite_Index_one Try.lays219 s c w
end Go.Proofs
end
section
set_option linter.unusedSimpArgs false
set_option linter.unusedVariables false
namespace Go.Proofs.Ytnbomjfpnpmllaa.Q
open Go.RowKit Go.Proofs.YtnbomjfpnpmllaaW.PrintWords Go.Proofs.YtnbomjfpnpmllaaW.PrintLast Go.Proofs.YtnbomjfpnpmllaaW.PrintMore
def comma : ByteArray := ⟨#[44]⟩
def ixF (s : ByteArray) : Int := Lib.indexByte s.data.toList 44
def letterF (s : ByteArray) : ByteArray := if 0 ≤ ixF s then s.extract 0 (ixF s).toNat else s
def restF (s : ByteArray) : ByteArray := if 0 ≤ ixF s then s.extract (ixF s + 1).toNat s.size else ⟨#[]⟩
theorem ix_lt (s : ByteArray) (h : 0 ≤ ixF s) : ixF s < s.size := by
  obtain ⟨o, ho⟩ := Int.eq_ofNat_of_zero_le h
  have h1 := (Lib.indexByte_some ho).1
  have h2 := (List.getElem?_eq_some_iff.1 h1).1
  rw [ho]
  have e : s.data.toList.length = s.size := Array.length_toList
  have : o < s.size := e ▸ h2
  omega
set_option maxHeartbeats 4000000 in
set_option maxRecDepth 100000 in
theorem cut44_calls (s : ByteArray) (w : World) (hs : s.size ≤ 140737488351232) : Calls Try.prog 44 #[.string s, .string ⟨#[44]⟩] w fun e w' => e = .returned (.tuple #[.string (letterF s), .string (restF s), .bool (decide (0 ≤ ixF s))]) ∧ Below w.heap.size w w' := by
  obtain ⟨i, hi⟩ : ∃ i, i = ixF s := ⟨_, rfl⟩
  have HI := Aside0.mk (show ∀ W : World, Calls Try.prog 51 #[.string s, .string ⟨#[44]⟩] W (fun e w' => e = .returned (.int .i64 i) ∧ w' = W) from fun W => by rw [hi]; exact Try.stringslite_Index_one s 44 W)
  have hl : letterF s = if 0 ≤ i then s.extract 0 i.toNat else s := by rw [hi]; rfl
  have hr : restF s = if 0 ≤ i then s.extract (i + 1).toNat s.size else ⟨#[]⟩ := by rw [hi]; rfl
  rw [← hi, hl, hr]
  clear hl hr
  by_cases h0 : 0 ≤ i
  · have hlt := ix_lt s (hi ▸ h0)
    rw [← hi] at hlt
    rw [if_pos h0, if_pos h0]
    have d0 : decide (0 ≤ i) = true := decide_eq_true h0
    have q1 : (0 ≤ i) = True := eq_true h0
    have q2 : (i ≤ (s.size : Int)) = True := eq_true (by omega)
    have q3 : (0 ≤ i + 1) = True := eq_true (by omega)
    have q4 : (i + 1 ≤ (s.size : Int)) = True := eq_true (by omega)
    have q5 : IntKind.i64.wrap (i + 1) = i + 1 := (i64_w _).trans (by unfold wrap64; omega)
    rw [d0]
    clear hi h0 hlt hs
    go_enter Try.func44, Try.ntmps44
    go_wp2_with (go_at_call 51; (with_reducible refine (HI.out _).mono ?_); rintro e w7 ⟨rfl, rfl⟩)
    refine start_ (n := 12) (S := fun _ => True) (ds := []) #[false, false, false, false, false, false, false, false, false, false, false, false] (by kernel_rfl) rfl rfl trivial (fun hHeld => ?_)
    refine pure_ (i := 0) (N := some 13) (v := ?_) (a' := ?_) #[true, false, false, false, false, false, false, false, false, false, false, false] rfl rfl (by kernel_rfl) (fun _ _ _ h => h) (Or.inl ⟨by rfl, ?_⟩) ?_ ?_
    rotate_left
    · intro w'
      go_simp
      with_reducible rfl
    rotate_left
    · simp only [Act.put, List.setIfInBounds_toArray, List.set_cons_zero, List.set_cons_succ]
      rfl
    refine pure_ (i := 1) (N := some 14) (v := ?_) (a' := ?_) #[true, true, false, false, false, false, false, false, false, false, false, false] rfl rfl (by kernel_rfl) (fun _ _ _ h => h) (Or.inl ⟨by rfl, ?_⟩) ?_ ?_
    rotate_left
    · intro w'
      go_simp
      with_reducible rfl
    rotate_left
    · simp only [Act.put, List.setIfInBounds_toArray, List.set_cons_zero, List.set_cons_succ]
      rfl
    refine pure_ (i := 2) (N := some 15) (v := ?_) (a' := ?_) #[true, true, true, false, false, false, false, false, false, false, false, false] rfl rfl (by kernel_rfl) (fun _ _ _ h => h) (Or.inl ⟨by rfl, ?_⟩) ?_ ?_
    rotate_left
    · intro w'
      go_simp
      with_reducible rfl
    rotate_left
    · simp only [Act.put, List.setIfInBounds_toArray, List.set_cons_zero, List.set_cons_succ]
      rfl
    refine pure_ (i := 3) (N := some 16) (v := ?_) (a' := ?_) #[true, true, true, true, false, false, false, false, false, false, false, false] rfl rfl (by kernel_rfl) (fun _ _ _ h => h) (Or.inl ⟨by rfl, ?_⟩) ?_ ?_
    rotate_left
    · intro w'
      go_simp
      with_reducible rfl
    rotate_left
    · simp only [Act.put, List.setIfInBounds_toArray, List.set_cons_zero, List.set_cons_succ]
      rfl
    refine pure_ (i := 4) (N := some 17) (v := ?_) (a' := ?_) #[true, true, true, true, true, false, false, false, false, false, false, false] rfl rfl (by kernel_rfl) (fun _ _ _ h => h) (Or.inl ⟨by rfl, ?_⟩) ?_ ?_
    rotate_left
    · intro w'
      go_simp
      with_reducible rfl
    rotate_left
    · simp only [Act.put, List.setIfInBounds_toArray, List.set_cons_zero, List.set_cons_succ]
      rfl
    refine pure_ (i := 5) (N := some 18) (v := ?_) (a' := ?_) #[true, true, true, true, true, true, false, false, false, false, false, false] rfl rfl (by kernel_rfl) (fun _ _ _ h => h) (Or.inl ⟨by rfl, ?_⟩) ?_ ?_
    rotate_left
    · intro w'
      go_simp
      with_reducible rfl
    rotate_left
    · simp only [Act.put, List.setIfInBounds_toArray, List.set_cons_zero, List.set_cons_succ]
      rfl
    refine pure_ (i := 6) (N := some 19) (v := ?_) (a' := ?_) #[true, true, true, true, true, true, true, false, false, false, false, false] rfl rfl (by kernel_rfl) (fun _ _ _ h => h) (Or.inl ⟨by rfl, ?_⟩) ?_ ?_
    rotate_left
    · intro w'
      go_simp
      with_reducible rfl
    rotate_left
    · simp only [Act.put, List.setIfInBounds_toArray, List.set_cons_zero, List.set_cons_succ]
      rfl
    refine pure_ (i := 7) (N := some 20) (v := ?_) (a' := ?_) #[true, true, true, true, true, true, true, true, false, false, false, false] rfl rfl (by kernel_rfl) (fun _ _ _ h => h) (Or.inl ⟨by rfl, ?_⟩) ?_ ?_
    rotate_left
    · intro w'
      go_simp
      with_reducible rfl
    rotate_left
    · simp only [Act.put, List.setIfInBounds_toArray, List.set_cons_zero, List.set_cons_succ]
      rfl
    refine pure_ (i := 8) (N := some 21) (v := ?_) (a' := ?_) #[true, true, true, true, true, true, true, true, true, false, false, false] rfl rfl (by kernel_rfl) (fun _ _ _ h => h) (Or.inl ⟨by rfl, ?_⟩) ?_ ?_
    rotate_left
    · intro w'
      go_simp
      with_reducible rfl
    rotate_left
    · simp only [Act.put, List.setIfInBounds_toArray, List.set_cons_zero, List.set_cons_succ]
      rfl
    refine pure_ (i := 9) (N := some 4) (v := ?_) (a' := ?_) #[true, true, true, true, true, true, true, true, true, true, false, false] rfl rfl (by kernel_rfl) (fun _ _ _ h => h) (Or.inl ⟨by rfl, ?_⟩) ?_ ?_
    rotate_left
    · intro w'
      go_simp
      with_reducible rfl
    rotate_left
    · simp only [Act.put, List.setIfInBounds_toArray, List.set_cons_zero, List.set_cons_succ]
      rfl
    refine pure_ (i := 10) (N := some 5) (v := ?_) (a' := ?_) #[true, true, true, true, true, true, true, true, true, true, true, false] rfl rfl (by kernel_rfl) (fun _ _ _ h => h) (Or.inl ⟨by rfl, ?_⟩) ?_ ?_
    rotate_left
    · intro w'
      go_simp
      with_reducible rfl
    rotate_left
    · simp only [Act.put, List.setIfInBounds_toArray, List.set_cons_zero, List.set_cons_succ]
      rfl
    refine pure_ (i := 11) (N := some 6) (v := ?_) (a' := ?_) #[true, true, true, true, true, true, true, true, true, true, true, true] rfl rfl (by kernel_rfl) (fun _ _ _ h => h) (Or.inl ⟨by rfl, ?_⟩) ?_ ?_
    rotate_left
    · intro w'
      go_simp
      with_reducible rfl
    rotate_left
    · simp only [Act.put, List.setIfInBounds_toArray, List.set_cons_zero, List.set_cons_succ]
      rfl
    refine done_ (n := 0) (by kernel_rfl) ?_
    go_wp2
    exact bodyPost_ret (results_tmp3 rfl _ _ _) rfl ⟨rfl, below_drew (Below.refl _ _)⟩
  · rw [if_neg h0, if_neg h0]
    have d0 : decide (0 ≤ i) = false := decide_eq_false h0
    rw [d0]
    clear hi h0 hs
    go_enter Try.func44, Try.ntmps44
    go_wp2_with (go_at_call 51; (with_reducible refine (HI.out _).mono ?_); rintro e w7 ⟨rfl, rfl⟩)
    exact bodyPost_ret (results_tmp3 rfl _ _ _) rfl ⟨rfl, Below.refl _ _⟩
theorem cut_calls (s : ByteArray) (w : World) (hs : s.size ≤ 140737488351232) : Calls Try.prog 31 #[.string s, .string ⟨#[44]⟩] w fun e w' => e = .returned (.tuple #[.string (letterF s), .string (restF s), .bool (decide (0 ≤ ixF s))]) ∧ Below w.heap.size w w' := by
  have HC := Aside0.mk (cut44_calls s w hs)
  generalize letterF s = l1 at HC ⊢
  generalize restF s = l2 at HC ⊢
  generalize decide (0 ≤ ixF s) = b at HC ⊢
  clear hs
  go_enter Try.func31, Try.ntmps31
  go_wp2_with (go_at_call 44; (with_reducible refine HC.out.mono ?_); rintro e w7 ⟨rfl, hb⟩; have HB := Aside0.mk hb; clear hb)
  exact bodyPost_ret (results_tmp3 rfl _ _ _) rfl ⟨rfl, HB.out⟩
def selF (s : ByteArray) : Int × ByteArray × Int :=
  if s.size = 0 then (-1, ⟨#[]⟩, 0)
  else if (letterF s).size = 1 ∧ 97 ≤ bt (letterF s) 0 ∧ bt (letterF s) 0 ≤ 104 then (bt (letterF s) 0 - 97, restF s, 0) else (0, ⟨#[]⟩, 15)
theorem one_str (l : ByteArray) (h : l.size = 1) : ∃ c : UInt8, l.toList = [c] ∧ bt l 0 = c.toNat := by
  obtain ⟨⟨L⟩⟩ := l
  have hL : L.length = 1 := h
  match L, hL with
  | [c], _ => exact ⟨c, by rw [ByteArray.toList_eq], rfl⟩
theorem less_one (c d : UInt8) : Op.bytesLess [c] [d] = decide ((c.toNat : Int) < d.toNat) := by
  simp only [Op.bytesLess, Bool.and_false, Bool.or_false]
  refine decide_eq_decide.2 ?_
  rw [UInt8.lt_iff_toNat_lt]
  omega
theorem beq_one (c d : UInt8) : (([c] : List UInt8) == [d]) = decide ((c.toNat : Int) = d.toNat) := by
  by_cases h : c = d
  · subst h; simp
  · have : ¬ ((c.toNat : Int) = d.toNat) := fun e => h (UInt8.toNat_inj.1 (by omega))
    rw [decide_eq_false this]
    simpa using h
theorem empty_str (s : ByteArray) : s.toList = ([] : List UInt8) ↔ s.size = 0 := by
  rw [ByteArray.toList_eq]
  constructor
  · intro h
    have e : s.data.toList.length = s.size := Array.length_toList
    rw [← e, h]; rfl
  · intro h
    have e : s.data.toList.length = s.size := Array.length_toList
    exact List.eq_nil_of_length_eq_zero (e.trans h)
set_option maxHeartbeats 4000000 in
set_option maxRecDepth 100000 in
theorem select_calls (s : ByteArray) (w : World) (hs : s.size ≤ 140737488351232) : Calls Try.prog 15 #[.string s] w fun e w' => e = .returned (.tuple #[.int .i64 (selF s).1, .string (selF s).2.1, .int .i64 (selF s).2.2]) ∧ Below w.heap.size w w' := by
  have HC := Aside0.mk (fun W : World => cut_calls s W hs)
  obtain ⟨R, hR⟩ : ∃ R, R = selF s := ⟨_, rfl⟩
  rw [← hR]
  unfold selF at hR
  generalize letterF s = l1 at HC hR
  generalize restF s = l2 at HC hR
  generalize decide (0 ≤ ixF s) = b at HC
  by_cases h0 : s.size = 0
  · rw [if_pos h0] at hR
    have e0 : (s.toList == ([] : List UInt8)) = true := beq_iff_eq.2 ((empty_str s).2 h0)
    obtain rfl := hR
    clear h0 hs
    go_enter Try.func15, Try.ntmps15
    go_wp2
    exact bodyPost_ret (results_tmp3 rfl _ _ _) rfl ⟨rfl, Below.refl _ _⟩
  · rw [if_neg h0] at hR
    have e0 : (s.toList == ([] : List UInt8)) = false := beq_false_of_ne (fun h => h0 ((empty_str s).1 h))
    by_cases h1 : l1.size = 1
    · have d1 : ((l1.size : Int) != 1) = false := by rw [h1]; rfl
      obtain ⟨c, hc, hbt⟩ := one_str l1 h1
      have hc0 := c.toNat_lt
      have HBT := Aside0.mk hbt
      clear h0 hs
      by_cases hlo : (c.toNat : Int) < 97
      · have e1 : Op.bytesLess l1.toList [97] = true := by rw [hc, less_one]; exact decide_eq_true hlo
        rw [if_neg (by rw [hbt]; omega)] at hR
        obtain rfl := hR
        clear hc hbt hc0 hlo
        go_enter Try.func15, Try.ntmps15
        go_wp2_with (go_at_call 31; (with_reducible refine (HC.out _).mono ?_); rintro e w7 ⟨rfl, hb⟩; have HB := Aside0.mk hb; clear hb)
        exact bodyPost_ret (results_tmp3 rfl _ _ _) rfl ⟨rfl, HB.out⟩
      · have e1 : Op.bytesLess l1.toList [97] = false := by rw [hc, less_one]; exact decide_eq_false hlo
        by_cases hhi : (c.toNat : Int) ≤ 104
        · have e2 : (!(Op.bytesLess l1.toList [104] || l1.toList == [104])) = false := by
            rw [hc, less_one, beq_one]
            have : ((c.toNat : Int) < (104 : UInt8).toNat) ∨ ((c.toNat : Int) = (104 : UInt8).toNat) := by show ((c.toNat : Int) < 104) ∨ ((c.toNat : Int) = 104); omega
            rw [Bool.not_eq_false', Bool.or_eq_true, decide_eq_true_iff, decide_eq_true_iff]
            exact this
          rw [if_pos (by rw [hbt]; omega)] at hR
          obtain rfl := hR
          have HT := Aside0.mk (show ((c.toNat : Int) - 97) % 256 = (c.toNat : Int) - 97 by omega)
          rw [hbt]
          clear hc hbt hc0 hlo hhi
          go_enter Try.func15, Try.ntmps15
          go_wp2_with (go_at_call 31; (with_reducible refine (HC.out _).mono ?_); rintro e w7 ⟨rfl, hb⟩; have HB := Aside0.mk hb; clear hb)
          refine bodyPost_ret (results_tmp3 rfl _ _ _) rfl ⟨?_, HB.out⟩
          have hlt : (0 : Int).toNat < l1.size := by rw [h1]; decide
          show Ending.returned (Value.tuple #[Value.int .i64 ((((l1[(0 : Int).toNat]'hlt).toNat : Int) - 97) % 256), Value.string l2, .int .i64 0]) = _
          rw [bt_at l1 0 hlt, HBT.out, HT.out]
        · have e2 : (!(Op.bytesLess l1.toList [104] || l1.toList == [104])) = true := by
            rw [hc, less_one, beq_one]
            have : ¬ ((c.toNat : Int) < (104 : UInt8).toNat) ∧ ¬ ((c.toNat : Int) = (104 : UInt8).toNat) := by show ¬ ((c.toNat : Int) < 104) ∧ ¬ ((c.toNat : Int) = 104); omega
            simpa using this
          rw [if_neg (by rw [hbt]; omega)] at hR
          obtain rfl := hR
          clear hc hbt hc0 hlo hhi
          go_enter Try.func15, Try.ntmps15
          go_wp2_with (go_at_call 31; (with_reducible refine (HC.out _).mono ?_); rintro e w7 ⟨rfl, hb⟩; have HB := Aside0.mk hb; clear hb)
          exact bodyPost_ret (results_tmp3 rfl _ _ _) rfl ⟨rfl, HB.out⟩
    · have d1 : ((l1.size : Int) != 1) = true := bne_iff_ne.2 (by omega)
      rw [if_neg (by omega)] at hR
      obtain rfl := hR
      clear h0 hs
      go_enter Try.func15, Try.ntmps15
      go_wp2_with (go_at_call 31; (with_reducible refine (HC.out _).mono ?_); rintro e w7 ⟨rfl, hb⟩; have HB := Aside0.mk hb; clear hb)
      exact bodyPost_ret (results_tmp3 rfl _ _ _) rfl ⟨rfl, HB.out⟩
end Go.Proofs.Ytnbomjfpnpmllaa.Q
end
section
set_option linter.unusedSimpArgs false
set_option linter.unusedVariables false
namespace Go.Proofs.Ytnbomjfpnpmllaa.Q
open Go.RowKit Go.Proofs.YtnbomjfpnpmllaaW.PrintWords Go.Proofs.YtnbomjfpnpmllaaW.PrintLast Go.Proofs.YtnbomjfpnpmllaaW.PrintMore
def formedF (l : List Int) : Bool := decide (l.length % 512 = 0 ∧ l.length ≤ 32768)
theorem formed_eq (l : List Int) (hl : l.length ≤ 140737488351232) : block_Formed.f l = some (formedF l) := by
  have e : wrap64 ((l.length : Int) / 512) = (l.length : Int) / 512 := by unfold wrap64; omega
  unfold block_Formed.f formedF
  rw [e]
  by_cases h : l.length % 512 = 0
  · rw [if_pos (by omega)]
    congr 1
    exact decide_eq_decide.2 (by omega)
  · rw [if_neg (by omega), decide_eq_false (fun h' => h h'.1)]
theorem formed_spec {l : List Int} (h : formedF l = true) : l.length ≤ 32768 ∧ l.length % 512 = 0 := by
  have := of_decide_eq_true h
  exact ⟨this.2, this.1⟩
def winF (l : List Int) (s : ByteArray) : Int × Int × Int := winG (formedF l) (selF s).1 (selF s).2.2 (parseF (l.take 512)).1 (parseF (l.take 512)).2 l.length
theorem bt_rg (s : ByteArray) (i : Int) : 0 ≤ bt s i ∧ bt s i ≤ 255 := bt_range s i
theorem selF_lt (s : ByteArray) : (selF s).2.2 = 0 → (selF s).1 < 8 := by
  unfold selF
  split
  · intro _; decide
  · split
    · rename_i h
      intro _
      show bt (letterF s) 0 - 97 < 8
      omega
    · intro h
      exact absurd h (by decide)
theorem parseF_parts (l : List Int) (hb : Bytes l) : (parseF l).1.length = 8 ∧ Parts (parseF l).1 := by
  have h0 : Parts noParts := fun p hp => by
    have := List.eq_of_mem_replicate hp
    subst this
    exact ⟨⟨by decide, by decide⟩, ⟨by decide, by decide⟩⟩
  unfold parseF
  split
  · rename_i h5
    split
    · refine ⟨partsN_len l, fun p hp => ?_⟩
      obtain ⟨i, hi, rfl⟩ := List.mem_map.1 hp
      have hv : ∀ m : List Int, Bytes m → 0 ≤ numF m ∧ numF m < 4294967296 := fun m hm => by
        rw [numF_eq m hm]
        have a := rd_isB hm 0
        have b := rd_isB hm 1
        have c := rd_isB hm 2
        have d := rd_isB hm 3
        unfold IsB at a b c d
        unfold val4
        omega
      rw [partsN_of l h5 i (List.mem_range.1 hi)]
      exact ⟨hv _ (((hb.take _).drop _).take _), hv _ (((hb.take _).drop _).take _)⟩
    · exact ⟨noParts_len, h0⟩
  · exact ⟨noParts_len, h0⟩
theorem window_calls (A : Option Addr) (c : Nat) (l : List Int) (s : ByteArray) (w : World) (hC : Kd.C (Kd.int .u8) w A l.length l) (hc : l.length ≤ c) (hl : l.length ≤ 140737488351232) (hb : Bytes l) (hs : s.size ≤ 140737488351232) :
    Calls Try.prog 18 #[.slice A l.length c, .string s] w fun e w' => e = .returned (.tuple #[.int .i64 (winF l s).1, .int .i64 (winF l s).2.1, .int .i64 (winF l s).2.2]) ∧ Below w.heap.size w w' := by
  have hp := parseF_parts (l.take 512) (hb.take 512)
  refine win_walk A l.length c s w (formedF l) (selF s).1 (selF s).2.2 (selF s).2.1 (parseF (l.take 512)).1 (parseF (l.take 512)).2 ?_ ?_ ?_ (selF_lt s) formed_spec hc hp.1 hp.2
  · intro W hW
    refine (block_Formed.calls A c l _ W (Kd.C_below hC hW) hc (formed_eq l hl)).mono ?_
    rintro e w' ⟨rfl, hd⟩
    exact ⟨rfl, hd.below⟩
  · intro W
    exact select_calls s W hs
  · intro W hW hf h0
    have hf2 := formed_spec hf
    have hn : 512 ≤ l.length := by omega
    have hll : (l.take 512).length = 512 := by rw [List.length_take]; omega
    have h2 := parse_calls A c (l.take 512) W (by rw [hll]; exact C_take (Kd.C_below hC hW) 512 hn) (by omega)
    rw [hll] at h2
    exact h2
/-! the fixed fact -/
def ps0 : List Part := [(0, 0), (2, 3), (0, 0), (0, 0), (0, 0), (0, 0), (0, 0), (0, 0)]
theorem ps0_parts : Parts ps0 := fun p hp => by
  simp only [ps0, List.mem_cons, List.not_mem_nil, or_false] at hp
  rcases hp with rfl | rfl | rfl | rfl | rfl | rfl | rfl | rfl <;> exact ⟨⟨by decide, by decide⟩, ⟨by decide, by decide⟩⟩
theorem ps0_make : makeF ps0 = (labelF ps0, 0) := rfl
theorem sel_b : selF ⟨#[98]⟩ = (1, ⟨#[]⟩, 0) := by kernel_rfl
theorem win0 : winF (labelF ps0 ++ zerosL 3584) ⟨#[98]⟩ = (1024, 1536, 0) := by
  have hl : (labelF ps0 ++ zerosL 3584).length = 4096 := by rw [List.length_append, labelF_len ps0 rfl, zerosL_len]
  unfold winF
  rw [List.take_left' (labelF_len ps0 rfl), parse_label ps0 rfl ps0_parts, sel_b, show formedF (labelF ps0 ++ zerosL 3584) = true by unfold formedF; rw [hl]; decide, hl]
  decide
set_option maxHeartbeats 4000000 in
set_option maxRecDepth 100000 in
theorem alive_calls (w : World) : Calls Try.prog 9 #[] w fun e w' => e = .returned (.bool true) ∧ Below w.heap.size w w' := by
  have HM := Aside0.mk (show ∀ W : World, Calls Try.prog 10 #[.agg #[.int .u32 0, .int .u32 0, .int .u32 2, .int .u32 3, .int .u32 0, .int .u32 0, .int .u32 0, .int .u32 0, .int .u32 0, .int .u32 0, .int .u32 0, .int .u32 0, .int .u32 0, .int .u32 0, .int .u32 0, .int .u32 0]] W (fun e w' => ∃ v : Value, e = .returned (.tuple #[v, .int .i64 0]) ∧ Kd.R (Kd.int .u8) 5 w' W.heap.size (fun _ => True) v (labelF ps0) ∧ Below W.heap.size W w') from fun W => make_calls ps0 W rfl)
  obtain ⟨L, hL⟩ : ∃ L, L = labelF ps0 := ⟨_, rfl⟩
  obtain ⟨D, hD⟩ : ∃ D, D = L ++ zerosL 3584 := ⟨_, rfl⟩
  have HLl := Aside0.mk (show L.length = 512 by rw [hL]; exact labelF_len ps0 rfl)
  have HDl := Aside0.mk (show D.length = 4096 by rw [hD, List.length_append, HLl.out, zerosL_len])
  have HD := Aside0.mk (show L ++ List.replicate (3584 : Int).toNat 0 = D from hD.symm)
  have HDB := Aside0.mk (show Bytes D by rw [hD, hL]; exact (labelF_bytes ps0).append (zerosL_bytes _))
  have HWi := Aside0.mk (show winF D ⟨#[98]⟩ = (1024, 1536, 0) by rw [hD, hL]; exact win0)
  have HWd := Aside0.mk (show ∀ (A : Option Addr) (c : Nat) (W : World), Kd.C (Kd.int .u8) W A 4096 D → 4096 ≤ c → Calls Try.prog 18 #[.slice A 4096 c, .string ⟨#[98]⟩] W (fun e w' => e = .returned (.tuple #[.int .i64 1024, .int .i64 1536, .int .i64 0]) ∧ Below W.heap.size W w') from fun A c W h h2 => by
    have h3 := window_calls A c D ⟨#[98]⟩ W (by rw [HDl.out]; exact h) (by rw [HDl.out]; exact h2) (by rw [HDl.out]; decide) HDB.out (by decide)
    rw [HDl.out, HWi.out] at h3
    exact h3)
  rw [← hL] at HM
  clear hL hD HDB HWi
  go_enter Try.func9, Try.ntmps9
  go_wp2_with (first
    | (go_at_call 10; (with_reducible refine (HM.out _).mono ?_); rintro e w1 ⟨v1, rfl, hR, hb⟩; have HO := Aside0.mk hR; have HB := Aside0.mk hb; clear hR hb)
    | ((with_reducible refine gate_dst (N := 14) rfl ?_); refine Kd.R_append_zeros (Kd.int .u8) (w0 := w) w.heap.size rfl (.tmp 13) (.const (.int .i64 3584)) 27 3 5 (.int .u8 0) 1 rfl Try.underlying27 Try.underlying3 info5s rfl (by decide) (by decide) v1 L 0 3584 (fun _ => True) rfl rfl rfl (fun _ _ => trivial) HO.out (by decide) HB.out (below_size HB.out) (by rw [HLl.out]; decide) ?_; intro v2 w2 h2 hb2 _ _; have HO2 := Aside0.mk (show Kd.R (Kd.int .u8) 5 w2 w.heap.size (fun _ => True) v2 D from HD.out ▸ h2); have HB2 := Aside0.mk hb2; obtain ⟨A2, c2, hv2, hc2, hC2⟩ := Kd.R_reads HO2.out; rw [HDl.out] at hv2 hc2 hC2; obtain rfl := hv2; have HC2 := Aside0.mk hC2; have HCC := Aside0.mk hc2; clear h2 hb2 hC2 hc2)
    | (go_at_call 18; (with_reducible refine (HWd.out _ _ _ HC2.out HCC.out).mono ?_); rintro e w3 ⟨rfl, hb⟩; have HB3 := Aside0.mk (below_step HB2.out hb); clear hb))
  go_ret
  exact ⟨rfl, HB3.out⟩
end Go.Proofs.Ytnbomjfpnpmllaa.Q
end
section
namespace Go.Proofs.Ytnbomjfpnpmllaa.Q
open Go.RowKit Go.Proofs.YtnbomjfpnpmllaaW.PrintWords Go.Proofs.YtnbomjfpnpmllaaW.PrintLast Go.Proofs.YtnbomjfpnpmllaaW.PrintMore
set_option linter.unusedVariables false
set_option linter.unusedSimpArgs false

attribute [local go_sem] max2_int min2_int max_two min_two max_three min_three max_four min_four
/-! ### tinderref21_Select: function 16 -/
def tinderref21_Select.j0 : Nat → ByteArray → Bool → Option (Int × ByteArray × Int)
  | 0, _, _ => none
  | k + 1, x0, x24 => if x24 = true then (some (0, (⟨#[]⟩ : ByteArray), 15)) else (if (x0.size : Int) > 2 then (if 0 < (x0.size : Int) then (if 2 ≤ (x0.size : Int) then (some (((bt x0 0) - 97) % 256, x0.extract 2 x0.size, 0)) else (none)) else (none)) else (if 0 < (x0.size : Int) then (some (((bt x0 0) - 97) % 256, (⟨#[]⟩ : ByteArray), 0)) else (none)))
def tinderref21_Select.f (k : Nat) (a0 : ByteArray) : Option (Int × ByteArray × Int) := if a0.toList = ([] : List UInt8) then (some ((-1), (⟨#[]⟩ : ByteArray), 0)) else (if 0 < (a0.size : Int) then (if (bt a0 0) < 97 then (tinderref21_Select.j0 k a0 true) else (if (bt a0 0) > 104 then (tinderref21_Select.j0 k a0 true) else (if (a0.size : Int) > 1 then (if 1 < (a0.size : Int) then (tinderref21_Select.j0 k a0 ((bt a0 1) != 44)) else (none)) else (tinderref21_Select.j0 k a0 false)))) else (none))
theorem tinderref21_Select.mono_l : ∀ k, (∀ y0 y1, LeO (tinderref21_Select.j0 k y0 y1) (tinderref21_Select.j0 (k + 1) y0 y1))
  | 0 => fun _ _ r h => by simp [tinderref21_Select.j0] at h
  | k + 1 => by
    have ih0 := tinderref21_Select.mono_l k
    · intro y0 y1
      unfold tinderref21_Select.j0
      repeat' first
      | (with_reducible exact ih0 _ _)
      | (with_reducible exact LeO.refl _)
      | (with_reducible exact LeO.none _)
      | (with_reducible refine LeO.ite ?_ ?_)
      | (with_reducible refine LeO.bind ?_ (fun _ => ?_))
      | exact ih0 _ _
      | exact LeO.none _
      | refine LeO.ite ?_ ?_
      | refine LeO.bind ?_ (fun _ => ?_)
theorem tinderref21_Select.mono : ∀ a0 k, LeO (tinderref21_Select.f k a0) (tinderref21_Select.f (k + 1) a0) := by
  intro a0 k
  have ih0 := tinderref21_Select.mono_l k
  unfold tinderref21_Select.f
  repeat' first
      | (with_reducible exact ih0 _ _)
      | (with_reducible exact LeO.refl _)
      | (with_reducible exact LeO.none _)
      | (with_reducible refine LeO.ite ?_ ?_)
      | (with_reducible refine LeO.bind ?_ (fun _ => ?_))
      | exact ih0 _ _
      | exact LeO.none _
      | refine LeO.ite ?_ ?_
      | refine LeO.bind ?_ (fun _ => ?_)
set_option maxHeartbeats 8000000 in
set_option maxRecDepth 100000 in
theorem tinderref21_Select.calls (k : Nat) (a0 : ByteArray) (r1 : Int) (r2 : ByteArray) (r3 : Int) (w : World) (h : tinderref21_Select.f k a0 = some (r1, r2, r3)) :
    Calls Try.prog 16 #[.string a0] w fun e w' => e = .returned (.tuple #[.int .i64 r1, .string r2, .int .i64 r3]) ∧ Drawn0 w w' := by
  have H : (if a0.toList = ([] : List UInt8) then (some ((-1), (⟨#[]⟩ : ByteArray), 0)) else (if 0 < (a0.size : Int) then (if (bt a0 0) < 97 then (tinderref21_Select.j0 k a0 true) else (if (bt a0 0) > 104 then (tinderref21_Select.j0 k a0 true) else (if (a0.size : Int) > 1 then (if 1 < (a0.size : Int) then (tinderref21_Select.j0 k a0 ((bt a0 1) != 44)) else (none)) else (tinderref21_Select.j0 k a0 false)))) else (none))) = some (r1, r2, r3) := h
  clear h
  by_cases c2 : a0.toList = ([] : List UInt8)
  · rw [if_pos c2] at H
    have c2b0 : (a0.toList == ([] : List UInt8)) = true := beq_iff_eq.mpr c2
    have c2b1 : (a0.toList != ([] : List UInt8)) = false := bne_eq_false_iff_eq.mpr c2
    clear c2
    simp only [Option.some.injEq, Prod.mk.injEq] at H
    obtain ⟨rfl, rfl, rfl⟩ := H
    go_enter Try.func16, Try.ntmps16
    go_wp2
    repeat (go_quiet (fail); try go_wp2)
    go_ret3
    exact ⟨by first | rfl | (simp; done) | (simp [*]; done), by repeat (first | exact Drawn0.refl _ | apply Drawn0.step)⟩
  · rw [if_neg c2] at H
    have c2b0 : (a0.toList == ([] : List UInt8)) = false := beq_eq_false_iff_ne.mpr c2
    have c2b1 : (a0.toList != ([] : List UInt8)) = true := bne_iff_ne.mpr c2
    have HC3 := Aside0.mk H
    clear H
    go_enter Try.func16, Try.ntmps16
    go_upto_region 3 with (fail)
    repeat (go_quiet (fail); go_upto_region 3 with (fail))
    go_cut [24] (fun v24 wc => ∃ (kq : Nat) (x24_2 : Bool), v24 = .bool x24_2 ∧ Aside0 (tinderref21_Select.j0 kq a0 x24_2 = some (r1, r2, r3)) ∧ Aside0 (kq ≤ k) ∧ Drawn0 w wc)
    case first =>
      have H := HC3.out
      clear HC3
      by_cases c4 : 0 < (a0.size : Int)
      · rw [if_pos c4] at H
        have c4b0 : decide (0 < (a0.size : Int)) = true := decide_eq_true c4
        have c4b1 : decide (0 < a0.size) = true := decide_eq_true (by omega)
        clear c4
        (first | rw [c4b0] | (simp only [i64_w, i32_w]; rw [c4b0]) | skip)
        by_cases c6 : (bt a0 0) < 97
        · rw [if_pos c6] at H
          have c6b0 : decide ((bt a0 0) < 97) = true := decide_eq_true c6
          clear c6
          have H' := Aside0.mk H
          clear H
          have p5 : 0 ≤ (0 : Int) := (by omega)
          have q5 : 0 < a0.size := (by have : (0 : Int) < (a0.size : Int) := of_decide_eq_true (by first | (with_reducible assumption) | assumption); omega)
          have hx5 : ∀ h : 0 < a0.size, ((a0[0]'h).toNat : Int) = bt a0 0 := bt_at a0 0
          clear p5
          have qi5 : (0 < (a0.size : Int)) = True := eq_true (of_decide_eq_true (by first | (with_reducible assumption) | assumption))
          replace q5 := eq_true q5
          go_wp2
          repeat (go_quiet (fail); try go_wp2)
          go_meet
          case rel => exact ⟨_, (true), (by first | rfl | (simp; done) | (simp [*]; done)), H', ⟨by first | omega | exact Nat.le_refl _⟩, by repeat (first | exact Drawn0.refl _ | apply Drawn0.step)⟩
        · rw [if_neg c6] at H
          have c6b0 : decide ((bt a0 0) < 97) = false := decide_eq_false c6
          clear c6
          by_cases c8 : (bt a0 0) > 104
          · rw [if_pos c8] at H
            have c8b0 : decide (104 < (bt a0 0)) = true := decide_eq_true c8
            clear c8
            have H' := Aside0.mk H
            clear H
            have p5 : 0 ≤ (0 : Int) := (by omega)
            have q5 : 0 < a0.size := (by have : (0 : Int) < (a0.size : Int) := of_decide_eq_true (by first | (with_reducible assumption) | assumption); omega)
            have hx5 : ∀ h : 0 < a0.size, ((a0[0]'h).toNat : Int) = bt a0 0 := bt_at a0 0
            clear p5
            have qi5 : (0 < (a0.size : Int)) = True := eq_true (of_decide_eq_true (by first | (with_reducible assumption) | assumption))
            replace q5 := eq_true q5
            have p7 : 0 ≤ (0 : Int) := (by omega)
            have q7 : 0 < a0.size := (by have : (0 : Int) < (a0.size : Int) := of_decide_eq_true (by first | (with_reducible assumption) | assumption); omega)
            have hx7 : ∀ h : 0 < a0.size, ((a0[0]'h).toNat : Int) = bt a0 0 := bt_at a0 0
            clear p7
            have qi7 : (0 < (a0.size : Int)) = True := eq_true (of_decide_eq_true (by first | (with_reducible assumption) | assumption))
            replace q7 := eq_true q7
            go_wp2
            repeat (go_quiet (fail); try go_wp2)
            go_meet
            case rel => exact ⟨_, (true), (by first | rfl | (simp; done) | (simp [*]; done)), H', ⟨by first | omega | exact Nat.le_refl _⟩, by repeat (first | exact Drawn0.refl _ | apply Drawn0.step)⟩
          · rw [if_neg c8] at H
            have c8b0 : decide (104 < (bt a0 0)) = false := decide_eq_false c8
            clear c8
            by_cases c9 : (a0.size : Int) > 1
            · rw [if_pos c9] at H
              have c9b0 : decide (1 < (a0.size : Int)) = true := decide_eq_true c9
              have c9b1 : decide (1 < a0.size) = true := decide_eq_true (by omega)
              clear c9
              by_cases c10 : 1 < (a0.size : Int)
              · rw [if_pos c10] at H
                have c10b0 : decide (1 < (a0.size : Int)) = true := decide_eq_true c10
                have c10b1 : decide (1 < a0.size) = true := decide_eq_true (by omega)
                clear c10
                have H' := Aside0.mk H
                clear H
                have p5 : 0 ≤ (0 : Int) := (by omega)
                have q5 : 0 < a0.size := (by have : (0 : Int) < (a0.size : Int) := of_decide_eq_true (by first | (with_reducible assumption) | assumption); omega)
                have hx5 : ∀ h : 0 < a0.size, ((a0[0]'h).toNat : Int) = bt a0 0 := bt_at a0 0
                clear p5
                have qi5 : (0 < (a0.size : Int)) = True := eq_true (of_decide_eq_true (by first | (with_reducible assumption) | assumption))
                replace q5 := eq_true q5
                have p7 : 0 ≤ (0 : Int) := (by omega)
                have q7 : 0 < a0.size := (by have : (0 : Int) < (a0.size : Int) := of_decide_eq_true (by first | (with_reducible assumption) | assumption); omega)
                have hx7 : ∀ h : 0 < a0.size, ((a0[0]'h).toNat : Int) = bt a0 0 := bt_at a0 0
                clear p7
                have qi7 : (0 < (a0.size : Int)) = True := eq_true (of_decide_eq_true (by first | (with_reducible assumption) | assumption))
                replace q7 := eq_true q7
                have p11 : 0 ≤ (1 : Int) := (by omega)
                have q11 : 1 < a0.size := (by have : (1 : Int) < (a0.size : Int) := of_decide_eq_true (by first | (with_reducible assumption) | assumption); omega)
                have hx11 : ∀ h : 1 < a0.size, ((a0[1]'h).toNat : Int) = bt a0 1 := bt_at a0 1
                clear p11
                have qi11 : (1 < (a0.size : Int)) = True := eq_true (of_decide_eq_true (by first | (with_reducible assumption) | assumption))
                replace q11 := eq_true q11
                go_wp2
                repeat (go_quiet (fail); try go_wp2)
                go_meet
                case rel => exact ⟨_, (((bt a0 1) != 44)), (by first | rfl | (simp; done) | (simp [*]; done)), H', ⟨by first | omega | exact Nat.le_refl _⟩, by repeat (first | exact Drawn0.refl _ | apply Drawn0.step)⟩
              · rw [if_neg c10] at H
                exact absurd H (by simp)
            · rw [if_neg c9] at H
              have c9b0 : decide (1 < (a0.size : Int)) = false := decide_eq_false c9
              have c9b1 : decide (1 < a0.size) = false := decide_eq_false (by omega)
              clear c9
              have H' := Aside0.mk H
              clear H
              have p5 : 0 ≤ (0 : Int) := (by omega)
              have q5 : 0 < a0.size := (by have : (0 : Int) < (a0.size : Int) := of_decide_eq_true (by first | (with_reducible assumption) | assumption); omega)
              have hx5 : ∀ h : 0 < a0.size, ((a0[0]'h).toNat : Int) = bt a0 0 := bt_at a0 0
              clear p5
              have qi5 : (0 < (a0.size : Int)) = True := eq_true (of_decide_eq_true (by first | (with_reducible assumption) | assumption))
              replace q5 := eq_true q5
              have p7 : 0 ≤ (0 : Int) := (by omega)
              have q7 : 0 < a0.size := (by have : (0 : Int) < (a0.size : Int) := of_decide_eq_true (by first | (with_reducible assumption) | assumption); omega)
              have hx7 : ∀ h : 0 < a0.size, ((a0[0]'h).toNat : Int) = bt a0 0 := bt_at a0 0
              clear p7
              have qi7 : (0 < (a0.size : Int)) = True := eq_true (of_decide_eq_true (by first | (with_reducible assumption) | assumption))
              replace q7 := eq_true q7
              go_wp2
              repeat (go_quiet (fail); try go_wp2)
              go_meet
              case rel => exact ⟨_, (false), (by first | rfl | (simp; done) | (simp [*]; done)), H', ⟨by first | omega | exact Nat.le_refl _⟩, by repeat (first | exact Drawn0.refl _ | apply Drawn0.step)⟩
      · rw [if_neg c4] at H
        exact absurd H (by simp)
    case rest =>
      clear HC3
      try clear c1
      try clear p1
      try clear q1
      try clear hx1
      try clear qi1
      try clear c2
      try clear c2b0
      try clear c2b1
      try clear p2
      try clear c4
      try clear c4b0
      try clear c4b1
      try clear p5
      try clear q5
      try clear hx5
      try clear qi5
      try clear c6
      try clear c6b0
      try clear p7
      try clear q7
      try clear hx7
      try clear qi7
      try clear c8
      try clear c8b0
      try clear c9
      try clear c9b0
      try clear c9b1
      try clear c10
      try clear c10b0
      try clear c10b1
      try clear p11
      try clear q11
      try clear hx11
      try clear qi11
      try clear p11
      try clear p5
      try clear p7
      try clear q11
      try clear q5
      try clear q7
      obtain ⟨kq, x24_2, rfl, HA, HJ2, ⟨mc2, rfl⟩⟩ := hcut
      cases kq with
      | zero => exact absurd HA.out (by simp [tinderref21_Select.j0])
      | succ kj2 =>
        have H := HA.out
        clear HA
        simp only [tinderref21_Select.j0] at H
        by_cases c12 : x24_2 = true
        · subst c12
          have H1 : (some (0, (⟨#[]⟩ : ByteArray), 15)) = some (r1, r2, r3) := by rw [if_pos rfl] at H; exact H
          clear H
          have H := H1
          clear H1
          simp only [Option.some.injEq, Prod.mk.injEq] at H
          obtain ⟨rfl, rfl, rfl⟩ := H
          go_wp2
          repeat (go_quiet (fail); try go_wp2)
          go_ret3
          exact ⟨by first | rfl | (simp; done) | (simp [*]; done), by repeat (first | exact Drawn0.refl _ | apply Drawn0.step)⟩
        · replace c12 := Bool.eq_false_iff.mpr c12
          subst c12
          have H1 : (if (a0.size : Int) > 2 then (if 0 < (a0.size : Int) then (if 2 ≤ (a0.size : Int) then (some (((bt a0 0) - 97) % 256, a0.extract 2 a0.size, 0)) else (none)) else (none)) else (if 0 < (a0.size : Int) then (some (((bt a0 0) - 97) % 256, (⟨#[]⟩ : ByteArray), 0)) else (none))) = some (r1, r2, r3) := by rw [if_neg (show ¬ (false = true) by decide)] at H; exact H
          clear H
          have H := H1
          clear H1
          by_cases c13 : (a0.size : Int) > 2
          · rw [if_pos c13] at H
            have c13b0 : decide (2 < (a0.size : Int)) = true := decide_eq_true c13
            have c13b1 : decide (2 < a0.size) = true := decide_eq_true (by omega)
            clear c13
            by_cases c14 : 0 < (a0.size : Int)
            · rw [if_pos c14] at H
              have c14b0 : decide (0 < (a0.size : Int)) = true := decide_eq_true c14
              have c14b1 : decide (0 < a0.size) = true := decide_eq_true (by omega)
              clear c14
              by_cases c16 : 2 ≤ (a0.size : Int)
              · rw [if_pos c16] at H
                have c16b0 := eq_true c16
                have c16b1 : decide (2 ≤ (a0.size : Int)) = true := decide_eq_true c16
                clear c16
                simp only [Option.some.injEq, Prod.mk.injEq] at H
                obtain ⟨rfl, rfl, rfl⟩ := H
                have p15 : 0 ≤ (0 : Int) := (by omega)
                have q15 : 0 < a0.size := (by have : (0 : Int) < (a0.size : Int) := of_decide_eq_true (by first | (with_reducible assumption) | assumption); omega)
                have hx15 : ∀ h : 0 < a0.size, ((a0[0]'h).toNat : Int) = bt a0 0 := bt_at a0 0
                clear p15
                have qi15 : (0 < (a0.size : Int)) = True := eq_true (of_decide_eq_true (by first | (with_reducible assumption) | assumption))
                replace q15 := eq_true q15
                go_wp2
                repeat (go_quiet (fail); try go_wp2)
                go_ret3
                exact ⟨by first | rfl | (simp; done) | (simp [*]; done), by repeat (first | exact Drawn0.refl _ | apply Drawn0.step)⟩
              · rw [if_neg c16] at H
                exact absurd H (by simp)
            · rw [if_neg c14] at H
              exact absurd H (by simp)
          · rw [if_neg c13] at H
            have c13b0 : decide (2 < (a0.size : Int)) = false := decide_eq_false c13
            have c13b1 : decide (2 < a0.size) = false := decide_eq_false (by omega)
            clear c13
            by_cases c17 : 0 < (a0.size : Int)
            · rw [if_pos c17] at H
              have c17b0 : decide (0 < (a0.size : Int)) = true := decide_eq_true c17
              have c17b1 : decide (0 < a0.size) = true := decide_eq_true (by omega)
              clear c17
              simp only [Option.some.injEq, Prod.mk.injEq] at H
              obtain ⟨rfl, rfl, rfl⟩ := H
              have p18 : 0 ≤ (0 : Int) := (by omega)
              have q18 : 0 < a0.size := (by have : (0 : Int) < (a0.size : Int) := of_decide_eq_true (by first | (with_reducible assumption) | assumption); omega)
              have hx18 : ∀ h : 0 < a0.size, ((a0[0]'h).toNat : Int) = bt a0 0 := bt_at a0 0
              clear p18
              have qi18 : (0 < (a0.size : Int)) = True := eq_true (of_decide_eq_true (by first | (with_reducible assumption) | assumption))
              replace q18 := eq_true q18
              go_wp2
              repeat (go_quiet (fail); try go_wp2)
              go_ret3
              exact ⟨by first | rfl | (simp; done) | (simp [*]; done), by repeat (first | exact Drawn0.refl _ | apply Drawn0.step)⟩
            · rw [if_neg c17] at H
              exact absurd H (by simp)

end Go.Proofs.Ytnbomjfpnpmllaa.Q
end
section
set_option linter.unusedSimpArgs false
set_option linter.unusedVariables false
namespace Go.Proofs.Ytnbomjfpnpmllaa.Q
open Go.RowKit Go.Proofs.YtnbomjfpnpmllaaW.PrintWords Go.Proofs.YtnbomjfpnpmllaaW.PrintLast Go.Proofs.YtnbomjfpnpmllaaW.PrintMore
theorem strOf_inj {a b : List Int} (ha : Bytes a) (hb : Bytes b) (h : strOfNums a = strOfNums b) : a = b := by
  have h2 : (strOfNums a).data.toList = (strOfNums b).data.toList := by rw [h]
  rw [strOfNums_data, strOfNums_data] at h2
  apply List.ext_getElem?
  intro i
  have h3 := congrArg (fun l => l[i]?) h2
  simp only [List.getElem?_map] at h3
  cases hx : a[i]? with
  | none => rw [hx] at h3; cases hy : b[i]? with
    | none => rfl
    | some y => rw [hy] at h3; simp at h3
  | some x => rw [hx] at h3; cases hy : b[i]? with
    | none => rw [hy] at h3; simp at h3
    | some y =>
      rw [hy] at h3
      simp only [Option.map_some, Option.some.injEq] at h3
      have h4 := congrArg UInt8.toNat h3
      have bx := ha x (List.mem_of_getElem? hx)
      have by' := hb y (List.mem_of_getElem? hy)
      rw [UInt8.toNat_ofNat', UInt8.toNat_ofNat'] at h4
      have : x = y := by omega
      rw [this]
theorem rd_take (l : List Int) (n : Nat) (i : Int) (hi : i.toNat < n) : rd (l.take n) i = rd l i := by
  unfold rd
  rw [List.getD_eq_getElem?_getD, List.getElem?_take, if_pos hi, ← List.getD_eq_getElem?_getD]
theorem rd_drop (l : List Int) (n : Nat) (i : Int) (h0 : 0 ≤ i) : rd (l.drop n) i = rd l (n + i) := by
  unfold rd
  rw [List.getD_eq_getElem?_getD, List.getElem?_drop, ← List.getD_eq_getElem?_getD, show ((n : Int) + i).toNat = n + i.toNat by omega]
theorem parts_eq (l : List Int) (h : l.length = 512) (hb : Bytes l) : partsN l = partsB l := by
  unfold partsN partsB
  refine List.map_congr_left fun i hi => ?_
  have hi8 := List.mem_range.1 hi
  rw [partsN_of l h i hi8]
  have hv : ∀ m, 4 * m + 4 ≤ 64 → numF (fourAt (l.take 64) m) = numB (l.drop (4 * m)) := fun m hm => by
    have hf : ∀ j : Int, 0 ≤ j → j < 4 → rd (fourAt (l.take 64) m) j = rd (l.drop (4 * m)) j := fun j h0 h4 => by
      unfold fourAt
      rw [rd_take _ _ _ (by omega), rd_drop _ _ _ h0, rd_take _ _ _ (by omega), rd_drop _ _ _ h0]
    rw [numF_eq (fourAt (l.take 64) m) (((hb.take 64).drop _).take _), numB_eq _ (hb.drop _), hf 0 (by omega) (by omega), hf 1 (by omega) (by omega), hf 2 (by omega) (by omega), hf 3 (by omega) (by omega)]
  unfold partB
  rw [hv (2 * i) (by omega), hv (2 * i + 1) (by omega), show 4 * (2 * i) = 8 * i by omega, show 4 * (2 * i + 1) = 8 * i + 4 by omega]
theorem head_of (l : List Int) (hb : Bytes l) : ∀ n, 8 * n ≤ l.length → headF ((List.range n).map (partB l)) = l.take (8 * n)
  | 0, _ => by simp [headF]
  | n + 1, h => by
    have ih := head_of l hb n (by omega)
    have e : headF ((List.range (n + 1)).map (partB l)) = headF ((List.range n).map (partB l)) ++ (fourF (numB (l.drop (8 * n))) ++ fourF (numB (l.drop (8 * n + 4)))) := by
      rw [List.range_succ, List.map_append]
      unfold headF
      rw [List.flatMap_append]
      simp [partB]
    rw [e, ih, four_numB _ (hb.drop _) (by rw [List.length_drop]; omega), four_numB _ (hb.drop _) (by rw [List.length_drop]; omega)]
    apply List.ext_getElem?
    intro i
    have l1 : (l.take (8 * n)).length = 8 * n := by rw [List.length_take]; omega
    have l2 : ((l.drop (8 * n)).take 4).length = 4 := by rw [List.length_take, List.length_drop]; omega
    rw [List.getElem?_append, l1]
    by_cases h1 : i < 8 * n
    · rw [if_pos h1, List.getElem?_take, if_pos h1, List.getElem?_take, if_pos (by omega)]
    · rw [if_neg h1, List.getElem?_append, l2]
      by_cases h2 : i - 8 * n < 4
      · rw [if_pos h2, List.getElem?_take, if_pos h2, List.getElem?_drop, List.getElem?_take, if_pos (by omega), show 8 * n + (i - 8 * n) = i by omega]
      · rw [if_neg h2]
        by_cases h3 : i < 8 * (n + 1)
        · rw [List.getElem?_take, if_pos (by omega), List.getElem?_drop, List.getElem?_take, if_pos h3, show 8 * n + 4 + (i - 8 * n - 4) = i by omega]
        · rw [List.getElem?_take, if_neg (by omega), List.getElem?_take, if_neg h3]
theorem zeros_of (l : List Int) (h : anyNZ l = false) : l = zerosL l.length := by
  unfold zerosL
  refine List.eq_replicate_iff.2 ⟨rfl, fun a ha => ?_⟩
  unfold anyNZ at h
  have := List.any_eq_false.1 h a ha
  simpa using this
theorem label_of_good (l : List Int) (hl : l.length = 512) (hb : Bytes l) (hg : goodF l = true) : labelF (partsB l) = l := by
  unfold goodF at hg
  simp only [Bool.and_eq_true, decide_eq_true_eq, Bool.not_eq_true'] at hg
  obtain ⟨⟨⟨h1, h2⟩, h3⟩, h4⟩ := hg
  have hz := zeros_of _ h4
  have e444 : ((l.drop 64).take 444).length = 444 := by rw [List.length_take, List.length_drop]; omega
  rw [e444] at hz
  have hd : l.drop 508 = [rd l 508, rd l 509, rd l 510, rd l 511] := by
    have hdl : (l.drop 508).length = 4 := by rw [List.length_drop]; omega
    have r0 := rd_drop l 508 0 (by omega)
    have r1 := rd_drop l 508 1 (by omega)
    have r2 := rd_drop l 508 2 (by omega)
    have r3 := rd_drop l 508 3 (by omega)
    rw [show ((508 : Nat) : Int) + 0 = 508 by rfl] at r0
    rw [show ((508 : Nat) : Int) + 1 = 509 by rfl] at r1
    rw [show ((508 : Nat) : Int) + 2 = 510 by rfl] at r2
    rw [show ((508 : Nat) : Int) + 3 = 511 by rfl] at r3
    rw [← r0, ← r1, ← r2, ← r3]
    match l.drop 508, hdl with
    | [a, b, c, d], _ => rfl
  have hY : bodyF (partsB l) = l.take 64 ++ zerosL 444 ++ [218, 190] := by
    rw [bodyF_eq _ (partsB_len l)]
    unfold partsB
    rw [head_of l hb 8 (by omega)]
  have hll : l = (l.take 64 ++ zerosL 444 ++ [218, 190]) ++ [rd l 510, rd l 511] := by
    conv => lhs; rw [← List.take_append_drop 64 l, ← List.take_append_drop 444 (l.drop 64), hz, List.drop_drop, show 64 + 444 = 508 from rfl, hd, h2, h3]
    simp only [List.append_assoc]
    rfl
  have hY510 : (bodyF (partsB l)).length = 510 := bodyF_len _ (partsB_len l)
  rw [← hY] at hll
  have hx : crossF l = (xorB (crossF (bodyF (partsB l))).1 (rd l 510), xorB (crossF (bodyF (partsB l))).2 (rd l 511)) := by
    conv => lhs; rw [hll]
    exact cross_snoc _ _ _ hY510
  rw [h1] at hx
  have hc := crossAt_isB (bodyF_bytes (partsB l)) (bodyF (partsB l)).length
  have e1 := xorB_eq hc.1 (rd_isB hb 510) (Prod.ext_iff.1 hx).1.symm
  have e2 := xorB_eq hc.2 (rd_isB hb 511) (Prod.ext_iff.1 hx).2.symm
  unfold labelF
  conv => rhs; rw [hll, e1, e2]
  rfl
theorem parse_ref (l : List Int) (hb : Bytes l) : refParseF l = parseF l := by
  unfold refParseF parseF
  by_cases hl : l.length = 512
  · rw [if_pos hl, if_pos hl]
    by_cases hg : goodF l = true
    · rw [if_pos hg, label_of_good l hl hb hg, if_pos rfl, parts_eq l hl hb]
    · rw [if_neg hg, if_neg]
      intro h
      refine hg ?_
      rw [← strOf_inj (labelF_bytes (partsB l)) hb h]
      exact labelF_good _ (partsB_len l)
  · rw [if_neg hl, if_neg hl]
/-! one byte -/
theorem set_getD (l : List Int) (k i : Nat) (v : Int) (hk : k < l.length) : (l.set k v).getD i 0 = if i = k then v else l.getD i 0 := by
  rw [List.getD_eq_getElem?_getD, List.getElem?_set]
  split
  · rename_i h
    subst h
    simp [hk]
  · rename_i h
    rw [if_neg (fun e => h e.symm), List.getD_eq_getElem?_getD]
theorem cross_set (l : List Int) (hb : Bytes l) (k : Nat) (hk : k < l.length) (t : Int) (ht : IsB t) : ∀ i, crossAt (l.set k (xorB (l.getD k 0) t)) i = if i ≤ k then crossAt l i else if k % 2 = 0 then (xorB (crossAt l i).1 t, (crossAt l i).2) else ((crossAt l i).1, xorB (crossAt l i).2 t)
  | 0 => rfl
  | i + 1 => by
    have ih := cross_set l hb k hk t ht i
    have hi := crossAt_isB hb i
    have hg := getD_isB hb i
    have hs := set_getD l k i (xorB (l.getD k 0) t) hk
    rcases Nat.lt_trichotomy i k with h | h | h
    · rw [if_pos (show i ≤ k by omega)] at ih
      rw [if_neg (show ¬ i = k by omega)] at hs
      rw [if_pos (show i + 1 ≤ k by omega)]
      by_cases h3 : i % 2 = 0
      · rw [cross_even _ i h3, cross_even _ i h3, ih, hs]
      · rw [cross_odd _ i h3, cross_odd _ i h3, ih, hs]
    · subst h
      rw [if_pos (Nat.le_refl _)] at ih
      rw [if_pos rfl] at hs
      rw [if_neg (show ¬ i + 1 ≤ i by omega)]
      by_cases h3 : i % 2 = 0
      · rw [cross_even _ i h3, cross_even _ i h3, ih, hs, if_pos h3, xorB_assoc3 hi.1 ht hg]
      · rw [cross_odd _ i h3, cross_odd _ i h3, ih, hs, if_neg h3, xorB_assoc3 hi.2 ht hg]
    · rw [if_neg (show ¬ i ≤ k by omega)] at ih
      rw [if_neg (show ¬ i = k by omega)] at hs
      rw [if_neg (show ¬ i + 1 ≤ k by omega)]
      by_cases h3 : i % 2 = 0
      · rw [cross_even _ i h3, cross_even _ i h3, ih, hs]
        by_cases h4 : k % 2 = 0
        · rw [if_pos h4, if_pos h4]
          exact Prod.ext (xorB_comm3 hi.1 ht hg) rfl
        · rw [if_neg h4, if_neg h4]
      · rw [cross_odd _ i h3, cross_odd _ i h3, ih, hs]
        by_cases h4 : k % 2 = 0
        · rw [if_pos h4, if_pos h4]
        · rw [if_neg h4, if_neg h4]
          exact Prod.ext rfl (xorB_comm3 hi.2 ht hg)
theorem tell_label (l : List Int) (hb : Bytes l) (hl : l.length = 512) (hg : goodF l = true) (k : Nat) (hk : k < 512) (t : Int) (ht : IsB t) (hne : t ≠ 0) : (parseF (l.set k (xorB (l.getD k 0) t))).2 = 24 := by
  have hc : crossF l = (0, 0) := by
    unfold goodF at hg
    simp only [Bool.and_eq_true, decide_eq_true_eq] at hg
    exact hg.1.1.1
  unfold parseF
  rw [if_pos (by rw [List.length_set, hl]), if_neg]
  intro h
  unfold goodF at h
  simp only [Bool.and_eq_true, decide_eq_true_eq] at h
  have h1 := h.1.1.1
  unfold crossF at h1 hc
  rw [List.length_set, hl, cross_set l hb k (by omega) t ht 512, if_neg (by omega)] at h1
  rw [hl] at hc
  rw [hc] at h1
  split at h1
  · have := (Prod.ext_iff.1 h1).1
    rw [show xorB (0, (0 : Int)).1 t = t from xorB_zero ht] at this
    exact hne this
  · have := (Prod.ext_iff.1 h1).2
    rw [show xorB ((0 : Int), (0 : Int)).2 t = t from xorB_zero ht] at this
    exact hne this
/-! Select -/
theorem str_len (s : ByteArray) : s.data.toList.length = s.size := Array.length_toList
theorem bt_list (s : ByteArray) (i : Nat) : bt s i = ((s.data.toList.getD i 0).toNat : Int) := by
  unfold bt
  rw [List.getD_eq_getElem?_getD]
  by_cases h : i < s.size
  · rw [dif_pos (by simpa using h), List.getElem?_eq_getElem (by rw [str_len]; exact h)]
    rfl
  · rw [dif_neg (by simpa using h), List.getElem?_eq_none (by rw [str_len]; omega)]
    rfl
theorem ext_list (s : ByteArray) (a b : Nat) : (s.extract a b).data.toList = (s.data.toList.drop a).take (b - a) := Go.Lib.extract_data s a b
theorem ext_size (s : ByteArray) (b : Nat) (h : b ≤ s.size) : (s.extract 0 b).size = b := by
  rw [← str_len, ext_list, List.drop_zero, List.length_take, str_len]; omega
theorem ext_bt (s : ByteArray) (b : Nat) (hb : 0 < b) : bt (s.extract 0 b) 0 = bt s 0 := by
  have e1 := bt_list (s.extract 0 b) 0
  have e2 := bt_list s 0
  rw [ext_list, List.drop_zero, List.getD_eq_getElem?_getD, List.getElem?_take, if_pos (by omega), ← List.getD_eq_getElem?_getD] at e1
  exact e1.trans e2.symm
theorem ext_nil (s : ByteArray) (a : Nat) (h : s.size ≤ a) : s.extract a s.size = ⟨#[]⟩ := by
  apply ByteArray.ext
  apply Array.ext'
  rw [ext_list, show s.size - a = 0 by omega, List.take_zero]
theorem comma_at (s : ByteArray) (i : Nat) (hi : i < s.size) : s.data.toList[i]? = some 44 ↔ bt s i = 44 := by
  rw [bt_list, List.getD_eq_getElem?_getD, List.getElem?_eq_getElem (by rw [str_len]; exact hi)]
  constructor
  · intro h
    rw [Option.some.inj h]
    rfl
  · intro h
    simp only [Option.getD_some] at h
    congr 1
    apply UInt8.toNat_inj.1
    have : (s.data.toList[i]).toNat = 44 := by omega
    rw [this]
    rfl
theorem j0_true (s : ByteArray) : tinderref21_Select.j0 5 s true = some (0, ⟨#[]⟩, 15) := rfl
theorem j0_false (s : ByteArray) : tinderref21_Select.j0 5 s false = (if (s.size : Int) > 2 then (if 0 < (s.size : Int) then (if 2 ≤ (s.size : Int) then (some (((bt s 0) - 97) % 256, s.extract 2 s.size, 0)) else (none)) else (none)) else (if 0 < (s.size : Int) then (some (((bt s 0) - 97) % 256, (⟨#[]⟩ : ByteArray), 0)) else (none))) := rfl
theorem refSel_eq (s : ByteArray) : tinderref21_Select.f 5 s = some (selF s) := by
  unfold tinderref21_Select.f selF
  by_cases h0 : s.size = 0
  · rw [if_pos ((empty_str s).2 h0), if_pos h0]
  · rw [if_neg (fun h => h0 ((empty_str s).1 h)), if_neg h0, if_pos (by omega)]
    have hb := bt_range s 0
    have hm : (97 ≤ bt s 0 ∧ bt s 0 ≤ 104) → (bt s 0 - 97) % 256 = bt s 0 - 97 := fun h => by omega
    have hge : -1 ≤ ixF s := Lib.indexByte_ge _ _
    by_cases hlo : bt s 0 < 97
    · rw [if_pos hlo]
      rw [j0_true, if_neg]
      rintro ⟨h1, h2, h3⟩
      by_cases hx : 0 ≤ ixF s
      · unfold letterF at h1 h2
        rw [if_pos hx] at h1 h2
        rw [ext_size _ _ (by have := ix_lt s hx; omega)] at h1
        rw [ext_bt _ _ (by omega)] at h2
        omega
      · unfold letterF at h2
        rw [if_neg hx] at h2
        omega
    · rw [if_neg hlo]
      by_cases hhi : bt s 0 > 104
      · rw [if_pos hhi]
        rw [j0_true, if_neg]
        rintro ⟨h1, h2, h3⟩
        by_cases hx : 0 ≤ ixF s
        · unfold letterF at h1 h3
          rw [if_pos hx] at h1 h3
          rw [ext_size _ _ (by have := ix_lt s hx; omega)] at h1
          rw [ext_bt _ _ (by omega)] at h3
          omega
        · unfold letterF at h3
          rw [if_neg hx] at h3
          omega
      · rw [if_neg hhi]
        have hm := hm (by omega)
        by_cases h1 : (s.size : Int) > 1
        · rw [if_pos h1, if_pos (by omega)]
          by_cases hc : bt s 1 = 44
          · have hx1 : ixF s = 1 := by
              have hc' := (comma_at s 1 (by omega)).2 hc
              by_cases hx : ixF s = -1
              · exact absurd hc' (Lib.indexByte_none hx 1)
              · obtain ⟨o, ho⟩ := Int.eq_ofNat_of_zero_le (show 0 ≤ ixF s by omega)
                have h2 := Lib.indexByte_some ho
                have ho1 : o ≤ 1 := by
                  rcases Nat.lt_or_ge 1 o with h3 | h3
                  · exact absurd hc' (h2.2 1 h3)
                  · exact h3
                have ho0 : o ≠ 0 := fun e => by
                  have h3 := (comma_at s 0 (by omega)).1 (e ▸ h2.1)
                  have : bt s ((0 : Nat) : Int) = bt s 0 := rfl
                  omega
                omega
            have hb1 : (bt s 1 != 44) = false := by rw [hc]; rfl
            rw [hb1, j0_false]
            have hL : letterF s = s.extract 0 1 := by unfold letterF; rw [hx1]; rfl
            have hRr : restF s = s.extract 2 s.size := by unfold restF; rw [hx1]; rfl
            by_cases h2 : (s.size : Int) > 2
            · rw [if_pos h2, if_pos (by omega), if_pos (by omega), hm, hL, hRr, ext_size _ _ (by omega), ext_bt _ _ (by decide), if_pos ⟨rfl, by omega, by omega⟩]
            · rw [if_neg h2, if_pos (by omega), hm, hL, hRr, ext_size _ _ (by omega), ext_bt _ _ (by decide), if_pos ⟨rfl, by omega, by omega⟩, ext_nil s 2 (by omega)]
          · have hb1 : (bt s 1 != 44) = true := bne_iff_ne.2 hc
            rw [hb1, j0_true, if_neg]
            rintro ⟨h2, _, _⟩
            unfold letterF at h2
            by_cases hx : 0 ≤ ixF s
            · rw [if_pos hx, ext_size _ _ (by have := ix_lt s hx; omega)] at h2
              have h3 := (Lib.indexByte_some (show Lib.indexByte s.data.toList 44 = ((1 : Nat) : Int) by show ixF s = _; omega)).1
              exact hc ((comma_at s 1 (by omega)).1 h3)
            · rw [if_neg hx] at h2
              omega
        · rw [if_neg h1]
          rw [j0_false, if_neg (by omega), if_pos (by omega), hm]
          have hx : ¬ 0 ≤ ixF s := fun hx => by
            have hlt := ix_lt s hx
            have h3 := (Lib.indexByte_some (show Lib.indexByte s.data.toList 44 = ((0 : Nat) : Int) by show ixF s = _; omega)).1
            have h4 := (comma_at s 0 (by omega)).1 h3
            have : bt s ((0 : Nat) : Int) = bt s 0 := rfl
            omega
          unfold letterF restF
          rw [if_neg hx, if_neg hx, if_pos ⟨by omega, by omega, by omega⟩]
end Go.Proofs.Ytnbomjfpnpmllaa.Q
end
section
set_option linter.unusedSimpArgs false
set_option linter.unusedVariables false
namespace Go.Proofs.Ytnbomjfpnpmllaa.Q
open Go.RowKit Go.Proofs.YtnbomjfpnpmllaaW.PrintWords Go.Proofs.YtnbomjfpnpmllaaW.PrintLast Go.Proofs.YtnbomjfpnpmllaaW.PrintMore
def bytesB (l : List Int) : Bool := l.all (fun a => decide (0 ≤ a) && decide (a < 256))
theorem bytesB_iff {l : List Int} : bytesB l = true ↔ Bytes l := by
  unfold bytesB Bytes
  rw [List.all_eq_true]
  constructor
  · intro h a ha
    have := h a ha
    simp at this
    exact this
  · intro h a ha
    have := h a ha
    simp [this]
def winOk (l : List Int) (s : ByteArray) : Prop := bytesB l = true ∧ l.length ≤ 140737488351232 ∧ s.size ≤ 140737488351232
instance (l : List Int) (s : ByteArray) : Decidable (winOk l s) := by unfold winOk; exact inferInstance
def label_Window.f (l0 : List Int) (a1 : ByteArray) : Option (Int × Int × Int) := if winOk l0 a1 then some (winF l0 a1) else none
theorem label_Window.calls (A0 : Option Addr) (c0 : Nat) (l0 : List Int) (a1 : ByteArray) (r1 r2 r3 : Int) (w : World) (hr0 : Kd.C (Kd.int .u8) w A0 l0.length l0) (hc0 : l0.length ≤ c0) (h : label_Window.f l0 a1 = some (r1, r2, r3)) :
    Calls Try.prog 18 #[.slice A0 l0.length c0, .string a1] w fun e w' => e = .returned (.tuple #[.int .i64 r1, .int .i64 r2, .int .i64 r3]) ∧ Below w.heap.size w w' := by
  unfold label_Window.f at h
  split at h
  · rename_i hb
    have e := Option.some.inj h
    have h2 := window_calls A0 c0 l0 a1 w hr0 hc0 hb.2.1 (bytesB_iff.1 hb.1) hb.2.2
    rw [e] at h2
    exact h2
  · cases h
theorem ref20Formed_eq (l : List Int) : tinderref20_Formed.f l = some (formedF l) := by
  unfold tinderref20_Formed.f formedF
  by_cases h : l.length % 512 = 0 ∧ l.length ≤ 32768
  · have h1 : (l.length : Int) % 512 = 0 := by omega
    have h2 : (l.length : Int) ≤ 32768 := by omega
    simp [h, h1, h2]
  · by_cases h3 : (l.length : Int) % 512 = 0
    · have h4 : ¬ (l.length : Int) ≤ 32768 := by omega
      have h5 : ¬ (l.length ≤ 32768) := by omega
      simp [h, h3, h4, h5]
    · have h4 : ¬ (l.length % 512 = 0) := by omega
      simp [h, h3, h4]
theorem refWindow_calls (A : Option Addr) (c : Nat) (l : List Int) (s : ByteArray) (w : World) (hC : Kd.C (Kd.int .u8) w A l.length l) (hc : l.length ≤ c) (hl : l.length ≤ 140737488351232) (hb : Bytes l) (hs : s.size ≤ 140737488351232) :
    Calls Try.prog 19 #[.slice A l.length c, .string s] w fun e w' => e = .returned (.tuple #[.int .i64 (winF l s).1, .int .i64 (winF l s).2.1, .int .i64 (winF l s).2.2]) ∧ Below w.heap.size w w' := by
  have hp := parseF_parts (l.take 512) (hb.take 512)
  refine refWin_walk A l.length c s w (formedF l) (selF s).1 (selF s).2.2 (selF s).2.1 (parseF (l.take 512)).1 (parseF (l.take 512)).2 ?_ ?_ ?_ (selF_lt s) formed_spec hc hp.1 hp.2
  · intro W hW
    refine (tinderref20_Formed.calls A c l _ W (Kd.C_below hC hW) hc (ref20Formed_eq l)).mono ?_
    rintro e w' ⟨rfl, hd⟩
    exact ⟨rfl, hd.below⟩
  · intro W
    refine (tinderref21_Select.calls 5 s _ _ _ W (refSel_eq s)).mono ?_
    rintro e w' ⟨rfl, hd⟩
    exact ⟨rfl, hd.below⟩
  · intro W hW hf h0
    have hf2 := formed_spec hf
    have hn : 512 ≤ l.length := by omega
    have hll : (l.take 512).length = 512 := by rw [List.length_take]; omega
    have h2 := refParse_calls A c (l.take 512) W (by rw [hll]; exact C_take (Kd.C_below hC hW) 512 hn) (by omega)
    rw [hll, parse_ref _ (hb.take 512)] at h2
    exact h2
def tinderref21_Window.f (l0 : List Int) (a1 : ByteArray) : Option (Int × Int × Int) := if winOk l0 a1 then some (winF l0 a1) else none
theorem tinderref21_Window.calls (A0 : Option Addr) (c0 : Nat) (l0 : List Int) (a1 : ByteArray) (r1 r2 r3 : Int) (w : World) (hr0 : Kd.C (Kd.int .u8) w A0 l0.length l0) (hc0 : l0.length ≤ c0) (h : tinderref21_Window.f l0 a1 = some (r1, r2, r3)) :
    Calls Try.prog 19 #[.slice A0 l0.length c0, .string a1] w fun e w' => e = .returned (.tuple #[.int .i64 r1, .int .i64 r2, .int .i64 r3]) ∧ Below w.heap.size w w' := by
  unfold tinderref21_Window.f at h
  split at h
  · rename_i hb
    have e := Option.some.inj h
    have h2 := refWindow_calls A0 c0 l0 a1 w hr0 hc0 hb.2.1 (bytesB_iff.1 hb.1) hb.2.2
    rw [e] at h2
    exact h2
  · cases h
def tinderlaw21_alive.f : Option Bool := some true
theorem tinderlaw21_alive.calls (r : Bool) (w : World) (h : tinderlaw21_alive.f = some r) : Calls Try.prog 9 #[] w fun e w' => e = .returned (.bool r) ∧ Below w.heap.size w w' := by
  obtain rfl := Option.some.inj h
  exact alive_calls w
end Go.Proofs.Ytnbomjfpnpmllaa.Q
end
section
namespace Go.Proofs.Ytnbomjfpnpmllaa.Q
open Go.RowKit Go.Proofs.YtnbomjfpnpmllaaW.PrintWords Go.Proofs.YtnbomjfpnpmllaaW.PrintLast Go.Proofs.YtnbomjfpnpmllaaW.PrintMore
set_option linter.unusedVariables false
set_option linter.unusedSimpArgs false

attribute [local go_sem] max2_int min2_int max_two min_two max_three min_three max_four min_four
/-! ### label_inside: function 34 -/
def label_inside.f (l0 : List Int) (a1 : ByteArray) (a2 : Int) (a3 : Int) : Option (Int × Int) := (label_Window.f l0 a1).bind fun bt35001 => (if bt35001.2.2 = 0 then (if a2 < 0 then (some (0, 23)) else (if a3 < 0 then (some (0, 23)) else (if a2 > bt35001.2.1 then (some (0, 23)) else (if a3 > (wrap64 (bt35001.2.1 - a2)) then (some (0, 23)) else (some (wrap64 (bt35001.1 + a2), 0)))))) else (some (0, bt35001.2.2)))
set_option maxHeartbeats 8000000 in
set_option maxRecDepth 100000 in
theorem label_inside.calls (A0 : Option Addr) (c0 : Nat) (l0 : List Int) (a1 : ByteArray) (a2 : Int) (a3 : Int) (r1 : Int) (r2 : Int) (w : World) (hr0 : Kd.C (Kd.int .u8) w A0 l0.length l0) (hc0 : l0.length ≤ c0) (h : label_inside.f l0 a1 a2 a3 = some (r1, r2)) :
    Calls Try.prog 34 #[.slice A0 l0.length c0, .string a1, .int .i64 a2, .int .i64 a3] w fun e w' => e = .returned (.tuple #[.int .i64 r1, .int .i64 r2]) ∧ Below w.heap.size w w' := by
  have HR0 := Aside0.mk hr0
  have HC0 := Aside0.mk hc0
  clear hr0 hc0
  have HB := Aside0.mk (Below.refl w.heap.size w)
  have H : ((label_Window.f l0 a1).bind fun bt35001 => (if bt35001.2.2 = 0 then (if a2 < 0 then (some (0, 23)) else (if a3 < 0 then (some (0, 23)) else (if a2 > bt35001.2.1 then (some (0, 23)) else (if a3 > (wrap64 (bt35001.2.1 - a2)) then (some (0, 23)) else (some (wrap64 (bt35001.1 + a2), 0)))))) else (some (0, bt35001.2.2)))) = some (r1, r2) := h
  clear h
  replace H := Option.bind_eq_some_iff.mp H
  obtain ⟨⟨t35001, t35002, t35003⟩, A50, H⟩ := H
  replace H : (if t35003 = 0 then (if a2 < 0 then (some (0, 23)) else (if a3 < 0 then (some (0, 23)) else (if a2 > t35002 then (some (0, 23)) else (if a3 > (wrap64 (t35002 - a2)) then (some (0, 23)) else (some (wrap64 (t35001 + a2), 0)))))) else (some (0, t35003))) = some (r1, r2) := H
  have A5 := Aside0.mk A50
  clear A50
  by_cases c6 : t35003 = 0
  · rw [if_pos c6] at H
    have c6b0 : (t35003 == 0) = true := beq_iff_eq.mpr c6
    have c6b1 : (t35003 != 0) = false := bne_eq_false_iff_eq.mpr c6
    clear c6
    by_cases c7 : a2 < 0
    · rw [if_pos c7] at H
      have c7b0 : decide (a2 < 0) = true := decide_eq_true c7
      clear c7
      simp only [Option.some.injEq, Prod.mk.injEq] at H
      obtain ⟨rfl, rfl⟩ := H
      go_enter Try.func34, Try.ntmps34
      go_wp2_with (first | ((with_reducible refine gate_callee (f := 18) rfl ?_); refine goesL_ (some 16) rfl rfl Try.func18 (by kernel_rfl) rfl #[.slice A0 l0.length c0, .string a1] rfl (by (try simp only [List.map_toArray, List.map_cons, List.map_nil]); first | done | rfl | (simp only [List.length_drop, List.length_take]; rfl)) ?_; (with_reducible refine (label_Window.calls _ _ l0 a1 t35001 t35002 t35003 _ ?side1 ?side2 A5.out).mono ?_); (case side1 => repeat (first | exact HR0.out | (with_reducible refine Kd.C_alloc ?_ _) | (with_reducible refine Kd.C_drewN ?_ _) | (with_reducible refine Kd.C_drew ?_))); (case side2 => exact HC0.out); rintro e w8 ⟨rfl, hb⟩; refine ⟨_, rfl, ?_⟩; have n0_ := Aside0.mk (below_step (by repeat (first | (with_reducible first | exact HB.out | apply below_alloc | apply pw_below_drewN | apply below_drew1) | exact HB.out)) hb); clear HB; have HB := n0_; clear n0_; (try clear hb); (try clear hb2); (try clear hk); (try clear hi)))
      go_ret2
      exact ⟨by first | rfl | (simp [errW_none, errW_some] <;> rfl) | (simp [*, errW_none, errW_some] <;> rfl), by repeat (first | (with_reducible first | exact HB.out | apply below_alloc | apply pw_below_drewN | apply below_drew1) | exact HB.out)⟩
    · rw [if_neg c7] at H
      have c7b0 : decide (a2 < 0) = false := decide_eq_false c7
      clear c7
      by_cases c9 : a3 < 0
      · rw [if_pos c9] at H
        have c9b0 : decide (a3 < 0) = true := decide_eq_true c9
        clear c9
        simp only [Option.some.injEq, Prod.mk.injEq] at H
        obtain ⟨rfl, rfl⟩ := H
        go_enter Try.func34, Try.ntmps34
        go_wp2_with (first | ((with_reducible refine gate_callee (f := 18) rfl ?_); refine goesL_ (some 16) rfl rfl Try.func18 (by kernel_rfl) rfl #[.slice A0 l0.length c0, .string a1] rfl (by (try simp only [List.map_toArray, List.map_cons, List.map_nil]); first | done | rfl | (simp only [List.length_drop, List.length_take]; rfl)) ?_; (with_reducible refine (label_Window.calls _ _ l0 a1 t35001 t35002 t35003 _ ?side1 ?side2 A5.out).mono ?_); (case side1 => repeat (first | exact HR0.out | (with_reducible refine Kd.C_alloc ?_ _) | (with_reducible refine Kd.C_drewN ?_ _) | (with_reducible refine Kd.C_drew ?_))); (case side2 => exact HC0.out); rintro e w10 ⟨rfl, hb⟩; refine ⟨_, rfl, ?_⟩; have n0_ := Aside0.mk (below_step (by repeat (first | (with_reducible first | exact HB.out | apply below_alloc | apply pw_below_drewN | apply below_drew1) | exact HB.out)) hb); clear HB; have HB := n0_; clear n0_; (try clear hb); (try clear hb2); (try clear hk); (try clear hi)))
        go_ret2
        exact ⟨by first | rfl | (simp [errW_none, errW_some] <;> rfl) | (simp [*, errW_none, errW_some] <;> rfl), by repeat (first | (with_reducible first | exact HB.out | apply below_alloc | apply pw_below_drewN | apply below_drew1) | exact HB.out)⟩
      · rw [if_neg c9] at H
        have c9b0 : decide (a3 < 0) = false := decide_eq_false c9
        clear c9
        by_cases c11 : a2 > t35002
        · rw [if_pos c11] at H
          have c11b0 : decide (t35002 < a2) = true := decide_eq_true c11
          clear c11
          simp only [Option.some.injEq, Prod.mk.injEq] at H
          obtain ⟨rfl, rfl⟩ := H
          go_enter Try.func34, Try.ntmps34
          go_wp2_with (first | ((with_reducible refine gate_callee (f := 18) rfl ?_); refine goesL_ (some 16) rfl rfl Try.func18 (by kernel_rfl) rfl #[.slice A0 l0.length c0, .string a1] rfl (by (try simp only [List.map_toArray, List.map_cons, List.map_nil]); first | done | rfl | (simp only [List.length_drop, List.length_take]; rfl)) ?_; (with_reducible refine (label_Window.calls _ _ l0 a1 t35001 t35002 t35003 _ ?side1 ?side2 A5.out).mono ?_); (case side1 => repeat (first | exact HR0.out | (with_reducible refine Kd.C_alloc ?_ _) | (with_reducible refine Kd.C_drewN ?_ _) | (with_reducible refine Kd.C_drew ?_))); (case side2 => exact HC0.out); rintro e w12 ⟨rfl, hb⟩; refine ⟨_, rfl, ?_⟩; have n0_ := Aside0.mk (below_step (by repeat (first | (with_reducible first | exact HB.out | apply below_alloc | apply pw_below_drewN | apply below_drew1) | exact HB.out)) hb); clear HB; have HB := n0_; clear n0_; (try clear hb); (try clear hb2); (try clear hk); (try clear hi)))
          go_ret2
          exact ⟨by first | rfl | (simp [errW_none, errW_some] <;> rfl) | (simp [*, errW_none, errW_some] <;> rfl), by repeat (first | (with_reducible first | exact HB.out | apply below_alloc | apply pw_below_drewN | apply below_drew1) | exact HB.out)⟩
        · rw [if_neg c11] at H
          have c11b0 : decide (t35002 < a2) = false := decide_eq_false c11
          clear c11
          by_cases c13 : a3 > (wrap64 (t35002 - a2))
          · rw [if_pos c13] at H
            have c13b0 : decide ((wrap64 (t35002 - a2)) < a3) = true := decide_eq_true c13
            clear c13
            simp only [Option.some.injEq, Prod.mk.injEq] at H
            obtain ⟨rfl, rfl⟩ := H
            go_enter Try.func34, Try.ntmps34
            go_wp2_with (first | ((with_reducible refine gate_callee (f := 18) rfl ?_); refine goesL_ (some 16) rfl rfl Try.func18 (by kernel_rfl) rfl #[.slice A0 l0.length c0, .string a1] rfl (by (try simp only [List.map_toArray, List.map_cons, List.map_nil]); first | done | rfl | (simp only [List.length_drop, List.length_take]; rfl)) ?_; (with_reducible refine (label_Window.calls _ _ l0 a1 t35001 t35002 t35003 _ ?side1 ?side2 A5.out).mono ?_); (case side1 => repeat (first | exact HR0.out | (with_reducible refine Kd.C_alloc ?_ _) | (with_reducible refine Kd.C_drewN ?_ _) | (with_reducible refine Kd.C_drew ?_))); (case side2 => exact HC0.out); rintro e w14 ⟨rfl, hb⟩; refine ⟨_, rfl, ?_⟩; have n0_ := Aside0.mk (below_step (by repeat (first | (with_reducible first | exact HB.out | apply below_alloc | apply pw_below_drewN | apply below_drew1) | exact HB.out)) hb); clear HB; have HB := n0_; clear n0_; (try clear hb); (try clear hb2); (try clear hk); (try clear hi)))
            go_ret2
            exact ⟨by first | rfl | (simp [errW_none, errW_some] <;> rfl) | (simp [*, errW_none, errW_some] <;> rfl), by repeat (first | (with_reducible first | exact HB.out | apply below_alloc | apply pw_below_drewN | apply below_drew1) | exact HB.out)⟩
          · rw [if_neg c13] at H
            have c13b0 : decide ((wrap64 (t35002 - a2)) < a3) = false := decide_eq_false c13
            clear c13
            simp only [Option.some.injEq, Prod.mk.injEq] at H
            obtain ⟨rfl, rfl⟩ := H
            go_enter Try.func34, Try.ntmps34
            go_wp2_with (first | ((with_reducible refine gate_callee (f := 18) rfl ?_); refine goesL_ (some 16) rfl rfl Try.func18 (by kernel_rfl) rfl #[.slice A0 l0.length c0, .string a1] rfl (by (try simp only [List.map_toArray, List.map_cons, List.map_nil]); first | done | rfl | (simp only [List.length_drop, List.length_take]; rfl)) ?_; (with_reducible refine (label_Window.calls _ _ l0 a1 t35001 t35002 t35003 _ ?side1 ?side2 A5.out).mono ?_); (case side1 => repeat (first | exact HR0.out | (with_reducible refine Kd.C_alloc ?_ _) | (with_reducible refine Kd.C_drewN ?_ _) | (with_reducible refine Kd.C_drew ?_))); (case side2 => exact HC0.out); rintro e w15 ⟨rfl, hb⟩; refine ⟨_, rfl, ?_⟩; have n0_ := Aside0.mk (below_step (by repeat (first | (with_reducible first | exact HB.out | apply below_alloc | apply pw_below_drewN | apply below_drew1) | exact HB.out)) hb); clear HB; have HB := n0_; clear n0_; (try clear hb); (try clear hb2); (try clear hk); (try clear hi)))
            go_ret2
            exact ⟨by first | rfl | (simp [errW_none, errW_some] <;> rfl) | (simp [*, errW_none, errW_some] <;> rfl), by repeat (first | (with_reducible first | exact HB.out | apply below_alloc | apply pw_below_drewN | apply below_drew1) | exact HB.out)⟩
  · rw [if_neg c6] at H
    have c6b0 : (t35003 == 0) = false := beq_eq_false_iff_ne.mpr c6
    have c6b1 : (t35003 != 0) = true := bne_iff_ne.mpr c6
    simp only [Option.some.injEq, Prod.mk.injEq] at H
    obtain ⟨rfl, rfl⟩ := H
    go_enter Try.func34, Try.ntmps34
    go_wp2_with (first | ((with_reducible refine gate_callee (f := 18) rfl ?_); refine goesL_ (some 16) rfl rfl Try.func18 (by kernel_rfl) rfl #[.slice A0 l0.length c0, .string a1] rfl (by (try simp only [List.map_toArray, List.map_cons, List.map_nil]); first | done | rfl | (simp only [List.length_drop, List.length_take]; rfl)) ?_; (with_reducible refine (label_Window.calls _ _ l0 a1 t35001 t35002 t35003 _ ?side1 ?side2 A5.out).mono ?_); (case side1 => repeat (first | exact HR0.out | (with_reducible refine Kd.C_alloc ?_ _) | (with_reducible refine Kd.C_drewN ?_ _) | (with_reducible refine Kd.C_drew ?_))); (case side2 => exact HC0.out); rintro e w16 ⟨rfl, hb⟩; refine ⟨_, rfl, ?_⟩; have n0_ := Aside0.mk (below_step (by repeat (first | (with_reducible first | exact HB.out | apply below_alloc | apply pw_below_drewN | apply below_drew1) | exact HB.out)) hb); clear HB; have HB := n0_; clear n0_; (try clear hb); (try clear hb2); (try clear hk); (try clear hi)))
    go_ret2
    exact ⟨by first | rfl | (simp [errW_none, errW_some] <;> rfl) | (simp [*, errW_none, errW_some] <;> rfl), by repeat (first | (with_reducible first | exact HB.out | apply below_alloc | apply pw_below_drewN | apply below_drew1) | exact HB.out)⟩

end Go.Proofs.Ytnbomjfpnpmllaa.Q
end
section
namespace Go.Proofs.Ytnbomjfpnpmllaa.Q
open Go.RowKit Go.Proofs.YtnbomjfpnpmllaaW.PrintWords Go.Proofs.YtnbomjfpnpmllaaW.PrintLast Go.Proofs.YtnbomjfpnpmllaaW.PrintMore
set_option linter.unusedVariables false
set_option linter.unusedSimpArgs false

attribute [local go_sem] max2_int min2_int max_two min_two max_three min_three max_four min_four
/-! ### label_Get: function 20 -/
def label_Get.f (k : Nat) (l0 : List Int) (a1 : ByteArray) (a2 : Int) (a3 : Int) : Option (List Int × Int) := (label_inside.f l0 a1 a2 a3).bind fun bt21001 => (if bt21001.2 = 0 then ((block_Get.f k l0 bt21001.1 a3).bind fun bt21003 => (some (bt21003.1, bt21003.2))) else (some (([] : List Int), bt21001.2)))
theorem label_Get.mono : ∀ a0 a1 a2 a3 k, LeO (label_Get.f k a0 a1 a2 a3) (label_Get.f (k + 1) a0 a1 a2 a3) := by
  intro a0 a1 a2 a3 k
  unfold label_Get.f
  repeat' first
      | (with_reducible exact block_Get.mono _ _ _ _)
      | (with_reducible exact LeO.refl _)
      | (with_reducible exact LeO.none _)
      | (with_reducible refine LeO.ite ?_ ?_)
      | (with_reducible refine LeO.bind ?_ (fun _ => ?_))
      | exact block_Get.mono _ _ _ _
      | exact LeO.none _
      | refine LeO.ite ?_ ?_
      | refine LeO.bind ?_ (fun _ => ?_)
set_option maxHeartbeats 8000000 in
set_option maxRecDepth 100000 in
theorem label_Get.calls (k : Nat) (A0 : Option Addr) (c0 : Nat) (l0 : List Int) (a1 : ByteArray) (a2 : Int) (a3 : Int) (r1 : List Int) (r2 : Int) (w : World) (hr0 : Kd.C (Kd.int .u8) w A0 l0.length l0) (hc0 : l0.length ≤ c0) (h : label_Get.f k l0 a1 a2 a3 = some (r1, r2)) :
    Calls Try.prog 20 #[.slice A0 l0.length c0, .string a1, .int .i64 a2, .int .i64 a3] w fun e w' => ∃ v0_ : Value, e = .returned (.tuple #[v0_, .int .i64 r2]) ∧ Kd.R (Kd.int .u8) 5 w' w.heap.size (fun _ => True) v0_ r1 ∧ Below w.heap.size w w' := by
  have HR0 := Aside0.mk hr0
  have HC0 := Aside0.mk hc0
  clear hr0 hc0
  have HB := Aside0.mk (Below.refl w.heap.size w)
  have H : ((label_inside.f l0 a1 a2 a3).bind fun bt21001 => (if bt21001.2 = 0 then ((block_Get.f k l0 bt21001.1 a3).bind fun bt21003 => (some (bt21003.1, bt21003.2))) else (some (([] : List Int), bt21001.2)))) = some (r1, r2) := h
  clear h
  replace H := Option.bind_eq_some_iff.mp H
  obtain ⟨⟨t21001, t21002⟩, A50, H⟩ := H
  replace H : (if t21002 = 0 then ((block_Get.f k l0 t21001 a3).bind fun bt21003 => (some (bt21003.1, bt21003.2))) else (some (([] : List Int), t21002))) = some (r1, r2) := H
  have A5 := Aside0.mk A50
  clear A50
  by_cases c6 : t21002 = 0
  · rw [if_pos c6] at H
    have c6b0 : (t21002 == 0) = true := beq_iff_eq.mpr c6
    have c6b1 : (t21002 != 0) = false := bne_eq_false_iff_eq.mpr c6
    clear c6
    replace H := Option.bind_eq_some_iff.mp H
    obtain ⟨⟨t21003, t21004⟩, A70, H⟩ := H
    replace H : (some (t21003, t21004)) = some (r1, r2) := H
    have A7 := Aside0.mk A70
    clear A70
    simp only [Option.some.injEq, Prod.mk.injEq] at H
    obtain ⟨rfl, rfl⟩ := H
    go_enter Try.func20, Try.ntmps20
    go_wp2_with (first | ((with_reducible refine gate_callee (f := 34) rfl ?_); refine goesL_ (some 17) rfl rfl Try.func34 (by kernel_rfl) rfl #[.slice A0 l0.length c0, .string a1, .int .i64 a2, .int .i64 a3] rfl (by (try simp only [List.map_toArray, List.map_cons, List.map_nil]); first | done | rfl | (simp only [List.length_drop, List.length_take]; rfl)) ?_; (with_reducible refine (label_inside.calls _ _ l0 a1 a2 a3 t21001 t21002 _ ?side1 ?side2 A5.out).mono ?_); (case side1 => repeat (first | exact HR0.out | (with_reducible refine Kd.C_alloc ?_ _) | (with_reducible refine Kd.C_drewN ?_ _) | (with_reducible refine Kd.C_drew ?_))); (case side2 => exact HC0.out); rintro e w8 ⟨rfl, hb⟩; refine ⟨_, rfl, ?_⟩; have n0_ := Aside0.mk (below_step (by repeat (first | (with_reducible first | exact HB.out | apply below_alloc | apply pw_below_drewN | apply below_drew1) | exact HB.out)) hb); clear HB; have HB := n0_; clear n0_; (try clear hb); (try clear hb2); (try clear hk); (try clear hi)) | ((with_reducible refine gate_callee (f := 35) rfl ?_); refine goesL_ (some 26) rfl rfl Try.func35 (by kernel_rfl) rfl #[.slice A0 l0.length c0, .int .i64 t21001, .int .i64 a3] rfl (by (try simp only [List.map_toArray, List.map_cons, List.map_nil]); first | done | rfl | (simp only [List.length_drop, List.length_take]; rfl)) ?_; (with_reducible refine (block_Get.calls k _ _ l0 t21001 a3 t21003 t21004 _ ?side1 ?side2 A7.out).mono ?_); (case side1 => repeat (first | exact (Kd.C_below HR0.out HB.out) | (with_reducible refine Kd.C_alloc ?_ _) | (with_reducible refine Kd.C_drewN ?_ _) | (with_reducible refine Kd.C_drew ?_))); (case side2 => exact HC0.out); rintro e w9 ⟨v21005, rfl, ho0, hb⟩; refine ⟨_, rfl, ?_⟩; have n0_ := Aside0.mk (Kd.R_lower ho0 (below_size (by repeat (first | (with_reducible first | exact HB.out | apply below_alloc | apply pw_below_drewN | apply below_drew1) | exact HB.out)))); have n1_ := Aside0.mk (below_step (by repeat (first | (with_reducible first | exact HB.out | apply below_alloc | apply pw_below_drewN | apply below_drew1) | exact HB.out)) hb); clear HB; have HO21006 := n0_; have HB := n1_; clear n0_ n1_; (try clear hb); (try clear hb2); (try clear hk); (try clear hi); (try clear ho0)))
    go_ret2
    exact ⟨_, by first | rfl | (simp [errW_none, errW_some] <;> rfl) | (simp [*, errW_none, errW_some] <;> rfl), by (with_reducible repeat (first | apply Kd.R_alloc | apply Kd.R_drewN | apply Kd.R_drew)); exact HO21006.out, by repeat (first | (with_reducible first | exact HB.out | apply below_alloc | apply pw_below_drewN | apply below_drew1) | exact HB.out)⟩
  · rw [if_neg c6] at H
    have c6b0 : (t21002 == 0) = false := beq_eq_false_iff_ne.mpr c6
    have c6b1 : (t21002 != 0) = true := bne_iff_ne.mpr c6
    simp only [Option.some.injEq, Prod.mk.injEq] at H
    obtain ⟨rfl, rfl⟩ := H
    go_enter Try.func20, Try.ntmps20
    go_wp2_with (first | ((with_reducible refine gate_callee (f := 34) rfl ?_); refine goesL_ (some 17) rfl rfl Try.func34 (by kernel_rfl) rfl #[.slice A0 l0.length c0, .string a1, .int .i64 a2, .int .i64 a3] rfl (by (try simp only [List.map_toArray, List.map_cons, List.map_nil]); first | done | rfl | (simp only [List.length_drop, List.length_take]; rfl)) ?_; (with_reducible refine (label_inside.calls _ _ l0 a1 a2 a3 t21001 t21002 _ ?side1 ?side2 A5.out).mono ?_); (case side1 => repeat (first | exact HR0.out | (with_reducible refine Kd.C_alloc ?_ _) | (with_reducible refine Kd.C_drewN ?_ _) | (with_reducible refine Kd.C_drew ?_))); (case side2 => exact HC0.out); rintro e w10 ⟨rfl, hb⟩; refine ⟨_, rfl, ?_⟩; have n0_ := Aside0.mk (below_step (by repeat (first | (with_reducible first | exact HB.out | apply below_alloc | apply pw_below_drewN | apply below_drew1) | exact HB.out)) hb); clear HB; have HB := n0_; clear n0_; (try clear hb); (try clear hb2); (try clear hk); (try clear hi)))
    go_ret2
    exact ⟨_, by first | rfl | (simp [errW_none, errW_some] <;> rfl) | (simp [*, errW_none, errW_some] <;> rfl), by first | exact Kd.R_nil _ _ _ _ _ | exact Kd.N_nil _ _ _ _ _ | exact Kd.V_nil _ _ _ _ _ | exact Kd.Q_nil _ _ _ _ _ | exact Kd.S_nil _ _ _ _ _, by repeat (first | (with_reducible first | exact HB.out | apply below_alloc | apply pw_below_drewN | apply below_drew1) | exact HB.out)⟩

end Go.Proofs.Ytnbomjfpnpmllaa.Q
end
section
namespace Go.Proofs.Ytnbomjfpnpmllaa.Q
open Go.RowKit Go.Proofs.YtnbomjfpnpmllaaW.PrintWords Go.Proofs.YtnbomjfpnpmllaaW.PrintLast Go.Proofs.YtnbomjfpnpmllaaW.PrintMore
set_option linter.unusedVariables false
set_option linter.unusedSimpArgs false

attribute [local go_sem] max2_int min2_int max_two min_two max_three min_three max_four min_four
/-! ### tinderref21_inside: function 36 -/
def tinderref21_inside.f (l0 : List Int) (a1 : ByteArray) (a2 : Int) (a3 : Int) : Option (Int × Int) := (tinderref21_Window.f l0 a1).bind fun bt37001 => (if bt37001.2.2 = 0 then (if a2 < 0 then (some (0, 23)) else (if a3 < 0 then (some (0, 23)) else (if a2 > bt37001.2.1 then (some (0, 23)) else (if a3 > (wrap64 (bt37001.2.1 - a2)) then (some (0, 23)) else (some (wrap64 (bt37001.1 + a2), 0)))))) else (some (0, bt37001.2.2)))
set_option maxHeartbeats 8000000 in
set_option maxRecDepth 100000 in
theorem tinderref21_inside.calls (A0 : Option Addr) (c0 : Nat) (l0 : List Int) (a1 : ByteArray) (a2 : Int) (a3 : Int) (r1 : Int) (r2 : Int) (w : World) (hr0 : Kd.C (Kd.int .u8) w A0 l0.length l0) (hc0 : l0.length ≤ c0) (h : tinderref21_inside.f l0 a1 a2 a3 = some (r1, r2)) :
    Calls Try.prog 36 #[.slice A0 l0.length c0, .string a1, .int .i64 a2, .int .i64 a3] w fun e w' => e = .returned (.tuple #[.int .i64 r1, .int .i64 r2]) ∧ Below w.heap.size w w' := by
  have HR0 := Aside0.mk hr0
  have HC0 := Aside0.mk hc0
  clear hr0 hc0
  have HB := Aside0.mk (Below.refl w.heap.size w)
  have H : ((tinderref21_Window.f l0 a1).bind fun bt37001 => (if bt37001.2.2 = 0 then (if a2 < 0 then (some (0, 23)) else (if a3 < 0 then (some (0, 23)) else (if a2 > bt37001.2.1 then (some (0, 23)) else (if a3 > (wrap64 (bt37001.2.1 - a2)) then (some (0, 23)) else (some (wrap64 (bt37001.1 + a2), 0)))))) else (some (0, bt37001.2.2)))) = some (r1, r2) := h
  clear h
  replace H := Option.bind_eq_some_iff.mp H
  obtain ⟨⟨t37001, t37002, t37003⟩, A50, H⟩ := H
  replace H : (if t37003 = 0 then (if a2 < 0 then (some (0, 23)) else (if a3 < 0 then (some (0, 23)) else (if a2 > t37002 then (some (0, 23)) else (if a3 > (wrap64 (t37002 - a2)) then (some (0, 23)) else (some (wrap64 (t37001 + a2), 0)))))) else (some (0, t37003))) = some (r1, r2) := H
  have A5 := Aside0.mk A50
  clear A50
  by_cases c6 : t37003 = 0
  · rw [if_pos c6] at H
    have c6b0 : (t37003 == 0) = true := beq_iff_eq.mpr c6
    have c6b1 : (t37003 != 0) = false := bne_eq_false_iff_eq.mpr c6
    clear c6
    by_cases c7 : a2 < 0
    · rw [if_pos c7] at H
      have c7b0 : decide (a2 < 0) = true := decide_eq_true c7
      clear c7
      simp only [Option.some.injEq, Prod.mk.injEq] at H
      obtain ⟨rfl, rfl⟩ := H
      go_enter Try.func36, Try.ntmps36
      go_wp2_with (first | ((with_reducible refine gate_callee (f := 19) rfl ?_); refine goesL_ (some 16) rfl rfl Try.func19 (by kernel_rfl) rfl #[.slice A0 l0.length c0, .string a1] rfl (by (try simp only [List.map_toArray, List.map_cons, List.map_nil]); first | done | rfl | (simp only [List.length_drop, List.length_take]; rfl)) ?_; (with_reducible refine (tinderref21_Window.calls _ _ l0 a1 t37001 t37002 t37003 _ ?side1 ?side2 A5.out).mono ?_); (case side1 => repeat (first | exact HR0.out | (with_reducible refine Kd.C_alloc ?_ _) | (with_reducible refine Kd.C_drewN ?_ _) | (with_reducible refine Kd.C_drew ?_))); (case side2 => exact HC0.out); rintro e w8 ⟨rfl, hb⟩; refine ⟨_, rfl, ?_⟩; have n0_ := Aside0.mk (below_step (by repeat (first | (with_reducible first | exact HB.out | apply below_alloc | apply pw_below_drewN | apply below_drew1) | exact HB.out)) hb); clear HB; have HB := n0_; clear n0_; (try clear hb); (try clear hb2); (try clear hk); (try clear hi)))
      go_ret2
      exact ⟨by first | rfl | (simp [errW_none, errW_some] <;> rfl) | (simp [*, errW_none, errW_some] <;> rfl), by repeat (first | (with_reducible first | exact HB.out | apply below_alloc | apply pw_below_drewN | apply below_drew1) | exact HB.out)⟩
    · rw [if_neg c7] at H
      have c7b0 : decide (a2 < 0) = false := decide_eq_false c7
      clear c7
      by_cases c9 : a3 < 0
      · rw [if_pos c9] at H
        have c9b0 : decide (a3 < 0) = true := decide_eq_true c9
        clear c9
        simp only [Option.some.injEq, Prod.mk.injEq] at H
        obtain ⟨rfl, rfl⟩ := H
        go_enter Try.func36, Try.ntmps36
        go_wp2_with (first | ((with_reducible refine gate_callee (f := 19) rfl ?_); refine goesL_ (some 16) rfl rfl Try.func19 (by kernel_rfl) rfl #[.slice A0 l0.length c0, .string a1] rfl (by (try simp only [List.map_toArray, List.map_cons, List.map_nil]); first | done | rfl | (simp only [List.length_drop, List.length_take]; rfl)) ?_; (with_reducible refine (tinderref21_Window.calls _ _ l0 a1 t37001 t37002 t37003 _ ?side1 ?side2 A5.out).mono ?_); (case side1 => repeat (first | exact HR0.out | (with_reducible refine Kd.C_alloc ?_ _) | (with_reducible refine Kd.C_drewN ?_ _) | (with_reducible refine Kd.C_drew ?_))); (case side2 => exact HC0.out); rintro e w10 ⟨rfl, hb⟩; refine ⟨_, rfl, ?_⟩; have n0_ := Aside0.mk (below_step (by repeat (first | (with_reducible first | exact HB.out | apply below_alloc | apply pw_below_drewN | apply below_drew1) | exact HB.out)) hb); clear HB; have HB := n0_; clear n0_; (try clear hb); (try clear hb2); (try clear hk); (try clear hi)))
        go_ret2
        exact ⟨by first | rfl | (simp [errW_none, errW_some] <;> rfl) | (simp [*, errW_none, errW_some] <;> rfl), by repeat (first | (with_reducible first | exact HB.out | apply below_alloc | apply pw_below_drewN | apply below_drew1) | exact HB.out)⟩
      · rw [if_neg c9] at H
        have c9b0 : decide (a3 < 0) = false := decide_eq_false c9
        clear c9
        by_cases c11 : a2 > t37002
        · rw [if_pos c11] at H
          have c11b0 : decide (t37002 < a2) = true := decide_eq_true c11
          clear c11
          simp only [Option.some.injEq, Prod.mk.injEq] at H
          obtain ⟨rfl, rfl⟩ := H
          go_enter Try.func36, Try.ntmps36
          go_wp2_with (first | ((with_reducible refine gate_callee (f := 19) rfl ?_); refine goesL_ (some 16) rfl rfl Try.func19 (by kernel_rfl) rfl #[.slice A0 l0.length c0, .string a1] rfl (by (try simp only [List.map_toArray, List.map_cons, List.map_nil]); first | done | rfl | (simp only [List.length_drop, List.length_take]; rfl)) ?_; (with_reducible refine (tinderref21_Window.calls _ _ l0 a1 t37001 t37002 t37003 _ ?side1 ?side2 A5.out).mono ?_); (case side1 => repeat (first | exact HR0.out | (with_reducible refine Kd.C_alloc ?_ _) | (with_reducible refine Kd.C_drewN ?_ _) | (with_reducible refine Kd.C_drew ?_))); (case side2 => exact HC0.out); rintro e w12 ⟨rfl, hb⟩; refine ⟨_, rfl, ?_⟩; have n0_ := Aside0.mk (below_step (by repeat (first | (with_reducible first | exact HB.out | apply below_alloc | apply pw_below_drewN | apply below_drew1) | exact HB.out)) hb); clear HB; have HB := n0_; clear n0_; (try clear hb); (try clear hb2); (try clear hk); (try clear hi)))
          go_ret2
          exact ⟨by first | rfl | (simp [errW_none, errW_some] <;> rfl) | (simp [*, errW_none, errW_some] <;> rfl), by repeat (first | (with_reducible first | exact HB.out | apply below_alloc | apply pw_below_drewN | apply below_drew1) | exact HB.out)⟩
        · rw [if_neg c11] at H
          have c11b0 : decide (t37002 < a2) = false := decide_eq_false c11
          clear c11
          by_cases c13 : a3 > (wrap64 (t37002 - a2))
          · rw [if_pos c13] at H
            have c13b0 : decide ((wrap64 (t37002 - a2)) < a3) = true := decide_eq_true c13
            clear c13
            simp only [Option.some.injEq, Prod.mk.injEq] at H
            obtain ⟨rfl, rfl⟩ := H
            go_enter Try.func36, Try.ntmps36
            go_wp2_with (first | ((with_reducible refine gate_callee (f := 19) rfl ?_); refine goesL_ (some 16) rfl rfl Try.func19 (by kernel_rfl) rfl #[.slice A0 l0.length c0, .string a1] rfl (by (try simp only [List.map_toArray, List.map_cons, List.map_nil]); first | done | rfl | (simp only [List.length_drop, List.length_take]; rfl)) ?_; (with_reducible refine (tinderref21_Window.calls _ _ l0 a1 t37001 t37002 t37003 _ ?side1 ?side2 A5.out).mono ?_); (case side1 => repeat (first | exact HR0.out | (with_reducible refine Kd.C_alloc ?_ _) | (with_reducible refine Kd.C_drewN ?_ _) | (with_reducible refine Kd.C_drew ?_))); (case side2 => exact HC0.out); rintro e w14 ⟨rfl, hb⟩; refine ⟨_, rfl, ?_⟩; have n0_ := Aside0.mk (below_step (by repeat (first | (with_reducible first | exact HB.out | apply below_alloc | apply pw_below_drewN | apply below_drew1) | exact HB.out)) hb); clear HB; have HB := n0_; clear n0_; (try clear hb); (try clear hb2); (try clear hk); (try clear hi)))
            go_ret2
            exact ⟨by first | rfl | (simp [errW_none, errW_some] <;> rfl) | (simp [*, errW_none, errW_some] <;> rfl), by repeat (first | (with_reducible first | exact HB.out | apply below_alloc | apply pw_below_drewN | apply below_drew1) | exact HB.out)⟩
          · rw [if_neg c13] at H
            have c13b0 : decide ((wrap64 (t37002 - a2)) < a3) = false := decide_eq_false c13
            clear c13
            simp only [Option.some.injEq, Prod.mk.injEq] at H
            obtain ⟨rfl, rfl⟩ := H
            go_enter Try.func36, Try.ntmps36
            go_wp2_with (first | ((with_reducible refine gate_callee (f := 19) rfl ?_); refine goesL_ (some 16) rfl rfl Try.func19 (by kernel_rfl) rfl #[.slice A0 l0.length c0, .string a1] rfl (by (try simp only [List.map_toArray, List.map_cons, List.map_nil]); first | done | rfl | (simp only [List.length_drop, List.length_take]; rfl)) ?_; (with_reducible refine (tinderref21_Window.calls _ _ l0 a1 t37001 t37002 t37003 _ ?side1 ?side2 A5.out).mono ?_); (case side1 => repeat (first | exact HR0.out | (with_reducible refine Kd.C_alloc ?_ _) | (with_reducible refine Kd.C_drewN ?_ _) | (with_reducible refine Kd.C_drew ?_))); (case side2 => exact HC0.out); rintro e w15 ⟨rfl, hb⟩; refine ⟨_, rfl, ?_⟩; have n0_ := Aside0.mk (below_step (by repeat (first | (with_reducible first | exact HB.out | apply below_alloc | apply pw_below_drewN | apply below_drew1) | exact HB.out)) hb); clear HB; have HB := n0_; clear n0_; (try clear hb); (try clear hb2); (try clear hk); (try clear hi)))
            go_ret2
            exact ⟨by first | rfl | (simp [errW_none, errW_some] <;> rfl) | (simp [*, errW_none, errW_some] <;> rfl), by repeat (first | (with_reducible first | exact HB.out | apply below_alloc | apply pw_below_drewN | apply below_drew1) | exact HB.out)⟩
  · rw [if_neg c6] at H
    have c6b0 : (t37003 == 0) = false := beq_eq_false_iff_ne.mpr c6
    have c6b1 : (t37003 != 0) = true := bne_iff_ne.mpr c6
    simp only [Option.some.injEq, Prod.mk.injEq] at H
    obtain ⟨rfl, rfl⟩ := H
    go_enter Try.func36, Try.ntmps36
    go_wp2_with (first | ((with_reducible refine gate_callee (f := 19) rfl ?_); refine goesL_ (some 16) rfl rfl Try.func19 (by kernel_rfl) rfl #[.slice A0 l0.length c0, .string a1] rfl (by (try simp only [List.map_toArray, List.map_cons, List.map_nil]); first | done | rfl | (simp only [List.length_drop, List.length_take]; rfl)) ?_; (with_reducible refine (tinderref21_Window.calls _ _ l0 a1 t37001 t37002 t37003 _ ?side1 ?side2 A5.out).mono ?_); (case side1 => repeat (first | exact HR0.out | (with_reducible refine Kd.C_alloc ?_ _) | (with_reducible refine Kd.C_drewN ?_ _) | (with_reducible refine Kd.C_drew ?_))); (case side2 => exact HC0.out); rintro e w16 ⟨rfl, hb⟩; refine ⟨_, rfl, ?_⟩; have n0_ := Aside0.mk (below_step (by repeat (first | (with_reducible first | exact HB.out | apply below_alloc | apply pw_below_drewN | apply below_drew1) | exact HB.out)) hb); clear HB; have HB := n0_; clear n0_; (try clear hb); (try clear hb2); (try clear hk); (try clear hi)))
    go_ret2
    exact ⟨by first | rfl | (simp [errW_none, errW_some] <;> rfl) | (simp [*, errW_none, errW_some] <;> rfl), by repeat (first | (with_reducible first | exact HB.out | apply below_alloc | apply pw_below_drewN | apply below_drew1) | exact HB.out)⟩

end Go.Proofs.Ytnbomjfpnpmllaa.Q
end
section
namespace Go.Proofs.Ytnbomjfpnpmllaa.Q
open Go.RowKit Go.Proofs.YtnbomjfpnpmllaaW.PrintWords Go.Proofs.YtnbomjfpnpmllaaW.PrintLast Go.Proofs.YtnbomjfpnpmllaaW.PrintMore
set_option linter.unusedVariables false
set_option linter.unusedSimpArgs false

attribute [local go_sem] max2_int min2_int max_two min_two max_three min_three max_four min_four
/-! ### tinderref21_Get: function 21 -/
def tinderref21_Get.f (l0 : List Int) (a1 : ByteArray) (a2 : Int) (a3 : Int) : Option (List Int × Int) := (tinderref21_inside.f l0 a1 a2 a3).bind fun bt22001 => (if bt22001.2 = 0 then ((tinderref20_Get.f l0 bt22001.1 a3).bind fun bt22003 => (some (bt22003.1, bt22003.2))) else (some (([] : List Int), bt22001.2)))
set_option maxHeartbeats 8000000 in
set_option maxRecDepth 100000 in
theorem tinderref21_Get.calls (A0 : Option Addr) (c0 : Nat) (l0 : List Int) (a1 : ByteArray) (a2 : Int) (a3 : Int) (r1 : List Int) (r2 : Int) (w : World) (hr0 : Kd.C (Kd.int .u8) w A0 l0.length l0) (hc0 : l0.length ≤ c0) (h : tinderref21_Get.f l0 a1 a2 a3 = some (r1, r2)) :
    Calls Try.prog 21 #[.slice A0 l0.length c0, .string a1, .int .i64 a2, .int .i64 a3] w fun e w' => ∃ v0_ : Value, e = .returned (.tuple #[v0_, .int .i64 r2]) ∧ Kd.R (Kd.int .u8) 5 w' w.heap.size (fun _ => True) v0_ r1 ∧ Below w.heap.size w w' := by
  have HR0 := Aside0.mk hr0
  have HC0 := Aside0.mk hc0
  clear hr0 hc0
  have HB := Aside0.mk (Below.refl w.heap.size w)
  have H : ((tinderref21_inside.f l0 a1 a2 a3).bind fun bt22001 => (if bt22001.2 = 0 then ((tinderref20_Get.f l0 bt22001.1 a3).bind fun bt22003 => (some (bt22003.1, bt22003.2))) else (some (([] : List Int), bt22001.2)))) = some (r1, r2) := h
  clear h
  replace H := Option.bind_eq_some_iff.mp H
  obtain ⟨⟨t22001, t22002⟩, A50, H⟩ := H
  replace H : (if t22002 = 0 then ((tinderref20_Get.f l0 t22001 a3).bind fun bt22003 => (some (bt22003.1, bt22003.2))) else (some (([] : List Int), t22002))) = some (r1, r2) := H
  have A5 := Aside0.mk A50
  clear A50
  by_cases c6 : t22002 = 0
  · rw [if_pos c6] at H
    have c6b0 : (t22002 == 0) = true := beq_iff_eq.mpr c6
    have c6b1 : (t22002 != 0) = false := bne_eq_false_iff_eq.mpr c6
    clear c6
    replace H := Option.bind_eq_some_iff.mp H
    obtain ⟨⟨t22003, t22004⟩, A70, H⟩ := H
    replace H : (some (t22003, t22004)) = some (r1, r2) := H
    have A7 := Aside0.mk A70
    clear A70
    simp only [Option.some.injEq, Prod.mk.injEq] at H
    obtain ⟨rfl, rfl⟩ := H
    go_enter Try.func21, Try.ntmps21
    go_wp2_with (first | ((with_reducible refine gate_callee (f := 36) rfl ?_); refine goesL_ (some 17) rfl rfl Try.func36 (by kernel_rfl) rfl #[.slice A0 l0.length c0, .string a1, .int .i64 a2, .int .i64 a3] rfl (by (try simp only [List.map_toArray, List.map_cons, List.map_nil]); first | done | rfl | (simp only [List.length_drop, List.length_take]; rfl)) ?_; (with_reducible refine (tinderref21_inside.calls _ _ l0 a1 a2 a3 t22001 t22002 _ ?side1 ?side2 A5.out).mono ?_); (case side1 => repeat (first | exact HR0.out | (with_reducible refine Kd.C_alloc ?_ _) | (with_reducible refine Kd.C_drewN ?_ _) | (with_reducible refine Kd.C_drew ?_))); (case side2 => exact HC0.out); rintro e w8 ⟨rfl, hb⟩; refine ⟨_, rfl, ?_⟩; have n0_ := Aside0.mk (below_step (by repeat (first | (with_reducible first | exact HB.out | apply below_alloc | apply pw_below_drewN | apply below_drew1) | exact HB.out)) hb); clear HB; have HB := n0_; clear n0_; (try clear hb); (try clear hb2); (try clear hk); (try clear hi)) | ((with_reducible refine gate_callee (f := 37) rfl ?_); refine goesL_ (some 26) rfl rfl Try.func37 (by kernel_rfl) rfl #[.slice A0 l0.length c0, .int .i64 t22001, .int .i64 a3] rfl (by (try simp only [List.map_toArray, List.map_cons, List.map_nil]); first | done | rfl | (simp only [List.length_drop, List.length_take]; rfl)) ?_; (with_reducible refine (tinderref20_Get.calls _ _ l0 t22001 a3 t22003 t22004 _ ?side1 ?side2 A7.out).mono ?_); (case side1 => repeat (first | exact (Kd.C_below HR0.out HB.out) | (with_reducible refine Kd.C_alloc ?_ _) | (with_reducible refine Kd.C_drewN ?_ _) | (with_reducible refine Kd.C_drew ?_))); (case side2 => exact HC0.out); rintro e w9 ⟨v22005, rfl, ho0, hb⟩; refine ⟨_, rfl, ?_⟩; have n0_ := Aside0.mk (Kd.R_lower ho0 (below_size (by repeat (first | (with_reducible first | exact HB.out | apply below_alloc | apply pw_below_drewN | apply below_drew1) | exact HB.out)))); have n1_ := Aside0.mk (below_step (by repeat (first | (with_reducible first | exact HB.out | apply below_alloc | apply pw_below_drewN | apply below_drew1) | exact HB.out)) hb); clear HB; have HO22006 := n0_; have HB := n1_; clear n0_ n1_; (try clear hb); (try clear hb2); (try clear hk); (try clear hi); (try clear ho0)))
    go_ret2
    exact ⟨_, by first | rfl | (simp [errW_none, errW_some] <;> rfl) | (simp [*, errW_none, errW_some] <;> rfl), by (with_reducible repeat (first | apply Kd.R_alloc | apply Kd.R_drewN | apply Kd.R_drew)); exact HO22006.out, by repeat (first | (with_reducible first | exact HB.out | apply below_alloc | apply pw_below_drewN | apply below_drew1) | exact HB.out)⟩
  · rw [if_neg c6] at H
    have c6b0 : (t22002 == 0) = false := beq_eq_false_iff_ne.mpr c6
    have c6b1 : (t22002 != 0) = true := bne_iff_ne.mpr c6
    simp only [Option.some.injEq, Prod.mk.injEq] at H
    obtain ⟨rfl, rfl⟩ := H
    go_enter Try.func21, Try.ntmps21
    go_wp2_with (first | ((with_reducible refine gate_callee (f := 36) rfl ?_); refine goesL_ (some 17) rfl rfl Try.func36 (by kernel_rfl) rfl #[.slice A0 l0.length c0, .string a1, .int .i64 a2, .int .i64 a3] rfl (by (try simp only [List.map_toArray, List.map_cons, List.map_nil]); first | done | rfl | (simp only [List.length_drop, List.length_take]; rfl)) ?_; (with_reducible refine (tinderref21_inside.calls _ _ l0 a1 a2 a3 t22001 t22002 _ ?side1 ?side2 A5.out).mono ?_); (case side1 => repeat (first | exact HR0.out | (with_reducible refine Kd.C_alloc ?_ _) | (with_reducible refine Kd.C_drewN ?_ _) | (with_reducible refine Kd.C_drew ?_))); (case side2 => exact HC0.out); rintro e w10 ⟨rfl, hb⟩; refine ⟨_, rfl, ?_⟩; have n0_ := Aside0.mk (below_step (by repeat (first | (with_reducible first | exact HB.out | apply below_alloc | apply pw_below_drewN | apply below_drew1) | exact HB.out)) hb); clear HB; have HB := n0_; clear n0_; (try clear hb); (try clear hb2); (try clear hk); (try clear hi)))
    go_ret2
    exact ⟨_, by first | rfl | (simp [errW_none, errW_some] <;> rfl) | (simp [*, errW_none, errW_some] <;> rfl), by first | exact Kd.R_nil _ _ _ _ _ | exact Kd.N_nil _ _ _ _ _ | exact Kd.V_nil _ _ _ _ _ | exact Kd.Q_nil _ _ _ _ _ | exact Kd.S_nil _ _ _ _ _, by repeat (first | (with_reducible first | exact HB.out | apply below_alloc | apply pw_below_drewN | apply below_drew1) | exact HB.out)⟩

end Go.Proofs.Ytnbomjfpnpmllaa.Q
end
