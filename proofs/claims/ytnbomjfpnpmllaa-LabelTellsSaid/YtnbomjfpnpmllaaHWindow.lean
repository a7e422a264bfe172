/- label.Window, of whatever the functions it calls answer. -/
import Derived.Test.YtnbomjfpnpmllaaHRefParse
set_option linter.unusedSimpArgs false
set_option linter.unusedVariables false
namespace Go.Proofs.Ytnbomjfpnpmllaa.Q
open Go.RowKit Go.Proofs.YtnbomjfpnpmllaaW.PrintWords Go.Proofs.YtnbomjfpnpmllaaW.PrintLast Go.Proofs.YtnbomjfpnpmllaaW.PrintMore
def winG (f : Bool) (k es : Int) (ps : List Part) (ep : Int) (n : Nat) : Int × Int × Int :=
  if f = false then (0, 0, 1) else if es ≠ 0 then (0, 0, es) else if k < 0 then (0, n, 0) else if n = 0 then (0, 0, 24) else if ep ≠ 0 then (0, 0, ep)
  else if (ps.getD k.toNat (0, 0)).2 = 0 ∨ (n : Int) / 512 < (ps.getD k.toNat (0, 0)).1 + (ps.getD k.toNat (0, 0)).2 then (0, 0, 24) else ((ps.getD k.toNat (0, 0)).1 * 512, (ps.getD k.toNat (0, 0)).2 * 512, 0)
theorem div_bd (n : Nat) (h : n ≤ 32768) : 0 ≤ (n : Int) / 512 ∧ (n : Int) / 512 ≤ 64 := by omega
theorem div_wr (n : Nat) (h : n ≤ 32768) : wrap64 ((n : Int) / 512) = (n : Int) / 512 := by
  have := div_bd n h
  generalize (n : Int) / 512 = q at this
  unfold wrap64
  omega
theorem div_mod64 (n : Nat) (h : n ≤ 32768) : ((n : Int) / 512) % 18446744073709551616 = (n : Int) / 512 := by
  have := div_bd n h
  generalize (n : Int) / 512 = q at this
  omega
set_option maxHeartbeats 8000000 in
set_option maxRecDepth 100000 in
theorem win_walk (A : Option Addr) (n c : Nat) (s : ByteArray) (w : World) (f : Bool) (k es : Int) (rs : ByteArray) (ps : List Part) (ep : Int)
    (hF : ∀ W : World, Below w.heap.size w W → Calls Try.prog 32 #[.slice A n c] W (fun e w' => e = .returned (.bool f) ∧ Below W.heap.size W w'))
    (hS : ∀ W : World, Calls Try.prog 15 #[.string s] W (fun e w' => e = .returned (.tuple #[.int .i64 k, .string rs, .int .i64 es]) ∧ Below W.heap.size W w'))
    (hP : ∀ W : World, Below w.heap.size w W → f = true → 0 < n → Calls Try.prog 13 #[.slice A 512 c] W (fun e w' => e = .returned (.tuple #[.agg (partCells ps).toArray, .int .i64 ep]) ∧ Below W.heap.size W w'))
    (hk : es = 0 → k < 8) (hn : f = true → n ≤ 32768 ∧ n % 512 = 0) (hnc : n ≤ c) (hps : ps.length = 8) (hpr : Parts ps) :
    Calls Try.prog 18 #[.slice A n c, .string s] w fun e w' => e = .returned (.tuple #[.int .i64 (winG f k es ps ep n).1, .int .i64 (winG f k es ps ep n).2.1, .int .i64 (winG f k es ps ep n).2.2]) ∧ Below w.heap.size w w' := by
  obtain ⟨R, hR⟩ : ∃ R, R = winG f k es ps ep n := ⟨_, rfl⟩
  rw [← hR]
  unfold winG at hR
  have HF := Aside0.mk hF
  have HS := Aside0.mk hS
  clear hF hS
  cases f with
  | false =>
    rw [if_pos rfl] at hR
    obtain rfl := hR
    clear hP hk hn hnc
    go_enter Try.func18, Try.ntmps18
    go_wp2_with (go_at_call 32; (with_reducible refine (HF.out _ (Below.refl _ _)).mono ?_); rintro e w7 ⟨rfl, hb⟩; have HB := Aside0.mk hb; clear hb)
    exact bodyPost_ret (results_tmp3 rfl _ _ _) rfl ⟨rfl, HB.out⟩
  | true =>
    rw [if_neg (by decide)] at hR
    obtain ⟨hn1, hn2⟩ := hn rfl
    by_cases he : es = 0
    · subst he
      rw [if_neg (by decide)] at hR
      have hk8 := hk rfl
      by_cases hk0 : k < 0
      · rw [if_pos hk0] at hR
        have d1 : decide (k < 0) = true := decide_eq_true hk0
        obtain rfl := hR
        clear hP hk hn hnc hn1 hn2 hk8 hk0
        go_enter Try.func18, Try.ntmps18
        go_wp2_with (first
          | (go_at_call 32; (with_reducible refine (HF.out _ (Below.refl _ _)).mono ?_); rintro e w7 ⟨rfl, hb⟩; have HB := Aside0.mk hb; clear hb)
          | (go_at_call 15; (with_reducible refine (HS.out _).mono ?_); rintro e w8 ⟨rfl, hb⟩; have HB8 := Aside0.mk (below_step HB.out hb); clear hb))
        exact bodyPost_ret (results_tmp3 rfl _ _ _) rfl ⟨rfl, HB8.out⟩
      · rw [if_neg hk0] at hR
        have d1 : decide (k < 0) = false := decide_eq_false hk0
        by_cases hz : n = 0
        · rw [if_pos hz] at hR
          have d2 : ((n : Int) == 0) = true := by rw [hz]; rfl
          obtain rfl := hR
          clear hP hk hn hnc hn1 hn2 hk8 hk0 hz
          go_enter Try.func18, Try.ntmps18
          go_wp2_with (first
            | (go_at_call 32; (with_reducible refine (HF.out _ (Below.refl _ _)).mono ?_); rintro e w7 ⟨rfl, hb⟩; have HB := Aside0.mk hb; clear hb)
            | (go_at_call 15; (with_reducible refine (HS.out _).mono ?_); rintro e w8 ⟨rfl, hb⟩; have HB8 := Aside0.mk (below_step HB.out hb); clear hb))
          exact bodyPost_ret (results_tmp3 rfl _ _ _) rfl ⟨rfl, HB8.out⟩
        · rw [if_neg hz] at hR
          have d2 : ((n : Int) == 0) = false := beq_false_of_ne (by omega)
          have HP := Aside0.mk (fun W hW => hP W hW rfl (by omega))
          have q512 : ((512 : Int) ≤ (c : Int)) = True := eq_true (by omega)
          by_cases hep : ep = 0
          · subst hep
            rw [if_neg (by decide)] at hR
            obtain ⟨a, ha⟩ : ∃ a, a = (ps.getD k.toNat (0, 0)).1 := ⟨_, rfl⟩
            obtain ⟨b, hb⟩ : ∃ b, b = (ps.getD k.toNat (0, 0)).2 := ⟨_, rfl⟩
            have hrg := hpr.at_ k.toNat (by omega)
            have HG := Aside0.mk (show ∀ (W : World) (g : Nat), PCell W g ps → W.cell? ⟨g, k.toNat * 2, none⟩ = some (.int .u32 a) ∧ W.cell? ⟨g, k.toNat * 2 + 1, none⟩ = some (.int .u32 b) from fun W g h => ⟨ha ▸ h.get0 k.toNat (by omega), hb ▸ h.get1 k.toNat (by omega)⟩)
            rw [← ha, ← hb] at hR hrg
            clear ha hb
            have p1 : (0 ≤ k) = True := eq_true (by omega)
            have p2 : (k < 8) = True := eq_true (by omega)
            have m1 : a % 18446744073709551616 = a := Int.emod_eq_of_lt (by omega) (by omega)
            have m2 : b % 18446744073709551616 = b := Int.emod_eq_of_lt (by omega) (by omega)
            have m3 : (a + b) % 18446744073709551616 = a + b := Int.emod_eq_of_lt (by omega) (by omega)
            have m4 : wrap64 ((n : Int) / 512) = (n : Int) / 512 := div_wr n hn1
            have hq : 0 ≤ (n : Int) / 512 ∧ (n : Int) / 512 ≤ 64 := div_bd n hn1
            have m5 : ((n : Int) / 512) % 18446744073709551616 = (n : Int) / 512 := div_mod64 n hn1
            have m6 : wrap64 (a * 512) = a * 512 := by unfold wrap64; omega
            have m7 : wrap64 (b * 512) = b * 512 := by unfold wrap64; omega
            have v1 : IntKind.i64.wrap a = a := (i64_w _).trans (by unfold wrap64; omega)
            have v2 : IntKind.i64.wrap b = b := (i64_w _).trans (by unfold wrap64; omega)
            have v6 : IntKind.i64.wrap (a * 512) = a * 512 := (i64_w _).trans m6
            have v7 : IntKind.i64.wrap (b * 512) = b * 512 := (i64_w _).trans m7
            have HRA := Aside0.mk hrg
            have HPS := Aside0.mk hps
            by_cases hb0 : b = 0
            · subst hb0
              rw [if_pos (.inl rfl)] at hR
              obtain rfl := hR
              clear hP hk hn hnc hn1 hn2 hk8 hk0 hz hrg hpr hps
              go_enter Try.func18, Try.ntmps18
              go_wp2_with (first
                | (go_at_call 32; (with_reducible refine (HF.out _ (Below.refl _ _)).mono ?_); rintro e w7 ⟨rfl, hb⟩; have HB := Aside0.mk hb; clear hb)
                | (go_at_call 15; (with_reducible refine (HS.out _).mono ?_); rintro e w8 ⟨rfl, hb⟩; have HB8 := Aside0.mk (below_step HB.out hb); clear hb)
                | (go_at_call 13; (with_reducible refine (HP.out _ HB8.out).mono ?_); rintro e w9 ⟨rfl, hb⟩; have HB9 := Aside0.mk (below_step HB8.out hb); clear hb)
                | ((with_reducible refine gate_ (.store 25 (.tmp 10) (.tmp 38)) rfl ?_); refine store_parts rfl (.tmp 10) (.tmp 38) rfl w9.heap.size noParts ps rfl rfl (blk_new w9 _) noParts_len HPS.out ?_; intro w5 h5 hg5; have P5 := Aside0.mk h5; have hcs := HG.out w5 _ h5; have hc0 := hcs.1; have hc1 := hcs.2; have HB5 := Aside0.mk (pw_below_grown (below_alloc HB9.out _) _ (below_size (below_alloc HB9.out _)) hg5 (fun k hk => Option.some.inj hk ▸ below_size HB9.out)); clear h5 hg5 hcs))
              exact bodyPost_ret (results_tmp3 rfl _ _ _) rfl ⟨rfl, below_alloc HB5.out _⟩
            · have d4 : (b == 0) = false := beq_false_of_ne hb0
              by_cases hgt : (n : Int) / 512 < a + b
              · rw [if_pos (.inr hgt)] at hR
                have d5 : decide ((n : Int) / 512 < a + b) = true := decide_eq_true hgt
                obtain rfl := hR
                clear hP hk hn hnc hn1 hn2 hk8 hk0 hz hrg hpr hps hb0 hgt
                go_enter Try.func18, Try.ntmps18
                go_wp2_with (first
                  | (go_at_call 32; (with_reducible refine (HF.out _ (Below.refl _ _)).mono ?_); rintro e w7 ⟨rfl, hb⟩; have HB := Aside0.mk hb; clear hb)
                  | (go_at_call 15; (with_reducible refine (HS.out _).mono ?_); rintro e w8 ⟨rfl, hb⟩; have HB8 := Aside0.mk (below_step HB.out hb); clear hb)
                  | (go_at_call 13; (with_reducible refine (HP.out _ HB8.out).mono ?_); rintro e w9 ⟨rfl, hb⟩; have HB9 := Aside0.mk (below_step HB8.out hb); clear hb)
                  | ((with_reducible refine gate_ (.store 25 (.tmp 10) (.tmp 38)) rfl ?_); refine store_parts rfl (.tmp 10) (.tmp 38) rfl w9.heap.size noParts ps rfl rfl (blk_new w9 _) noParts_len HPS.out ?_; intro w5 h5 hg5; have P5 := Aside0.mk h5; have hcs := HG.out w5 _ h5; have hc0 := hcs.1; have hc1 := hcs.2; have HB5 := Aside0.mk (pw_below_grown (below_alloc HB9.out _) _ (below_size (below_alloc HB9.out _)) hg5 (fun k hk => Option.some.inj hk ▸ below_size HB9.out)); clear h5 hg5 hcs))
                exact bodyPost_ret (results_tmp3 rfl _ _ _) rfl ⟨rfl, below_alloc HB5.out _⟩
              · rw [if_neg (fun h => h.elim hb0 hgt)] at hR
                have d5 : decide ((n : Int) / 512 < a + b) = false := decide_eq_false hgt
                obtain rfl := hR
                clear hP hk hn hnc hn1 hn2 hk8 hk0 hz hrg hpr hps hb0 hgt
                go_enter Try.func18, Try.ntmps18
                go_wp2_with (first
                  | (go_at_call 32; (with_reducible refine (HF.out _ (Below.refl _ _)).mono ?_); rintro e w7 ⟨rfl, hb⟩; have HB := Aside0.mk hb; clear hb)
                  | (go_at_call 15; (with_reducible refine (HS.out _).mono ?_); rintro e w8 ⟨rfl, hb⟩; have HB8 := Aside0.mk (below_step HB.out hb); clear hb)
                  | (go_at_call 13; (with_reducible refine (HP.out _ HB8.out).mono ?_); rintro e w9 ⟨rfl, hb⟩; have HB9 := Aside0.mk (below_step HB8.out hb); clear hb)
                  | ((with_reducible refine gate_ (.store 25 (.tmp 10) (.tmp 38)) rfl ?_); refine store_parts rfl (.tmp 10) (.tmp 38) rfl w9.heap.size noParts ps rfl rfl (blk_new w9 _) noParts_len HPS.out ?_; intro w5 h5 hg5; have P5 := Aside0.mk h5; have hcs := HG.out w5 _ h5; have hc0 := hcs.1; have hc1 := hcs.2; have HB5 := Aside0.mk (pw_below_grown (below_alloc HB9.out _) _ (below_size (below_alloc HB9.out _)) hg5 (fun k hk => Option.some.inj hk ▸ below_size HB9.out)); clear h5 hg5 hcs))
                have hp0 := (blk_cell (blk_new w5 (.cells #[.int .u32 a, .int .u32 b] 24)) 0).trans rfl
                have hp1 := (blk_cell (blk_new w5 (.cells #[.int .u32 a, .int .u32 b] 24)) 1).trans rfl
                have HB6 := Aside0.mk (below_alloc HB5.out (.cells #[.int .u32 a, .int .u32 b] 24))
                generalize w5.alloc (.cells #[.int .u32 a, .int .u32 b] 24) = W6 at hp0 hp1 HB6 ⊢
                refine start_ (n := 11) (S := fun w' => w'.cell? ⟨w5.heap.size, 0, none⟩ = some (.int .u32 a) ∧ w'.cell? ⟨w5.heap.size, 1, none⟩ = some (.int .u32 b)) (ds := []) #[false, false, false, false, false, false, false, false, false, false, false] (by kernel_rfl) rfl rfl ⟨hp0, hp1⟩ (fun hHeld => ?_)
                refine pure_ (i := 0) (N := some 63) (v := ?_) (a' := ?_) #[true, false, false, false, false, false, false, false, false, false, false] rfl rfl (by kernel_rfl) (fun _ _ _ h => h) (Or.inl ⟨by rfl, ?_⟩) ?_ ?_
                rotate_left
                · intro w'
                  go_simp
                  with_reducible rfl
                rotate_left
                · simp only [Act.put, List.setIfInBounds_toArray, List.set_cons_zero, List.set_cons_succ]
                  rfl
                refine take_ (i := 1) (N := some 64) (v := .int .u32 a) (a' := ?_) #[true, true, false, false, false, false, false, false, false, false, false] rfl rfl (by kernel_rfl) (fun _ _ _ h => h) (Or.inl ⟨by rfl, ?_⟩) hHeld ?_ ?_
                rotate_left
                rotate_left
                · simp only [Act.put, List.setIfInBounds_toArray, List.set_cons_zero, List.set_cons_succ]
                  rfl
                rotate_left
                · rintro w' ⟨s0, s1⟩
                  go_simp
                refine pure_ (i := 2) (N := some 65) (v := ?_) (a' := ?_) #[true, true, true, false, false, false, false, false, false, false, false] rfl rfl (by kernel_rfl) (fun _ _ _ h => h) (Or.inl ⟨by rfl, ?_⟩) ?_ ?_
                rotate_left
                · intro w'
                  go_simp
                  with_reducible rfl
                rotate_left
                · simp only [Act.put, List.setIfInBounds_toArray, List.set_cons_zero, List.set_cons_succ]
                  rfl
                refine pure_ (i := 3) (N := some 66) (v := ?_) (a' := ?_) #[true, true, true, true, false, false, false, false, false, false, false] rfl rfl (by kernel_rfl) (fun _ _ _ h => h) (Or.inl ⟨by rfl, ?_⟩) ?_ ?_
                rotate_left
                · intro w'
                  go_simp
                  with_reducible rfl
                rotate_left
                · simp only [Act.put, List.setIfInBounds_toArray, List.set_cons_zero, List.set_cons_succ]
                  rfl
                refine pure_ (i := 4) (N := some 67) (v := ?_) (a' := ?_) #[true, true, true, true, true, false, false, false, false, false, false] rfl rfl (by kernel_rfl) (fun _ _ _ h => h) (Or.inl ⟨by rfl, ?_⟩) ?_ ?_
                rotate_left
                · intro w'
                  go_simp
                  with_reducible rfl
                rotate_left
                · simp only [Act.put, List.setIfInBounds_toArray, List.set_cons_zero, List.set_cons_succ]
                  rfl
                refine take_ (i := 5) (N := some 68) (v := .int .u32 b) (a' := ?_) #[true, true, true, true, true, true, false, false, false, false, false] rfl rfl (by kernel_rfl) (fun _ _ _ h => h) (Or.inl ⟨by rfl, ?_⟩) hHeld ?_ ?_
                rotate_left
                rotate_left
                · simp only [Act.put, List.setIfInBounds_toArray, List.set_cons_zero, List.set_cons_succ]
                  rfl
                rotate_left
                · rintro w' ⟨s0, s1⟩
                  go_simp
                refine pure_ (i := 6) (N := some 69) (v := ?_) (a' := ?_) #[true, true, true, true, true, true, true, false, false, false, false] rfl rfl (by kernel_rfl) (fun _ _ _ h => h) (Or.inl ⟨by rfl, ?_⟩) ?_ ?_
                rotate_left
                · intro w'
                  go_simp
                  with_reducible rfl
                rotate_left
                · simp only [Act.put, List.setIfInBounds_toArray, List.set_cons_zero, List.set_cons_succ]
                  rfl
                refine pure_ (i := 7) (N := some 70) (v := ?_) (a' := ?_) #[true, true, true, true, true, true, true, true, false, false, false] rfl rfl (by kernel_rfl) (fun _ _ _ h => h) (Or.inl ⟨by rfl, ?_⟩) ?_ ?_
                rotate_left
                · intro w'
                  go_simp
                  with_reducible rfl
                rotate_left
                · simp only [Act.put, List.setIfInBounds_toArray, List.set_cons_zero, List.set_cons_succ]
                  rfl
                refine pure_ (i := 8) (N := some 4) (v := ?_) (a' := ?_) #[true, true, true, true, true, true, true, true, true, false, false] rfl rfl (by kernel_rfl) (fun _ _ _ h => h) (Or.inl ⟨by rfl, ?_⟩) ?_ ?_
                rotate_left
                · intro w'
                  go_simp
                  with_reducible rfl
                rotate_left
                · simp only [Act.put, List.setIfInBounds_toArray, List.set_cons_zero, List.set_cons_succ]
                  rfl
                refine pure_ (i := 9) (N := some 5) (v := ?_) (a' := ?_) #[true, true, true, true, true, true, true, true, true, true, false] rfl rfl (by kernel_rfl) (fun _ _ _ h => h) (Or.inl ⟨by rfl, ?_⟩) ?_ ?_
                rotate_left
                · intro w'
                  go_simp
                  with_reducible rfl
                rotate_left
                · simp only [Act.put, List.setIfInBounds_toArray, List.set_cons_zero, List.set_cons_succ]
                  rfl
                refine pure_ (i := 10) (N := some 6) (v := ?_) (a' := ?_) #[true, true, true, true, true, true, true, true, true, true, true] rfl rfl (by kernel_rfl) (fun _ _ _ h => h) (Or.inl ⟨by rfl, ?_⟩) ?_ ?_
                rotate_left
                · intro w'
                  go_simp
                  with_reducible rfl
                rotate_left
                · simp only [Act.put, List.setIfInBounds_toArray, List.set_cons_zero, List.set_cons_succ]
                  rfl
                refine done_ (n := 0) (by kernel_rfl) ?_
                go_wp2
                exact bodyPost_ret (results_tmp3 rfl _ _ _) rfl ⟨rfl, below_drew HB6.out⟩
          · rw [if_pos hep] at hR
            have d3 : (ep != 0) = true := bne_iff_ne.2 hep
            obtain rfl := hR
            have HPS := Aside0.mk hps
            clear hP hk hn hnc hn1 hn2 hk8 hk0 hz hpr hps
            go_enter Try.func18, Try.ntmps18
            go_wp2_with (first
              | (go_at_call 32; (with_reducible refine (HF.out _ (Below.refl _ _)).mono ?_); rintro e w7 ⟨rfl, hb⟩; have HB := Aside0.mk hb; clear hb)
              | (go_at_call 15; (with_reducible refine (HS.out _).mono ?_); rintro e w8 ⟨rfl, hb⟩; have HB8 := Aside0.mk (below_step HB.out hb); clear hb)
              | (go_at_call 13; (with_reducible refine (HP.out _ HB8.out).mono ?_); rintro e w9 ⟨rfl, hb⟩; have HB9 := Aside0.mk (below_step HB8.out hb); clear hb)
              | ((with_reducible refine gate_ (.store 25 (.tmp 10) (.tmp 38)) rfl ?_); refine store_parts rfl (.tmp 10) (.tmp 38) rfl w9.heap.size noParts ps rfl rfl (blk_new w9 _) noParts_len HPS.out ?_; intro w5 h5 hg5; have P5 := Aside0.mk h5; have HB5 := Aside0.mk (pw_below_grown (below_alloc HB9.out _) _ (below_size (below_alloc HB9.out _)) hg5 (fun k hk => Option.some.inj hk ▸ below_size HB9.out)); clear h5 hg5))
            exact bodyPost_ret (results_tmp3 rfl _ _ _) rfl ⟨rfl, HB5.out⟩
    · rw [if_pos he] at hR
      have d1 : (es != 0) = true := bne_iff_ne.2 he
      obtain rfl := hR
      clear hP hk hn hnc hn1 hn2 he
      go_enter Try.func18, Try.ntmps18
      go_wp2_with (first
        | (go_at_call 32; (with_reducible refine (HF.out _ (Below.refl _ _)).mono ?_); rintro e w7 ⟨rfl, hb⟩; have HB := Aside0.mk hb; clear hb)
        | (go_at_call 15; (with_reducible refine (HS.out _).mono ?_); rintro e w8 ⟨rfl, hb⟩; have HB8 := Aside0.mk (below_step HB.out hb); clear hb))
      exact bodyPost_ret (results_tmp3 rfl _ _ _) rfl ⟨rfl, HB8.out⟩
end Go.Proofs.Ytnbomjfpnpmllaa.Q
