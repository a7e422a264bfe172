/- label.Parse. -/
import Derived.Test.YtnbomjfpnpmllaaHRefParse
import Derived.Test.YtnbomjfpnpmllaaHLight
import Derived.Test.YtnbomjfpnpmllaaHEq
import Derived.Test.YtnbomjfpnpmllaaHInts
set_option linter.unusedSimpArgs false
set_option linter.unusedVariables false
namespace Go.Proofs.Ytnbomjfpnpmllaa.Q
open Go.RowKit Go.Proofs.YtnbomjfpnpmllaaW.PrintWords Go.Proofs.YtnbomjfpnpmllaaW.PrintLast Go.Proofs.YtnbomjfpnpmllaaW.PrintMore
theorem eq52_at (w : World) (x y x' y' : Int) : (Op.equalIn 10000 52 (.agg #[.int .u8 x, .int .u8 y]) (.agg #[.int .u8 x', .int .u8 y'])).run Try.prog w = .ok ((x == x') && (y == y')) w := eq52 9998 w x y x' y'
attribute [local go_sem] eq52_at
def partN (N : List Int) (i : Nat) : Part := (rd N (2 * i), rd N (2 * i + 1))
def partsN (l : List Int) : List Part := (List.range 8).map (partN (allNums (l.take 64)))
def atN (N : List Int) (i : Nat) : List Part := (List.range i).map (partN N) ++ List.replicate (8 - i) (0, 0)
theorem atN_len (l : List Int) (i : Nat) (h : i ≤ 8) : (atN l i).length = 8 := by simp [atN]; omega
theorem partsN_len (l : List Int) : (partsN l).length = 8 := by simp [partsN]
theorem atN_set (l : List Int) (i : Nat) (h : i < 8) : (atN l i).set i (partN l i) = atN l (i + 1) := by
  unfold atN
  rw [show 8 - i = (8 - (i + 1)) + 1 by omega, List.replicate_succ, List.range_succ, List.map_append, List.append_assoc, List.set_append_right _ _ (by simp)]
  simp
theorem allNums_16 (l : List Int) (h : l.length = 512) : (allNums (l.take 64)).length = 16 := by simp [allNums, h]
theorem C_take {w : World} {A : Option Addr} {n : Nat} {l : List Int} (h : Kd.C (Kd.int .u8) w A n l) (m : Nat) (hm : m ≤ n) : Kd.C (Kd.int .u8) w A m (l.take m) := by
  have hl : l.length = n := h.1
  refine ⟨by rw [List.length_take]; omega, by have := h.2.1; omega, fun hp => ?_⟩
  obtain ⟨ad, e, hc⟩ := h.2.2 (by omega)
  refine ⟨ad, e, fun j p hj => hc j p ?_⟩
  rw [List.getElem?_take] at hj
  split at hj
  · exact hj
  · cases hj
theorem ints_64 (A : Option Addr) (c : Nat) (l : List Int) (w : World) (h : Kd.C (Kd.int .u8) w A 512 l) (hc : 512 ≤ c) :
    Calls Try.prog 29 #[.slice A 64 c] w (fun e w' => ∃ A9 c9, e = .returned (.tuple #[.slice A9 16 c9, .int .i64 0]) ∧ Kd.R (Kd.int .u32) 22 w' w.heap.size (fun _ => True) (.slice A9 16 c9) (allNums (l.take 64)) ∧ Below w.heap.size w w') := by
  have hl : l.length = 512 := h.1
  have hll : (l.take 64).length = 64 := by rw [List.length_take]; omega
  have h2 := prop_Ints.calls A c (l.take 64) (allNums (l.take 64)) 0 w (by rw [hll]; exact C_take h 64 (by omega)) (by omega) (by unfold prop_Ints.f; rw [hll, if_pos (by decide), if_pos (by decide)])
  rw [hll] at h2
  refine h2.mono ?_
  rintro e w' ⟨v, rfl, hR, hb⟩
  obtain ⟨A9, c9, rfl⟩ := Kd.R_slice hR
  rw [allNums_16 l hl] at hR ⊢
  exact ⟨A9, c9, rfl, hR, hb⟩
def goodF (l : List Int) : Bool := decide (crossF l = (0, 0)) && decide (rd l 508 = 218) && decide (rd l 509 = 190) && !anyNZ ((l.drop 64).take 444)
def parseF (l : List Int) : List Part × Int := if l.length = 512 then (if goodF l = true then (partsN l, 0) else (noParts, 24)) else (noParts, 24)
set_option maxHeartbeats 8000000 in
set_option maxRecDepth 100000 in
theorem parse_calls (A : Option Addr) (c : Nat) (l : List Int) (w : World) (hC : Kd.C (Kd.int .u8) w A l.length l) (hc : l.length ≤ c) :
    Calls Try.prog 13 #[.slice A l.length c] w fun e w' => e = .returned (.tuple #[.agg (partCells (parseF l).1).toArray, .int .i64 (parseF l).2]) ∧ Below w.heap.size w w' := by
  obtain ⟨R, hR⟩ : ∃ R, R = parseF l := ⟨_, rfl⟩
  rw [← hR]
  unfold parseF at hR
  by_cases hl : l.length = 512
  · rw [if_pos hl] at hR
    have d0 : ((l.length : Int) != 512) = false := by rw [hl]; rfl
    obtain ⟨x, hx⟩ : ∃ x, x = (crossF l).1 := ⟨_, rfl⟩
    obtain ⟨y, hy⟩ : ∃ y, y = (crossF l).2 := ⟨_, rfl⟩
    have HX := Aside0.mk (show ∀ W : World, Kd.C (Kd.int .u8) W A 512 l → Calls Try.prog 25 #[.slice A 512 c] W (fun e w' => e = .returned (.agg #[.int .u8 x, .int .u8 y]) ∧ Below W.heap.size W w') from fun W h => by
      rw [hx, hy]
      exact cross_at _ _ _ _ _ hl (by omega) h)
    obtain ⟨nz, hnz⟩ : ∃ nz, nz = anyNZ ((l.drop 64).take 444) := ⟨_, rfl⟩
    have hC5 : Kd.C (Kd.int .u8) w A 512 l := hl ▸ hC
    have HR := Aside0.mk (show R = if (decide ((x, y) = ((0 : Int), (0 : Int))) && decide (rd l 508 = 218) && decide (rd l 509 = 190) && !nz) = true then (partsN l, 0) else (noParts, 24) by rw [hR, goodF, hx, hy, hnz])
    obtain ⟨ad, eA, h508⟩ := Kd.at_int hC5 508 (by omega) (by omega)
    cases eA
    obtain ⟨ad2, eA, h509⟩ := Kd.at_int hC5 509 (by omega) (by omega)
    cases eA
    have HNZ := Aside0.mk (show ∀ W : World, Kd.C (Kd.int .u8) W (some ad) 512 l → Calls Try.prog 28 #[.slice (some ⟨ad.block, ad.off + 64, none⟩) 444 (c - 64), .func (.func 27) #[] #[]] W (fun e w' => e = .returned (.bool nz) ∧ Below W.heap.size W w') from fun W h => by
      have h2 := C_cut h (show 512 ≤ c by omega) 64 444 (by omega)
      unfold cutAt at h2
      rw [if_neg (by omega)] at h2
      have hll : ((l.drop 64).take 444).length = 444 := by rw [List.length_take, List.length_drop]; omega
      have h3 := containsLight_calls (some (ad.add 64)) (c - 64) ((l.drop 64).take 444) W (by rw [hll]; exact h2) (by omega)
      rw [hll, ← hnz] at h3
      exact h3)
    have q508 : ((508 : Int) ≤ (c : Int)) = True := eq_true (by omega)
    have q64 : ((64 : Int) ≤ (c : Int)) = True := eq_true (by omega)
    have H508 := Aside0.mk (show w.cell? ⟨ad.block, ad.off + 508, none⟩ = some (.int .u8 (rd l 508)) from h508)
    have H509 := Aside0.mk (show w.cell? ⟨ad.block, ad.off + 509, none⟩ = some (.int .u8 (rd l 509)) from h509)
    obtain ⟨m, hm⟩ : ∃ m, m = rd l 508 := ⟨_, rfl⟩
    obtain ⟨n, hn⟩ : ∃ n, n = rd l 509 := ⟨_, rfl⟩
    rw [← hm, ← hn] at HR
    rw [← hm] at H508
    rw [← hn] at H509
    have HL := Aside0.mk hl
    have HC := Aside0.mk hC5
    have HCC := Aside0.mk (show 512 ≤ c by omega)
    have hcc : ¬ c = 64 := by omega
    rw [hl]
    clear hR hl hC hc hx hy hnz hC5 h508 h509 hm hn
    by_cases hx0 : x = 0
    · subst hx0
      by_cases hy0 : y = 0
      · subst hy0
        by_cases hm : m = 218
        · subst hm
          by_cases hn : n = 190
          · subst hn
            cases nz with
            | true =>
              obtain rfl : R = (noParts, 24) := by rw [HR.out, if_neg (by decide)]
              clear HR
              go_enter Try.func13, Try.ntmps13
              go_wp2_with (first
                | (go_at_call 25; (with_reducible refine (HX.out _ (Kd.C_alloc HC.out _)).mono ?_); rintro e w7 ⟨rfl, hb⟩; have P7 := Aside0.mk (show PCell w7 w.heap.size noParts from PCell.below (blk_new w _) hb); have HB7 := Aside0.mk (below_step (below_alloc (Below.refl _ _) _) hb); have HC7 := Aside0.mk (Kd.C_below (Kd.C_alloc HC.out _) hb); have h508 := pw_cell_below HB7.out H508.out; have h509 := pw_cell_below HB7.out H509.out; clear hb)
                | (go_at_call 28; (with_reducible refine (HNZ.out _ HC7.out).mono ?_); rintro e w8 ⟨rfl, hb⟩; have P8 := Aside0.mk (P7.out.below hb); have HB8 := Aside0.mk (below_step HB7.out hb); have HC8 := Aside0.mk (Kd.C_below HC7.out hb); clear hb)
                | ((with_reducible refine gate_dst (N := 34) rfl ?_); refine load_parts rfl (.tmp 2) rfl w.heap.size noParts rfl P8.out noParts_len ?_)
                | ((with_reducible refine gate_ (.store 25 (.tmp 2) (.tmp 34)) rfl ?_); refine store_parts rfl (.tmp 2) (.tmp 34) rfl w.heap.size noParts noParts rfl rfl P8.out noParts_len noParts_len ?_; intro w5 h5 hg5; have P5 := Aside0.mk h5; have HB5 := Aside0.mk (pw_below_grown HB8.out _ (below_size HB8.out) hg5 (fun k hk => Option.some.inj hk ▸ Nat.le_refl _)); clear h5 hg5))
              exact bodyPost_ret (results_parts (p := 2) (u := 3) rfl _ _ _ noParts rfl P5.out noParts_len) rfl ⟨rfl, HB5.out⟩
            | false =>
              obtain rfl : R = (partsN l, 0) := by rw [HR.out, if_pos (by decide)]
              clear HR
              go_enter Try.func13, Try.ntmps13
              go_wp2_with (first
                | (go_at_call 25; (with_reducible refine (HX.out _ (Kd.C_alloc HC.out _)).mono ?_); rintro e w7 ⟨rfl, hb⟩; have P7 := Aside0.mk (show PCell w7 w.heap.size noParts from PCell.below (blk_new w _) hb); have HB7 := Aside0.mk (below_step (below_alloc (Below.refl _ _) _) hb); have HC7 := Aside0.mk (Kd.C_below (Kd.C_alloc HC.out _) hb); have h508 := pw_cell_below HB7.out H508.out; have h509 := pw_cell_below HB7.out H509.out; clear hb)
                | (go_at_call 28; (with_reducible refine (HNZ.out _ HC7.out).mono ?_); rintro e w8 ⟨rfl, hb⟩; have P8 := Aside0.mk (P7.out.below hb); have HB8 := Aside0.mk (below_step HB7.out hb); have HC8 := Aside0.mk (Kd.C_below HC7.out hb); clear hb))
              clear HX HNZ H508 H509 hcc q64 q508
              have HIN := Aside0.mk (show ∀ W : World, Kd.C (Kd.int .u8) W (some ad) 512 l → Calls Try.prog 29 #[.slice (some ad) 64 c] W (fun e w' => ∃ A9 c9, e = .returned (.tuple #[.slice A9 16 c9, .int .i64 0]) ∧ Kd.R (Kd.int .u32) 22 w' W.heap.size (fun _ => True) (.slice A9 16 c9) (allNums (l.take 64)) ∧ Below W.heap.size W w') from fun W h => ints_64 _ _ _ W h HCC.out)
              obtain ⟨N, hN⟩ : ∃ N, N = allNums (l.take 64) := ⟨_, rfl⟩
              have HNl := Aside0.mk (show N.length = 16 by rw [hN]; exact allNums_16 l HL.out)
              have HPN := Aside0.mk (show partsN l = atN N 8 by rw [hN]; simp [partsN, atN])
              rw [← hN] at HIN
              clear hN
              go_wp2_with (first
                | (go_at_call 29; (with_reducible refine (HIN.out _ HC8.out).mono ?_); rintro e w9 ⟨A9, c9, rfl, hR9, hb⟩; have HO9 := Aside0.mk (Kd.R_lower hR9 (below_size HB8.out)); have P9 := Aside0.mk (P8.out.below hb); have HB9 := Aside0.mk (below_step HB8.out hb); clear hR9 hb))
              clear P7 P8 HB7 HB8 HC7 HC8
              go_loopg [41] 8 (fun kq v41 w' => ∃ i : Int, v41 = .int .i64 i ∧ Aside0 (0 ≤ i ∧ i + kq = 8) ∧ Aside0 (Kd.R (Kd.int .u32) 22 w' w.heap.size (fun _ => True) (.slice A9 16 c9) N) ∧ Aside0 (PCell w' w.heap.size (atN N i.toNat)) ∧ Aside0 (Below w.heap.size w w'))
              case atStart => exact ⟨0, rfl, ⟨by omega, by omega⟩, HO9, P9, HB9⟩
              case round =>
                clear HO9 P9 HB9
                obtain ⟨i, rfl, HI, HO, PC, HB⟩ := hrel
                cases gk with
                | zero =>
                  have hi8 : i = 8 := by have := HI.out; omega
                  have hlt : decide (i < (8 : Int)) = false := decide_eq_false (by omega)
                  have hP := PC.out
                  rw [hi8, show (8 : Int).toNat = 8 from rfl, ← HPN.out] at hP
                  have PC2 := Aside0.mk hP
                  clear hP hi8 PC
                  go_wp2_with (first
                    | ((with_reducible refine gate_dst (N := 59) rfl ?_); refine load_parts rfl (.tmp 2) rfl w.heap.size (partsN l) rfl PC2.out (partsN_len l) ?_)
                    | ((with_reducible refine gate_ (.store 25 (.tmp 2) (.tmp 59)) rfl ?_); refine store_parts rfl (.tmp 2) (.tmp 59) rfl w.heap.size (partsN l) (partsN l) rfl rfl PC2.out (partsN_len l) (partsN_len l) ?_; intro w5 h5 hg5; have P5 := Aside0.mk h5; have HB5 := Aside0.mk (pw_below_grown HB.out _ (below_size HB.out) hg5 (fun k hk => Option.some.inj hk ▸ Nat.le_refl _)); clear h5 hg5))
                  exact bodyPost_ret (results_parts (p := 2) (u := 3) rfl _ _ _ (partsN l) rfl P5.out (partsN_len l)) rfl ⟨rfl, HB5.out⟩
                | succ k1 =>
                  have hi := HI.out
                  have hNl := HNl.out
                  have hlt : decide (i < (8 : Int)) = true := decide_eq_true (by omega)
                  have hw2 : wrap64 (i + 1) = i + 1 := by unfold wrap64; omega
                  have hw3 : wrap64 (2 * i) = 2 * i := by unfold wrap64; omega
                  have hw4 : wrap64 (2 * i + 1) = 2 * i + 1 := by unfold wrap64; omega
                  have hv3 : IntKind.i64.wrap (2 * i) = 2 * i := (i64_w _).trans hw3
                  have hv4 : IntKind.i64.wrap (2 * i + 1) = 2 * i + 1 := (i64_w _).trans hw4
                  have p1 : (0 ≤ i) = True := eq_true (by omega)
                  have p2 : (i < 8) = True := eq_true (by omega)
                  have p3 : (0 ≤ 2 * i) = True := eq_true (by omega)
                  have p4 : (2 * i < 16) = True := eq_true (by omega)
                  have p5 : (0 ≤ 2 * i + 1) = True := eq_true (by omega)
                  have p6 : (2 * i + 1 < 16) = True := eq_true (by omega)
                  have hC9 := (Kd.R_reads' HO.out).2.2
                  obtain ⟨ad9, eA, hx0⟩ := Kd.at_int hC9 (2 * i) (by omega) (by omega)
                  cases eA
                  obtain ⟨ad8, eA2, hx1⟩ := Kd.at_int hC9 (2 * i + 1) (by omega) (by omega)
                  cases eA2
                  have HI1 := Aside0.mk hi
                  have HI8 := Aside0.mk (show i.toNat < 8 ∧ i.toNat < (atN N i.toNat).length from ⟨by omega, by rw [atN_len N i.toNat (by omega)]; omega⟩)
                  have hc0 := PC.out.get0 i.toNat HI8.out.2
                  have hc1 := PC.out.get1 i.toNat HI8.out.2
                  have hf0 := blk_frozen PC.out (i.toNat * 2)
                  have hf1 := blk_frozen PC.out (i.toNat * 2 + 1)
                  clear hi hNl hC9
                  go_wp2
                  refine start_ (n := 15) (S := fun w' => w'.cell? (ad9.add (2 * i).toNat) = some (.int .u32 (rd N (2 * i))) ∧ w'.cell? (ad9.add (2 * i + 1).toNat) = some (.int .u32 (rd N (2 * i + 1)))) (ds := [14]) #[false, false, false, false, false, false, false, false, false, false, false, false, false, false, false] (by kernel_rfl) rfl rfl ⟨hx0, hx1⟩ (fun hHeld => ?_)
                  refine pure_ (i := 0) (N := some 44) (v := ?_) (a' := ?_) #[true, false, false, false, false, false, false, false, false, false, false, false, false, false, false] rfl rfl (by kernel_rfl) (fun _ _ _ h => h) (Or.inl ⟨by rfl, ?_⟩) ?_ ?_
                  rotate_left
                  · intro w'
                    go_simp
                    with_reducible rfl
                  rotate_left
                  · simp only [Act.put, List.setIfInBounds_toArray, List.set_cons_zero, List.set_cons_succ]
                    rfl
                  refine pure_ (i := 1) (N := some 45) (v := ?_) (a' := ?_) #[true, true, false, false, false, false, false, false, false, false, false, false, false, false, false] rfl rfl (by kernel_rfl) (fun _ _ _ h => h) (Or.inl ⟨by rfl, ?_⟩) ?_ ?_
                  rotate_left
                  · intro w'
                    go_simp
                    with_reducible rfl
                  rotate_left
                  · simp only [Act.put, List.setIfInBounds_toArray, List.set_cons_zero, List.set_cons_succ]
                    rfl
                  refine pure_ (i := 2) (N := some 46) (v := ?_) (a' := ?_) #[true, true, true, false, false, false, false, false, false, false, false, false, false, false, false] rfl rfl (by kernel_rfl) (fun _ _ _ h => h) (Or.inl ⟨by rfl, ?_⟩) ?_ ?_
                  rotate_left
                  · intro w'
                    go_simp
                    with_reducible rfl
                  rotate_left
                  · simp only [Act.put, List.setIfInBounds_toArray, List.set_cons_zero, List.set_cons_succ]
                    rfl
                  refine pure_ (i := 3) (N := some 47) (v := ?_) (a' := ?_) #[true, true, true, true, false, false, false, false, false, false, false, false, false, false, false] rfl rfl (by kernel_rfl) (fun _ _ _ h => h) (Or.inl ⟨by rfl, ?_⟩) ?_ ?_
                  rotate_left
                  · intro w'
                    go_simp
                    with_reducible rfl
                  rotate_left
                  · simp only [Act.put, List.setIfInBounds_toArray, List.set_cons_zero, List.set_cons_succ]
                    rfl
                  refine pure_ (i := 4) (N := some 48) (v := ?_) (a' := ?_) #[true, true, true, true, true, false, false, false, false, false, false, false, false, false, false] rfl rfl (by kernel_rfl) (fun _ _ _ h => h) (Or.inl ⟨by rfl, ?_⟩) ?_ ?_
                  rotate_left
                  · intro w'
                    go_simp
                    with_reducible rfl
                  rotate_left
                  · simp only [Act.put, List.setIfInBounds_toArray, List.set_cons_zero, List.set_cons_succ]
                    rfl
                  refine take_ (i := 5) (N := some 49) (v := .int .u32 (rd N (2 * i))) (a' := ?_) #[true, true, true, true, true, true, false, false, false, false, false, false, false, false, false] rfl rfl (by kernel_rfl) (fun _ _ _ h => h) (Or.inl ⟨by rfl, ?_⟩) hHeld ?_ ?_
                  rotate_left
                  rotate_left
                  · simp only [Act.put, List.setIfInBounds_toArray, List.set_cons_zero, List.set_cons_succ]
                    rfl
                  rotate_left
                  · rintro w' ⟨s0, s1⟩
                    go_simp
                  refine pure_ (i := 6) (N := some 50) (v := ?_) (a' := ?_) #[true, true, true, true, true, true, true, false, false, false, false, false, false, false, false] rfl rfl (by kernel_rfl) (fun _ _ _ h => h) (Or.inl ⟨by rfl, ?_⟩) ?_ ?_
                  rotate_left
                  · intro w'
                    go_simp
                    with_reducible rfl
                  rotate_left
                  · simp only [Act.put, List.setIfInBounds_toArray, List.set_cons_zero, List.set_cons_succ]
                    rfl
                  refine pure_ (i := 7) (N := some 51) (v := ?_) (a' := ?_) #[true, true, true, true, true, true, true, true, false, false, false, false, false, false, false] rfl rfl (by kernel_rfl) (fun _ _ _ h => h) (Or.inl ⟨by rfl, ?_⟩) ?_ ?_
                  rotate_left
                  · intro w'
                    go_simp
                    with_reducible rfl
                  rotate_left
                  · simp only [Act.put, List.setIfInBounds_toArray, List.set_cons_zero, List.set_cons_succ]
                    rfl
                  refine pure_ (i := 8) (N := some 52) (v := ?_) (a' := ?_) #[true, true, true, true, true, true, true, true, true, false, false, false, false, false, false] rfl rfl (by kernel_rfl) (fun _ _ _ h => h) (Or.inl ⟨by rfl, ?_⟩) ?_ ?_
                  rotate_left
                  · intro w'
                    go_simp
                    with_reducible rfl
                  rotate_left
                  · simp only [Act.put, List.setIfInBounds_toArray, List.set_cons_zero, List.set_cons_succ]
                    rfl
                  refine pure_ (i := 9) (N := some 53) (v := ?_) (a' := ?_) #[true, true, true, true, true, true, true, true, true, true, false, false, false, false, false] rfl rfl (by kernel_rfl) (fun _ _ _ h => h) (Or.inl ⟨by rfl, ?_⟩) ?_ ?_
                  rotate_left
                  · intro w'
                    go_simp
                    with_reducible rfl
                  rotate_left
                  · simp only [Act.put, List.setIfInBounds_toArray, List.set_cons_zero, List.set_cons_succ]
                    rfl
                  refine pure_ (i := 10) (N := some 54) (v := ?_) (a' := ?_) #[true, true, true, true, true, true, true, true, true, true, true, false, false, false, false] rfl rfl (by kernel_rfl) (fun _ _ _ h => h) (Or.inl ⟨by rfl, ?_⟩) ?_ ?_
                  rotate_left
                  · intro w'
                    go_simp
                    with_reducible rfl
                  rotate_left
                  · simp only [Act.put, List.setIfInBounds_toArray, List.set_cons_zero, List.set_cons_succ]
                    rfl
                  refine take_ (i := 11) (N := some 55) (v := .int .u32 (rd N (2 * i + 1))) (a' := ?_) #[true, true, true, true, true, true, true, true, true, true, true, true, false, false, false] rfl rfl (by kernel_rfl) (fun _ _ _ h => h) (Or.inl ⟨by rfl, ?_⟩) hHeld ?_ ?_
                  rotate_left
                  rotate_left
                  · simp only [Act.put, List.setIfInBounds_toArray, List.set_cons_zero, List.set_cons_succ]
                    rfl
                  rotate_left
                  · rintro w' ⟨s0, s1⟩
                    go_simp
                  refine pure_ (i := 12) (N := some 56) (v := ?_) (a' := ?_) #[true, true, true, true, true, true, true, true, true, true, true, true, true, false, false] rfl rfl (by kernel_rfl) (fun _ _ _ h => h) (Or.inl ⟨by rfl, ?_⟩) ?_ ?_
                  rotate_left
                  · intro w'
                    go_simp
                    with_reducible rfl
                  rotate_left
                  · simp only [Act.put, List.setIfInBounds_toArray, List.set_cons_zero, List.set_cons_succ]
                    rfl
                  refine pure_ (i := 13) (N := some 57) (v := ?_) (a' := ?_) #[true, true, true, true, true, true, true, true, true, true, true, true, true, true, false] rfl rfl (by kernel_rfl) (fun _ _ _ h => h) (Or.inl ⟨by rfl, ?_⟩) ?_ ?_
                  rotate_left
                  · intro w'
                    go_simp
                    with_reducible rfl
                  rotate_left
                  · simp only [Act.put, List.setIfInBounds_toArray, List.set_cons_zero, List.set_cons_succ]
                    rfl
                  refine last_ (i := 14) (N := none) #[true, true, true, true, true, true, true, true, true, true, true, true, true, true, true] rfl rfl (by kernel_rfl) (by decide) (fun K hK => ?_)
                  refine skip_stepN (by rfl) rfl (w1 := (wr.drew.setCell ⟨w.heap.size, i.toNat * 2, none⟩ (.int .u32 (rd N (2 * i)))).setCell ⟨w.heap.size, i.toNat * 2 + 1, none⟩ (.int .u32 (rd N (2 * i + 1)))) (by first | (go_simp; done) | (go_simp; rfl)) (hK.out _ _ ?_)
                  clear hK K
                  refine done_ (n := 0) (by kernel_rfl) ?_
                  go_wp2
                  go_roundg k1
                  case measure => omega
                  case rel =>
                    have hi := HI1.out
                    have hne : ∀ k, (Value.slice (some ad9) 16 c9).ownBlock = some k → k ≠ w.heap.size := fun k hk e => Kd.R_ne HO.out PC.out (by decide) (e ▸ hk.symm)
                    refine ⟨i + 1, congrArg (Value.int .i64) hw2, ⟨by omega, by omega⟩, ⟨Kd.R_drew (R_flat_put rfl (R_flat_put rfl HO.out hne) hne)⟩, ⟨?_⟩, ⟨below_drew (below_set (below_set HB.out (Nat.le_refl _)) (Nat.le_refl _))⟩⟩
                    have h0 := PC.out.set0 i.toNat HI8.out.2 (rd N (2 * i))
                    have h := h0.set1 i.toNat (by rw [List.length_set]; exact HI8.out.2) (rd N (2 * i + 1))
                    have hs : (atN N i.toNat).length = 8 := atN_len N i.toNat (by omega)
                    have hg : ((atN N i.toNat).set i.toNat (rd N (2 * i), ((atN N i.toNat).getD i.toNat (0, 0)).2)).getD i.toNat (0, 0) = (rd N (2 * i), ((atN N i.toNat).getD i.toNat (0, 0)).2) := by
                      rw [List.getD_eq_getElem?_getD, List.getElem?_set_self (by omega)]; rfl
                    rw [List.set_set, hg] at h
                    have he := atN_set N i.toNat (by omega)
                    unfold partN at he
                    rw [show ((i.toNat : Nat) : Int) = i by omega] at he
                    rw [he, show i.toNat + 1 = (i + 1).toNat by omega] at h
                    exact blk_drew h
          · have d1 : (n != 190) = true := bne_iff_ne.2 hn
            have d2 : (n == 190) = false := beq_false_of_ne hn
            obtain rfl : R = (noParts, 24) := by rw [HR.out, if_neg (by simp [hn])]
            clear HR
            go_enter Try.func13, Try.ntmps13
            go_wp2_with (first
              | (go_at_call 25; (with_reducible refine (HX.out _ (Kd.C_alloc HC.out _)).mono ?_); rintro e w7 ⟨rfl, hb⟩; have P7 := Aside0.mk (show PCell w7 w.heap.size noParts from PCell.below (blk_new w _) hb); have HB7 := Aside0.mk (below_step (below_alloc (Below.refl _ _) _) hb); have HC7 := Aside0.mk (Kd.C_below (Kd.C_alloc HC.out _) hb); have h508 := pw_cell_below HB7.out H508.out; have h509 := pw_cell_below HB7.out H509.out; clear hb)
              | ((with_reducible refine gate_dst (N := 34) rfl ?_); refine load_parts rfl (.tmp 2) rfl w.heap.size noParts rfl P7.out noParts_len ?_)
              | ((with_reducible refine gate_ (.store 25 (.tmp 2) (.tmp 34)) rfl ?_); refine store_parts rfl (.tmp 2) (.tmp 34) rfl w.heap.size noParts noParts rfl rfl P7.out noParts_len noParts_len ?_; intro w5 h5 hg5; have P5 := Aside0.mk h5; have HB5 := Aside0.mk (pw_below_grown HB7.out _ (below_size HB7.out) hg5 (fun k hk => Option.some.inj hk ▸ Nat.le_refl _)); clear h5 hg5))
            exact bodyPost_ret (results_parts (p := 2) (u := 3) rfl _ _ _ noParts rfl P5.out noParts_len) rfl ⟨rfl, HB5.out⟩
        · have d1 : (m != 218) = true := bne_iff_ne.2 hm
          have d2 : (m == 218) = false := beq_false_of_ne hm
          obtain rfl : R = (noParts, 24) := by rw [HR.out, if_neg (by simp [hm])]
          clear HR
          go_enter Try.func13, Try.ntmps13
          go_wp2_with (first
            | (go_at_call 25; (with_reducible refine (HX.out _ (Kd.C_alloc HC.out _)).mono ?_); rintro e w7 ⟨rfl, hb⟩; have P7 := Aside0.mk (show PCell w7 w.heap.size noParts from PCell.below (blk_new w _) hb); have HB7 := Aside0.mk (below_step (below_alloc (Below.refl _ _) _) hb); have HC7 := Aside0.mk (Kd.C_below (Kd.C_alloc HC.out _) hb); have h508 := pw_cell_below HB7.out H508.out; have h509 := pw_cell_below HB7.out H509.out; clear hb)
            | ((with_reducible refine gate_dst (N := 34) rfl ?_); refine load_parts rfl (.tmp 2) rfl w.heap.size noParts rfl P7.out noParts_len ?_)
            | ((with_reducible refine gate_ (.store 25 (.tmp 2) (.tmp 34)) rfl ?_); refine store_parts rfl (.tmp 2) (.tmp 34) rfl w.heap.size noParts noParts rfl rfl P7.out noParts_len noParts_len ?_; intro w5 h5 hg5; have P5 := Aside0.mk h5; have HB5 := Aside0.mk (pw_below_grown HB7.out _ (below_size HB7.out) hg5 (fun k hk => Option.some.inj hk ▸ Nat.le_refl _)); clear h5 hg5))
          exact bodyPost_ret (results_parts (p := 2) (u := 3) rfl _ _ _ noParts rfl P5.out noParts_len) rfl ⟨rfl, HB5.out⟩
      · have d1 : (y == 0) = false := beq_false_of_ne hy0
        obtain rfl : R = (noParts, 24) := by rw [HR.out, if_neg (by simp [hy0])]
        clear HR
        go_enter Try.func13, Try.ntmps13
        go_wp2_with (first
          | (go_at_call 25; (with_reducible refine (HX.out _ (Kd.C_alloc HC.out _)).mono ?_); rintro e w7 ⟨rfl, hb⟩; have P7 := Aside0.mk (show PCell w7 w.heap.size noParts from PCell.below (blk_new w _) hb); have HB7 := Aside0.mk (below_step (below_alloc (Below.refl _ _) _) hb); have HC7 := Aside0.mk (Kd.C_below (Kd.C_alloc HC.out _) hb); have h508 := pw_cell_below HB7.out H508.out; have h509 := pw_cell_below HB7.out H509.out; clear hb)
          | ((with_reducible refine gate_dst (N := 34) rfl ?_); refine load_parts rfl (.tmp 2) rfl w.heap.size noParts rfl P7.out noParts_len ?_)
          | ((with_reducible refine gate_ (.store 25 (.tmp 2) (.tmp 34)) rfl ?_); refine store_parts rfl (.tmp 2) (.tmp 34) rfl w.heap.size noParts noParts rfl rfl P7.out noParts_len noParts_len ?_; intro w5 h5 hg5; have P5 := Aside0.mk h5; have HB5 := Aside0.mk (pw_below_grown HB7.out _ (below_size HB7.out) hg5 (fun k hk => Option.some.inj hk ▸ Nat.le_refl _)); clear h5 hg5))
        exact bodyPost_ret (results_parts (p := 2) (u := 3) rfl _ _ _ noParts rfl P5.out noParts_len) rfl ⟨rfl, HB5.out⟩
    · have d1 : (x == 0) = false := beq_false_of_ne hx0
      obtain rfl : R = (noParts, 24) := by rw [HR.out, if_neg (by simp [hx0])]
      clear HR
      go_enter Try.func13, Try.ntmps13
      go_wp2_with (first
        | (go_at_call 25; (with_reducible refine (HX.out _ (Kd.C_alloc HC.out _)).mono ?_); rintro e w7 ⟨rfl, hb⟩; have P7 := Aside0.mk (show PCell w7 w.heap.size noParts from PCell.below (blk_new w _) hb); have HB7 := Aside0.mk (below_step (below_alloc (Below.refl _ _) _) hb); have HC7 := Aside0.mk (Kd.C_below (Kd.C_alloc HC.out _) hb); have h508 := pw_cell_below HB7.out H508.out; have h509 := pw_cell_below HB7.out H509.out; clear hb)
        | ((with_reducible refine gate_dst (N := 34) rfl ?_); refine load_parts rfl (.tmp 2) rfl w.heap.size noParts rfl P7.out noParts_len ?_)
        | ((with_reducible refine gate_ (.store 25 (.tmp 2) (.tmp 34)) rfl ?_); refine store_parts rfl (.tmp 2) (.tmp 34) rfl w.heap.size noParts noParts rfl rfl P7.out noParts_len noParts_len ?_; intro w5 h5 hg5; have P5 := Aside0.mk h5; have HB5 := Aside0.mk (pw_below_grown HB7.out _ (below_size HB7.out) hg5 (fun k hk => Option.some.inj hk ▸ Nat.le_refl _)); clear h5 hg5))
      exact bodyPost_ret (results_parts (p := 2) (u := 3) rfl _ _ _ noParts rfl P5.out noParts_len) rfl ⟨rfl, HB5.out⟩
  · rw [if_neg hl] at hR
    have d0 : ((l.length : Int) != 512) = true := bne_iff_ne.2 (by omega)
    obtain rfl := hR
    clear hl hC hc
    go_enter Try.func13, Try.ntmps13
    go_wp2
    exact bodyPost_ret (results_parts (p := 2) (u := 3) rfl _ _ w.heap.size noParts rfl (blk_new w _) noParts_len) rfl ⟨rfl, below_alloc (Below.refl _ _) _⟩
end Go.Proofs.Ytnbomjfpnpmllaa.Q
