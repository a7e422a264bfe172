/- Contracts of Go functions and plain facts, of several texts, one behind the other; no condition. -/
import Derived.Test.YtlhnaplmphdhlaaDoorMJoins1
import Derived.Test.YtlhnaplmphdhlaaDoorMJoins2
import Derived.Test.YtlhnaplmphdhlaaDoorWZeros
import Derived.ChangeArms
import Derived.OpenShut
import Derived.SizedLaws
section
set_option linter.unusedSimpArgs false
set_option linter.unusedVariables false
namespace Go.Proofs.YtlhnaplmphdhlaaDoor.Q
open Go.RowKit Go.Proofs.YtlhnaplmphdhlaaDoorW.PrintWords Go.Proofs.YtlhnaplmphdhlaaDoorW.PrintLast Go.Proofs.YtlhnaplmphdhlaaDoorW.PrintMore
theorem R_none0 {W : World} {g n c base : Nat} {xs : List Int} (h : Kd.R (Kd.int .u8) 5 W base (fun _ => True) (.slice (some ⟨g, 0, none⟩) n c) xs) : Kd.R (Kd.int .u8) 5 W base (fun _ => True) (.slice (some ⟨g, 0, none⟩) 0 c) [] := by
  have ho := Kd.own_of_R h
  obtain ⟨hl, ho⟩ := ho
  refine Kd.R_of_own (xs := []) ⟨rfl, .inr ?_⟩ (fun _ _ => trivial)
  rcases ho with ⟨h1, _⟩ | ⟨g', cap', cur, hv, hb, hg, hn, hcm, hsz, _⟩
  · cases h1
  · injection hv with h1 h2 h3
    injection h1 with h1
    injection h1 with h1
    subst h1
    subst h3
    exact ⟨g, c, cur, rfl, hb, hg, Nat.zero_le _, hcm, hsz, rfl⟩
set_option maxRecDepth 100000 in
set_option maxHeartbeats 2000000 in
theorem grow_calls (n : Int) (h0 : 0 ≤ n) (hn : n ≤ 256) (w : World) : Calls Tryd.prog 68 #[.slice none 0 0, .int .i64 n] w fun e w' => ∃ v, e = .returned v ∧ Kd.R (Kd.int .u8) 5 w' w.heap.size (fun _ => True) v [] ∧ Below w.heap.size w w' := by
  have d1 : decide (n < 0) = false := decide_eq_false (by omega)
  by_cases hp : 0 < n
  · have d2 : decide (0 < n) = true := decide_eq_true hp
    have HN := Aside0.mk (show 0 ≤ n ∧ n ≤ 256 ∧ 0 < n from ⟨h0, hn, hp⟩)
    clear hp
    go_enter Tryd.func68, Tryd.ntmps68
    go_wp2_with (at_builtin; refine Kd.R_append_zeros (Kd.int .u8) (w0 := w) w.heap.size rfl (.tmp 20) (.tmp 21) 25 3 5 (.int .u8 0) 1 rfl Tryd.underlying25 Tryd.underlying3 info5 rfl (by decide) (by decide) (.slice none 0 0) [] 0 n (fun _ => True) rfl rfl rfl (fun _ _ => trivial) (Kd.R_nil _ _ _ _ _) HN.out.1 (Below.refl _ _) (Nat.le_refl _) (by have := HN.out; simp; omega) ?_; intro v1 w1 hR hb _ _; obtain ⟨g, cap, hv, hgb, hgs, _⟩ := Kd.R_form hR (by have := HN.out; simp; omega); subst hv; have HR := Aside0.mk (R_none0 hR); have HB := Aside0.mk hb; clear hR hb hgb hgs)
    go_ret
    exact ⟨_, rfl, HR.out, HB.out⟩
  · obtain rfl : n = 0 := by omega
    go_enter Tryd.func68, Tryd.ntmps68
    go_wp2
    go_ret
    exact ⟨_, rfl, Kd.R_nil _ _ _ _ _, Below.refl _ _⟩
theorem at_slice {α : Type} {e : Nat} {d : Kd α} {w : World} {A : Option Addr} {n : Nat} {xs : List (List α)} (h : (Kd.slice e d).C w A n xs) (i : Int) (h0 : 0 ≤ i) (h1 : i < n) :
    ∃ ad A' c', A = some ad ∧ w.cell? (ad.add i.toNat) = some (.slice A' (xs.getD i.toNat []).length c') ∧ (xs.getD i.toNat []).length ≤ c' ∧ d.C w A' (xs.getD i.toNat []).length (xs.getD i.toNat []) := by
  obtain ⟨ad, c, hA, hc, ⟨A', c', rfl, hl, hC⟩, hcell⟩ := ReadsRow.get_ h [] i h0 h1
  refine ⟨ad, A', c', hA, ?_, hl, hC⟩
  have h2 := hcell 0 _ rfl
  have h3 : (Kd.slice e d).sz = 1 := rfl
  rw [h3, Nat.mul_one, Nat.add_zero] at h2
  exact h2
def sumL (parts : List (List Int)) (k : Nat) : Nat := (parts.take k).flatten.length
theorem sumL_succ (parts : List (List Int)) (k : Nat) (h : k < parts.length) : sumL parts (k + 1) = sumL parts k + (parts.getD k []).length := by
  unfold sumL
  rw [List.take_succ_eq_append_getElem h, List.flatten_append, List.length_append, List.getD_eq_getElem?_getD, List.getElem?_eq_getElem h]
  simp
theorem sumL_le (parts : List (List Int)) (k : Nat) : sumL parts k ≤ parts.flatten.length := by
  unfold sumL
  conv => rhs; rw [← List.take_append_drop k parts, List.flatten_append, List.length_append]
  omega
theorem flat_succ (parts : List (List Int)) (k : Nat) (h : k < parts.length) : (parts.take (k + 1)).flatten = (parts.take k).flatten ++ parts.getD k [] := by
  rw [List.take_succ_eq_append_getElem h, List.flatten_append, List.getD_eq_getElem?_getD, List.getElem?_eq_getElem h]
  simp
set_option maxRecDepth 100000 in
set_option maxHeartbeats 4000000 in
theorem concat_calls (A : Option Addr) (c : Nat) (parts : List (List Int)) (w : World) (hC : Kd.C (Kd.slice 5 (Kd.int .u8)) w A parts.length parts) (hc : parts.length ≤ c) (ht : parts.flatten.length ≤ 256) :
    Calls Tryd.prog 46 #[.slice A parts.length c] w fun e w' => ∃ v, e = .returned v ∧ Kd.R (Kd.int .u8) 5 w' w.heap.size (fun _ => True) v parts.flatten ∧ Below w.heap.size w w' := by
  have hm := hC.2.1
  obtain ⟨tl, htl⟩ : ∃ tl, tl = parts.flatten.length := ⟨_, rfl⟩
  have HTL := Aside0.mk htl
  have HG := Aside0.mk (show ∀ W : World, Calls Tryd.prog 68 #[.slice none 0 0, .int .i64 ((tl : Nat) : Int)] W (fun e w' => ∃ v, e = .returned v ∧ Kd.R (Kd.int .u8) 5 w' W.heap.size (fun _ => True) v [] ∧ Below W.heap.size W w') from fun W => grow_calls _ (by omega) (by omega) W)
  have HC := Aside0.mk hC
  have HT := Aside0.mk ht
  clear hC hc ht htl
  go_enter Tryd.func46, Tryd.ntmps46
  go_wp2
  go_loop [3, 11] (fun s i => ∃ k : Nat, k ≤ parts.length ∧ i = .int .i64 k ∧ s = .int .i64 (sumL parts k)) (fun _ i => parts.length - (intOf i).toNat)
  case atStart => exact ⟨0, Nat.zero_le _, rfl, rfl⟩
  case round =>
    obtain ⟨k, hk, rfl, rfl⟩ := hrel
    by_cases hlt : k < parts.length
    · obtain ⟨ad, A', c', rfl, hcell, -, -⟩ := at_slice HC.out k (by omega) (by omega)
      rw [Int.toNat_natCast] at hcell
      have hss := sumL_succ parts k hlt
      have hsl := sumL_le parts (k + 1)
      have ht := HT.out
      have q1 : IntKind.i64.wrap ((sumL parts k : Nat) + ((parts.getD k []).length : Nat) : Int) = (sumL parts (k + 1) : Nat) := (i64_w _).trans (by unfold wrap64; omega)
      have q2 : wrap64 ((sumL parts k : Nat) + ((parts.getD k []).length : Nat) : Int) = (sumL parts (k + 1) : Nat) := by unfold wrap64; omega
      have q3 : decide (((sumL parts (k + 1) : Nat) : Int) < 0) = false := decide_eq_false (by omega)
      clear hss hsl ht
      generalize hp : (parts.getD k []).length = pl at *
      generalize hs1 : sumL parts (k + 1) = s1 at *
      generalize sumL parts k = s0 at *
      go_wp2
      go_round
      case rel => exact ⟨k + 1, by omega, by go_num, by rw [hs1]⟩
      case measure => simp [intOf]; omega
    · obtain rfl : k = parts.length := by omega
      have hfl : sumL parts parts.length = parts.flatten.length := by unfold sumL; rw [List.take_of_length_le (Nat.le_refl _)]
      rw [hfl, ← HTL.out]
      clear hfl
      go_wp2_with (go_at_call 68; (with_reducible refine (HG.out _).mono ?_); rintro e w1 ⟨v1, rfl, hR, hb⟩; have HR1 := Aside0.mk hR; have HB1 := Aside0.mk hb; clear hR hb)
      go_loopw [6, 27] (fun v i wr => ∃ k : Nat, k ≤ parts.length ∧ i = .int .i64 k ∧ Aside0 (Kd.R (Kd.int .u8) 5 wr w.heap.size (fun _ => True) v (parts.take k).flatten) ∧ Aside0 (Below w.heap.size w wr)) (fun _ i _ => parts.length - (intOf i).toNat)
      case atStart => exact ⟨0, Nat.zero_le _, rfl, ⟨HR1.out⟩, HB1⟩
      case round =>
        obtain ⟨k, hk, rfl, HR, HB⟩ := hrel
        clear HR1 HB1
        by_cases hlt : k < parts.length
        · obtain ⟨ad, A', c', rfl, hcell, hc', hC'⟩ := at_slice (Kd.C_below HC.out HB.out) k (by omega) (by omega)
          rw [Int.toNat_natCast] at hcell hc' hC'
          have HFS := Aside0.mk (flat_succ parts k hlt)
          have HLS := Aside0.mk (show (parts.take k).flatten.length + (parts.getD k []).length ≤ 256 by
            have h1 := sumL_succ parts k hlt
            have h2 := sumL_le parts (k + 1)
            have h3 := HT.out
            unfold sumL at h1 h2
            omega)
          obtain ⟨pk, hpk⟩ : ∃ pk, pk = parts.getD k [] := ⟨_, rfl⟩
          obtain ⟨fk, hfk⟩ : ∃ fk, fk = (parts.take k).flatten := ⟨_, rfl⟩
          rw [← hpk] at hcell hC'
          rw [← hpk, ← hfk] at HFS HLS
          rw [← hfk] at HR
          clear hpk hfk
          have HCC := Aside0.mk hC'
          clear hc' hC'
          go_wp2_with (at_builtin; refine Kd.R_append_rows (Kd.int .u8) (w0 := w) w.heap.size rfl (.tmp 31) (.tmp 32) 25 5 (.int .u8 0) 1 rfl Tryd.underlying25 info5 rfl (by decide) (by omega) _ fk pk _ _ _ (fun _ => True) (fun _ => False) rfl rfl HR.out HCC.out (fun _ _ h => h) (fun _ h => h.elim) (fun _ _ => trivial) HB.out HB.out.size (by have := HLS.out; omega) ?_; intro v1 w1 ho hb hg hat; have HO := Aside0.mk ho; have HB2 := Aside0.mk hb; clear ho hb hg hat)
          go_roundw
          case rel => exact ⟨k + 1, by omega, by go_num, ⟨by rw [HFS.out]; exact HO.out⟩, HB2⟩
          case measure => simp [intOf]; omega
        · obtain rfl : k = parts.length := by omega
          have hR := HR.out
          rw [List.take_of_length_le (Nat.le_refl _)] at hR
          have HR2 := Aside0.mk hR
          clear hR
          go_wp2
          go_ret
          exact ⟨_, rfl, HR2.out, HB.out⟩
def joinF (parts : List (List Int)) : List Int × Int := if parts.flatten.length ≤ 256 then (parts.flatten, 0) else ([], 3)
set_option maxRecDepth 100000 in
set_option maxHeartbeats 4000000 in
theorem join_calls (A : Option Addr) (c : Nat) (parts : List (List Int)) (w : World) (hC : Kd.C (Kd.slice 5 (Kd.int .u8)) w A parts.length parts) (hc : parts.length ≤ c) (hb : ∀ p ∈ parts, p.length ≤ 140737488351232) :
    Calls Tryd.prog 22 #[.slice A parts.length c] w fun e w' => ∃ v, e = .returned (.tuple #[v, .int .i64 (joinF parts).2]) ∧ Kd.R (Kd.int .u8) 5 w' w.heap.size (fun _ => True) v (joinF parts).1 ∧ Below w.heap.size w w' := by
  have hm := hC.2.1
  obtain ⟨R, hR⟩ : ∃ R, R = joinF parts := ⟨_, rfl⟩
  rw [← hR]
  have HR := Aside0.mk hR
  have HC := Aside0.mk hC
  have HCc := Aside0.mk hc
  have HP := Aside0.mk (show ∀ k, k < parts.length → (parts.getD k []).length ≤ 140737488351232 from fun k hk => hb _ (by rw [List.getD_eq_getElem?_getD, List.getElem?_eq_getElem hk]; exact List.getElem_mem hk))
  clear hR hC hc hb
  go_enter Tryd.func22, Tryd.ntmps22
  go_wp2
  go_loop [4, 9] (fun s i => ∃ k : Nat, k ≤ parts.length ∧ i = .int .i64 k ∧ s = .int .i64 (sumL parts k) ∧ Aside0 (sumL parts k ≤ 256)) (fun _ i => parts.length - (intOf i).toNat)
  case atStart => exact ⟨0, Nat.zero_le _, rfl, rfl, ⟨by simp [sumL]⟩⟩
  case round =>
    obtain ⟨k, hk, rfl, rfl, HS⟩ := hrel
    by_cases hlt : k < parts.length
    · obtain ⟨ad, A', c', rfl, hcell, -, -⟩ := at_slice HC.out k (by omega) (by omega)
      rw [Int.toNat_natCast] at hcell
      have hss := sumL_succ parts k hlt
      have hsl := sumL_le parts (k + 1)
      have hs0 := HS.out
      have hp0 := HP.out k hlt
      have q1 : IntKind.i64.wrap ((sumL parts k : Nat) + ((parts.getD k []).length : Nat) : Int) = (sumL parts (k + 1) : Nat) := (i64_w _).trans (by unfold wrap64; omega)
      have q2 : wrap64 ((sumL parts k : Nat) + ((parts.getD k []).length : Nat) : Int) = (sumL parts (k + 1) : Nat) := by unfold wrap64; omega
      by_cases h2 : sumL parts (k + 1) ≤ 256
      · have q3 : decide ((256 : Int) < ((sumL parts (k + 1) : Nat) : Int)) = false := decide_eq_false (by omega)
        have HS2 := Aside0.mk h2
        clear hss hsl hs0 hp0 h2 HS
        generalize hp : (parts.getD k []).length = pl at *
        generalize hs1 : sumL parts (k + 1) = s1 at *
        generalize sumL parts k = s0 at *
        go_wp2
        go_round
        case rel => exact ⟨k + 1, by omega, by go_num, by rw [hs1], by rw [hs1]; exact HS2⟩
        case measure => simp [intOf]; omega
      · have q3 : decide ((256 : Int) < ((sumL parts (k + 1) : Nat) : Int)) = true := decide_eq_true (by omega)
        have hR := HR.out
        unfold joinF at hR
        rw [if_neg (by omega)] at hR
        subst hR
        clear hss hsl hs0 hp0 h2 HS
        generalize hp : (parts.getD k []).length = pl at *
        generalize hs1 : sumL parts (k + 1) = s1 at *
        generalize sumL parts k = s0 at *
        go_wp2
        go_ret2
        exact ⟨_, rfl, Kd.R_nil _ _ _ _ _, Below.refl _ _⟩
    · obtain rfl : k = parts.length := by omega
      have hfl : sumL parts parts.length = parts.flatten.length := by unfold sumL; rw [List.take_of_length_le (Nat.le_refl _)]
      have hs := HS.out
      rw [hfl] at hs
      have hR := HR.out
      unfold joinF at hR
      rw [if_pos hs] at hR
      subst hR
      have HK := Aside0.mk (concat_calls A c parts w HC.out HCc.out hs)
      clear hs hfl HS
      generalize sumL parts parts.length = s0 at *
      go_wp2_with (go_at_call 46; (with_reducible refine HK.out.mono ?_); rintro e w1 ⟨v1, rfl, hR, hb⟩; have HR1 := Aside0.mk hR; have HB1 := Aside0.mk hb; clear hR hb)
      go_ret2
      exact ⟨_, rfl, HR1.out, HB1.out⟩
theorem ref_join_go (parts : List (List Int)) (hm : parts.length ≤ 9223372036854775807) (hb : ∀ p ∈ parts, p.length ≤ 140737488351232) : ∀ (d k : Nat) (i : Int), 0 ≤ i → i + d = parts.length → d + 1 ≤ k → sumL parts i.toNat ≤ 256 → tinderref05_Join.l0 k parts (parts.take i.toNat).flatten i = some (joinF parts)
  | 0, k, i, h0, h1, hk, hs => by
    obtain ⟨k, rfl⟩ : ∃ m, k = m + 1 := ⟨k - 1, by omega⟩
    have e : i.toNat = parts.length := by omega
    rw [tinderref05_Join.l0, if_neg (by omega), e, List.take_of_length_le (Nat.le_refl _)]
    unfold sumL at hs
    rw [e, List.take_of_length_le (Nat.le_refl _)] at hs
    unfold joinF
    rw [if_pos hs]
  | d + 1, k, i, h0, h1, hk, hs => by
    obtain ⟨k, rfl⟩ : ∃ m, k = m + 1 := ⟨k - 1, by omega⟩
    have hlt : i.toNat < parts.length := by omega
    have hss := sumL_succ parts i.toNat hlt
    have hsl := sumL_le parts (i.toNat + 1)
    have hrd : rd_L11 parts i = parts.getD i.toNat [] := rfl
    have hpl : (parts.getD i.toNat []).length ≤ 140737488351232 := hb _ (by rw [List.getD_eq_getElem?_getD, List.getElem?_eq_getElem hlt]; exact List.getElem_mem hlt)
    have hl : (parts.take i.toNat).flatten.length = sumL parts i.toNat := rfl
    have hw : wrap64 (256 - ((parts.take i.toNat).flatten.length : Int)) = 256 - (sumL parts i.toNat : Int) := by rw [hl]; unfold wrap64; omega
    rw [tinderref05_Join.l0, if_pos (by omega), if_pos h0, hrd, hw]
    by_cases h2 : sumL parts (i.toNat + 1) ≤ 256
    · have ih := ref_join_go parts hm hb d k (i + 1) (by omega) (by omega) (by omega) (by rw [show (i + 1).toNat = i.toNat + 1 by omega]; exact h2)
      rw [if_neg (by omega), if_pos (by rw [hl]; omega), show wrap64 (i + 1) = i + 1 by unfold wrap64; omega, ← flat_succ parts i.toNat hlt, show i.toNat + 1 = (i + 1).toNat by omega]
      exact ih
    · rw [if_pos (by omega)]
      unfold joinF
      rw [if_neg (by omega)]
theorem ref_join_eq (parts : List (List Int)) (hm : parts.length ≤ 9223372036854775807) (hb : ∀ p ∈ parts, p.length ≤ 140737488351232) : tinderref05_Join.f (parts.length + 1) parts = some (joinF parts) := by
  unfold tinderref05_Join.f
  have h := ref_join_go parts hm hb parts.length (parts.length + 1) 0 (Int.le_refl 0) (by omega) (Nat.le_refl _) (by simp [sumL])
  exact h
end Go.Proofs.YtlhnaplmphdhlaaDoor.Q
end
section
set_option linter.unusedSimpArgs false
set_option linter.unusedVariables false
namespace Go.Proofs.YtlhnaplmphdhlaaDoor.Q
open Go.RowKit Go.Proofs.YtlhnaplmphdhlaaDoorW.PrintWords Go.Proofs.YtlhnaplmphdhlaaDoorW.PrintLast
set_option maxRecDepth 100000 in
set_option maxHeartbeats 4000000 in
theorem propJoins_row {w : World} (ht : Tabs w) (A : Option Addr) (c : Nat) (parts : List (List Int)) (hC : Kd.C (Kd.slice 5 (Kd.int .u8)) w A parts.length parts) (hc : parts.length ≤ c) (hg : parts.length * 24 ≤ 140737488351232 ∧ ∀ p ∈ parts, p.length * 1 ≤ 140737488351232 ∧ ∀ a ∈ p, (Lit.int .u8 a).wf = true) :
    Calls Tryd.prog 5 #[.slice A parts.length c] w fun e w' => e = .returned (.bool true) ∧ Below w.heap.size w w' := by
  clear ht
  have hb : ∀ p ∈ parts, p.length ≤ 140737488351232 := fun p hp => by have := (hg.2 p hp).1; omega
  have hm := hC.2.1
  obtain ⟨L, hL⟩ : ∃ L, L = (joinF parts).1 := ⟨_, rfl⟩
  obtain ⟨e0, he0⟩ : ∃ e0, e0 = (joinF parts).2 := ⟨_, rfl⟩
  have HE := Aside0.mk (show ∀ W : World, Below w.heap.size w W → Calls Tryd.prog 22 #[.slice A parts.length c] W (fun e w' => ∃ A c, e = .returned (.tuple #[.slice A L.length c, .int .i64 e0]) ∧ L.length ≤ c ∧ Kd.C (Kd.int .u8) w' A L.length L ∧ Below W.heap.size W w') from fun W hW => by
    refine (join_calls A c parts W (Kd.C_below hC hW) hc hb).mono ?_
    rintro e w' ⟨v, rfl, hR, hb⟩
    rw [← hL] at hR
    obtain ⟨A, c, rfl, hc, hC⟩ := Kd.R_reads hR
    exact ⟨A, c, by rw [he0], hc, hC, hb⟩)
  have HF := Aside0.mk (show ∀ W : World, Below w.heap.size w W → Calls Tryd.prog 23 #[.slice A parts.length c] W (fun e w' => ∃ A c, e = .returned (.tuple #[.slice A L.length c, .int .i64 e0]) ∧ L.length ≤ c ∧ Kd.C (Kd.int .u8) w' A L.length L ∧ Below W.heap.size W w') from fun W hW => by
    refine (tinderref05_Join.calls (parts.length + 1) A c parts L e0 W (Kd.C_below hC hW) hc (by rw [ref_join_eq parts hm hb, hL, he0])).mono ?_
    rintro e w' ⟨v, rfl, hR, hb⟩
    obtain ⟨A, c, rfl, hc, hC⟩ := Kd.R_reads hR
    exact ⟨A, c, rfl, hc, hC, hb⟩)
  clear hL he0 hC hc hg hb hm
  go_enter Tryd.func5, Tryd.ntmps5
  go_wp2_with (first
    | (go_at_call 14; (with_reducible refine (alive_calls _).mono ?_); rintro e w1 ⟨rfl, hb⟩; have HB1 := Aside0.mk hb; clear hb)
    | (go_at_call 22; (with_reducible refine (HE.out _ HB1.out).mono ?_); rintro e w2 ⟨A2, c2, rfl, hc, hC, hb⟩; have HB2 := Aside0.mk (below_step HB1.out hb); have HC2 := Aside0.mk hC; have HK2 := Aside0.mk hc; clear hc hC hb)
    | (go_at_call 23; (with_reducible refine (HF.out _ HB2.out).mono ?_); rintro e w3 ⟨A3, c3, rfl, hc, hC, hb⟩; have HB3 := Aside0.mk (below_step HB2.out hb); have HC3 := Aside0.mk hC; have HK3 := Aside0.mk hc; have HC23 := Aside0.mk (Kd.C_below HC2.out hb); clear hc hC hb)
    | (go_at_call 19; (with_reducible refine (same_at _ _ _ _ _ L _ rfl HC23.out HK2.out HC3.out HK3.out).mono ?_); rintro e w7 ⟨rfl, hb⟩; have HB7 := Aside0.mk (below_step HB3.out hb); clear hb))
  go_ret
  exact ⟨rfl, HB7.out⟩
end Go.Proofs.YtlhnaplmphdhlaaDoor.Q
end
section
namespace Go.Proofs.YtlhnaplmphdhlaaDoor.Q
open Go.RowKit Go.Proofs.YtlhnaplmphdhlaaDoorW.PrintWords Go.Proofs.YtlhnaplmphdhlaaDoorW.PrintLast Go.Proofs.YtlhnaplmphdhlaaDoorW.PrintMore
def Opens {α : Type} (P : Program) (t : TypeId) (d : Kd α) (G : α → Prop) : Prop :=
  ∀ (H : Type) (enc : TypeId × Value → H) (W : World) (fuel : Nat) (cs : List Value) (x : DataW H × List MemPlace), DataW.trod enc P W 0 (fun _ => true) true fuel t cs = some x → (∀ n ∈ x.1.weights P t, n ≤ reachBytes) → ∃ a, d.K W a cs ∧ G a
section
variable {P : Program} {t e : TypeId}
theorem opens_int {k : IntKind} (ht : P.underlying t = some (.int k)) : Opens P t (Kd.int k) (fun n => (Lit.int k n).wf = true) := by
  intro H enc W fuel cs x h _
  obtain ⟨n, rfl, _, hw⟩ := DataW.trod_int ht h
  exact ⟨n, rfl, hw⟩
theorem opens_bool (ht : P.underlying t = some .bool) : Opens P t Kd.bool (fun _ => True) := by
  intro H enc W fuel cs x h _
  obtain ⟨b, rfl, _⟩ := DataW.trod_bool ht h
  exact ⟨b, rfl, trivial⟩
theorem opens_string (ht : P.underlying t = some .string) : Opens P t Kd.string (fun s => s.size ≤ 140737488351232) := by
  intro H enc W fuel cs x h hw
  obtain ⟨s, rfl, rfl, _⟩ := DataW.trod_string ht h
  have := hw s.data.toList.length (by simp [DataW.weights])
  exact ⟨s, rfl, by simpa [reachBytes] using this⟩
theorem weights_all {H : Type} {P : Program} {e : TypeId} : ∀ {l : List (DataW H)} {d : DataW H}, d ∈ l → ∀ n ∈ d.weights P e, n ∈ DataW.weightsAll P e l
  | d0 :: l, d, hd, n, hn => by
    simp only [DataW.weightsAll, List.mem_append]
    rcases List.mem_cons.1 hd with rfl | hd
    · exact .inl hn
    · exact .inr (weights_all hd n hn)
theorem cells_get {W : World} {base : Nat} {a : Addr} {n : Nat} {c : List Value} (h : W.cells? base a n = some c) : c.length = n ∧ ∀ i u, c[i]? = some u → W.cell? (a.add i) = some u := by
  unfold World.cells? at h
  split at h
  · have hl := mapM_some_length h
    refine ⟨by simpa using hl, fun i u hu => ?_⟩
    have hi : i < n := by
      have := (List.getElem?_eq_some_iff.1 hu).1
      simp at hl
      omega
    have := mapM_some_get h i i (by simp [hi])
    rw [this, hu]
  · cases h
theorem opens_slice {α : Type} {d : Kd α} {G : α → Prop} (ht : P.underlying t = some (.slice e)) (hc : P.cellsOf e = d.sz) (b : Nat) (hb : P.bytesOf e = b) (he : Opens P e d G) :
    Opens P t (Kd.slice e d) (fun xs => xs.length * b ≤ 140737488351232 ∧ ∀ a ∈ xs, G a) := by
  intro H enc W fuel cs x h hw
  rcases DataW.trod_slice ht h with ⟨rfl, _⟩ | ⟨a, len, cap, elems, rest, n, _, rfl, rfl, _, hl, hm, hlen, hel, _⟩
  · exact ⟨[], ⟨none, 0, rfl, Nat.le_refl _, Kd.C_nil d W⟩, by simp, fun a h => by cases h⟩
  · have hwt : (elems.length + rest.length) * b ≤ 140737488351232 := by
      have := hw ((elems.length + rest.length) * P.bytesOf e) (by simp [DataW.weights, ht])
      rw [hb] at this
      simpa [reachBytes] using this
    have hall : ∀ i : Fin len, ∃ p : α, ∃ c, c.length = d.sz ∧ d.K W p c ∧ G p ∧ ∀ j u, c[j]? = some u → W.cell? (a.add (i.1 * d.sz + j)) = some u := by
      intro i
      have hi : i.1 < elems.length := by have := i.2; omega
      have h1 := hel i.1 i.2
      rw [List.getElem?_eq_getElem hi] at h1
      obtain ⟨c, hcs, htr⟩ := Option.bind_eq_some_iff.1 h1
      obtain ⟨hcl, hcg⟩ := cells_get hcs
      obtain ⟨p, hK, hG⟩ := he H enc W n c _ htr (fun m hm => hw m (by
        simp only [DataW.weights, ht, List.mem_cons, List.mem_append]
        exact .inr (.inl (weights_all (List.mem_map.2 ⟨_, List.getElem_mem hi, rfl⟩) m hm))))
      refine ⟨p, c, by rw [hcl, hc], hK, hG, fun j u hu => ?_⟩
      have := hcg j u hu
      rw [add_add, hc] at this
      exact this
    refine ⟨List.ofFn fun i => Classical.choose (hall i), ⟨some a, cap, by simp, by simpa using hl, by simp, by simp only [maxLen] at hm; simp; omega, fun _ => ⟨a, rfl, fun j p hj => ?_⟩⟩, ?_, ?_⟩
    · obtain ⟨hjl, hjp⟩ := List.getElem?_eq_some_iff.1 hj
      simp only [List.length_ofFn] at hjl
      have h2 := Classical.choose_spec (hall ⟨j, hjl⟩)
      rw [List.getElem_ofFn] at hjp
      rw [hjp] at h2
      obtain ⟨c, h3, h4, _, h6⟩ := h2
      exact ⟨c, h3, h4, h6⟩
    · rw [List.length_ofFn]
      refine Nat.le_trans (Nat.mul_le_mul_right b ?_) hwt
      omega
    · intro p hp
      obtain ⟨i, rfl⟩ := (List.mem_ofFn).1 hp
      obtain ⟨_, _, _, h5, _⟩ := Classical.choose_spec (hall i)
      exact h5
/-- The fields of a struct from one on, one behind the other. -/
def OpensFields {α : Type} (P : Program) (fs : List Field) (off : Nat) (d : Kd α) (G : α → Prop) : Prop :=
  ∀ (H : Type) (enc : TypeId × Value → H) (W : World) (fuel : Nat) (cs : List Value) (xs : List (DataW H × List MemPlace)), off + d.sz = cs.length → xs.length = fs.length →
    (∀ (i : Nat) (f : Field), fs[i]? = some f → DataW.trod enc P W 0 (fun _ => true) true fuel f.type ((cs.drop f.offset).take (P.cellsOf f.type)) = xs[i]?) →
    (∀ n ∈ DataW.weightsEach P (fs.map (·.type)) (xs.map (·.1)), n ≤ reachBytes) → ∃ a, d.K W a (cs.drop off) ∧ G a
theorem opens_one {α : Type} {d : Kd α} {G : α → Prop} {f : Field} {off : Nat} (ho : f.offset = off) (hc : P.cellsOf f.type = d.sz) (he : Opens P f.type d G) : OpensFields P [f] off d G := by
  intro H enc W fuel cs xs hl hx hf hw
  match xs, hx with
  | [x], _ =>
    have h0 := hf 0 f rfl
    rw [ho, hc, List.take_of_length_le (by rw [List.length_drop]; omega)] at h0
    exact he H enc W fuel _ x h0 (fun n hn => hw n (by simpa [DataW.weightsEach] using hn))
theorem opens_more {α β : Type} {d : Kd α} {d2 : Kd β} {G : α → Prop} {G2 : β → Prop} {f : Field} {fs : List Field} {off : Nat} (ho : f.offset = off) (hc : P.cellsOf f.type = d.sz) (he : Opens P f.type d G) (hs : OpensFields P fs (off + d.sz) d2 G2) :
    OpensFields P (f :: fs) off (Kd.pair d d2) (fun p => G p.1 ∧ G2 p.2) := by
  intro H enc W fuel cs xs hl hx hf hw
  have hl' : off + (d.sz + d2.sz) = cs.length := hl
  match xs, hx with
  | x :: xs, hx =>
    have h0 := hf 0 f rfl
    rw [ho, hc] at h0
    obtain ⟨a, h1, h2⟩ := he H enc W fuel _ x h0 (fun n hn => hw n (by simp only [List.map_cons, DataW.weightsEach, List.mem_append]; exact .inl hn))
    obtain ⟨b, h3, h4⟩ := hs H enc W fuel cs xs (by omega) (by simpa using hx) (fun i g hg => by simpa using hf (i + 1) g (by simpa using hg)) (fun n hn => hw n (by simp only [List.map_cons, DataW.weightsEach, List.mem_append]; exact .inr hn))
    refine ⟨(a, b), ⟨_, _, ?_, h1, h3⟩, h2, h4⟩
    rw [← List.drop_drop, List.take_append_drop]
theorem opens_struct {α : Type} {d : Kd α} {G : α → Prop} {fs : Array Field} (ht : P.underlying t = some (.struct fs)) (hc : P.cellsOf t = d.sz) (hf : OpensFields P fs.toList 0 d G) : Opens P t d G := by
  intro H enc W fuel cs x h hw
  obtain ⟨xs, n, _, rfl, hl, hlen, hg⟩ := DataW.trod_struct ht h
  have := hf H enc W n cs xs (by omega) (by simpa using hlen) (fun i f hi => hg i f (by simpa using hi)) (fun m hm => hw m (by simpa [DataW.weights, ht] using hm))
  simpa using this
theorem opens_iso {α β : Type} {d : Kd α} {G : α → Prop} (f : β → α) (g : α → β) (hfg : ∀ a, f (g a) = a) (h : Opens P t d G) : Opens P t (Kd.iso d f) (fun b => G (f b)) := by
  intro H enc W fuel cs x hx hw
  obtain ⟨a, h1, h2⟩ := h H enc W fuel cs x hx hw
  exact ⟨g a, by show d.K W (f (g a)) cs; rw [hfg]; exact h1, by show G (f (g a)); rw [hfg]; exact h2⟩
/-- An array's elements, one behind the other. -/
theorem opens_array {α : Type} {d : Kd α} {G : α → Prop} {n : Nat} (ht : P.underlying t = some (.array n e)) (hc : P.cellsOf e = d.sz) (hct : P.cellsOf t = n * d.sz) (he : Opens P e d G)
    {H : Type} (enc : TypeId × Value → H) (W : World) (fuel : Nat) (cs : List Value) (x : DataW H × List MemPlace) (h : DataW.trod enc P W 0 (fun _ => true) true fuel t cs = some x) (hw : ∀ m ∈ x.1.weights P t, m ≤ reachBytes) :
    ∃ xs : List α, xs.length = n ∧ Reps (d.K W) d.sz xs cs ∧ ∀ a ∈ xs, G a := by
  obtain ⟨ys, m, _, rfl, hl, hlen, hg⟩ := DataW.trod_array ht h
  have hall : ∀ i : Fin n, ∃ p : α, d.K W p ((cs.drop (i.1 * d.sz)).take d.sz) ∧ G p := by
    intro i
    have hi : i.1 < ys.length := by have := i.2; omega
    have h1 := hg i.1 i.2
    rw [List.getElem?_eq_getElem hi, hc] at h1
    exact he H enc W m _ _ h1 (fun k hk => hw k (by
      simp only [DataW.weights, ht]
      exact weights_all (List.mem_map.2 ⟨_, List.getElem_mem hi, rfl⟩) k hk))
  refine ⟨List.ofFn fun i => Classical.choose (hall i), by simp, ⟨by rw [hl, hct, List.length_ofFn], fun j p hj => ?_⟩, fun p hp => ?_⟩
  · obtain ⟨hjl, hjp⟩ := List.getElem?_eq_some_iff.1 hj
    simp only [List.length_ofFn] at hjl
    have h2 := Classical.choose_spec (hall ⟨j, hjl⟩)
    rw [List.getElem_ofFn] at hjp
    rw [hjp] at h2
    exact h2.1
  · obtain ⟨i, rfl⟩ := (List.mem_ofFn).1 hp
    exact (Classical.choose_spec (hall i)).2
theorem okWide_array {W : World} {r : Reach} {b0 n : Nat} {v : Value} (ht : P.underlying t = some (.array n e)) (h : Value.okWide P W r b0 t v) : ∃ cs, v = .agg cs := by
  simp only [Value.okWide, ht] at h
  obtain ⟨cs, h1, _, _⟩ := h
  exact ⟨cs, h1⟩
theorem weights_each {H : Type} {P : Program} {ts : List TypeId} {ds : List (DataW H)} (h : (DataW.weightsEach P ts ds).all (· ≤ reachBytes) = true) {j : Nat} {t : TypeId} {d : DataW H} (ht : ts[j]? = some t) (hd : ds[j]? = some d) : ∀ n ∈ d.weights P t, n ≤ reachBytes := fun n hn => by
  simpa using List.all_eq_true.1 h _ (DataW.weights_mem_each ht hd n hn)
end
end Go.Proofs.YtlhnaplmphdhlaaDoor.Q
end
