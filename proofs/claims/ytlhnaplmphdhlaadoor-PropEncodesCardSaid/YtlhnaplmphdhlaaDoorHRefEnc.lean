/- tinderref05.EncodeText. -/
import Derived.Test.YtlhnaplmphdhlaaDoorHEnc
import Derived.Lib.AppendStr
set_option linter.unusedSimpArgs false
set_option linter.unusedVariables false
namespace Go.Proofs.YtlhnaplmphdhlaaDoor.Q
open Go.RowKit Go.Proofs.YtlhnaplmphdhlaaDoorW.PrintWords Go.Proofs.YtlhnaplmphdhlaaDoorW.PrintLast
theorem enc_zero {s : ByteArray} {i : Nat} (h : i < s.size) (h0 : (s[i]'h).toNat = 0) : 0 ≤ Lib.indexByte s.data.toList 0 := by
  have hge := Lib.indexByte_ge s.data.toList 0
  by_cases hx : Lib.indexByte s.data.toList 0 = -1
  · exfalso
    have h2 := Lib.indexByte_none hx i
    refine h2 ?_
    have hl : i < s.data.toList.length := by rw [data_length]; exact h
    rw [List.getElem?_eq_getElem hl]
    congr 1
    apply UInt8.toNat_inj.1
    exact h0
  · omega
theorem enc_none {s : ByteArray} (h : ∀ i, (hi : i < s.size) → (s[i]'hi).toNat ≠ 0) : ¬ 0 ≤ Lib.indexByte s.data.toList 0 := by
  intro h1
  obtain ⟨o, ho⟩ := Int.eq_ofNat_of_zero_le h1
  have h2 := (Lib.indexByte_some ho).1
  obtain ⟨hl, he⟩ := List.getElem?_eq_some_iff.1 h2
  have hl' : o < s.size := by rwa [data_length] at hl
  refine h o hl' ?_
  have e : s[o]'hl' = s.data.toList[o]'hl := rfl
  rw [e, he]
  rfl
set_option maxRecDepth 100000 in
set_option maxHeartbeats 4000000 in
theorem refenc_calls (s : ByteArray) (w : World) (hs : s.size ≤ 140737488351232) : Calls Tryd.prog 18 #[.string s] w fun e w' => ∃ v, e = .returned (.tuple #[v, .int .i64 (encF s).2]) ∧ Kd.R (Kd.int .u8) 5 w' w.heap.size (fun _ => True) v (encF s).1 ∧ Below w.heap.size w w' := by
  obtain ⟨R, hR⟩ : ∃ R, R = encF s := ⟨_, rfl⟩
  rw [← hR]
  have HR := Aside0.mk hR
  clear hR
  go_enter Tryd.func18, Tryd.ntmps18
  go_wp2
  go_loop [4] (fun v => ∃ i : Nat, i ≤ s.size ∧ v = .int .i64 i ∧ Aside0 (∀ j, (hj : j < s.size) → j < i → (s[j]'hj).toNat ≠ 0)) (fun v => s.size - (intOf v).toNat)
  case atStart => exact ⟨0, Nat.zero_le _, rfl, ⟨fun j _ h => absurd h (Nat.not_lt_zero _)⟩⟩
  case round =>
    obtain ⟨i, hi, rfl, HZ⟩ := hrel
    by_cases hlt : i < s.size
    · by_cases h0 : (s[i]'hlt).toNat = 0
      · have hR := HR.out
        unfold encF at hR
        rw [if_pos (enc_zero hlt h0)] at hR
        subst hR
        have d0 : (((s[i]'hlt).toNat : Int) == 0) = true := by rw [h0]; rfl
        clear h0
        go_wp2
        go_ret2
        exact ⟨_, rfl, Kd.R_nil _ _ _ _ _, Below.refl _ _⟩
      · have d0 : (((s[i]'hlt).toNat : Int) == 0) = false := beq_false_of_ne (by omega)
        have HZ2 := Aside0.mk (show ∀ j, (hj : j < s.size) → j < i + 1 → (s[j]'hj).toNat ≠ 0 from fun j hj h => by
          rcases Nat.lt_or_ge j i with h1 | h1
          · exact HZ.out j hj h1
          · obtain rfl : j = i := by omega
            exact h0)
        clear h0 HZ
        go_wp2
        go_round
        case rel => exact ⟨i + 1, by omega, by go_num, HZ2⟩
        case measure => simp [intOf]; omega
    · obtain rfl : i = s.size := by omega
      have hR := HR.out
      unfold encF at hR
      rw [if_neg (enc_none fun j hj => HZ.out j hj hj)] at hR
      by_cases h1 : 256 ≤ s.size
      · rw [if_pos h1] at hR
        subst hR
        have d1 : decide ((256 : Int) ≤ (s.size : Int)) = true := decide_eq_true (by omega)
        clear hs hi h1
        go_wp2
        go_ret2
        exact ⟨_, rfl, Kd.R_nil _ _ _ _ _, Below.refl _ _⟩
      · rw [if_neg h1] at hR
        subst hR
        have d1 : decide ((256 : Int) ≤ (s.size : Int)) = false := decide_eq_false (by omega)
        have HSz := Aside0.mk (show s.size < 256 by omega)
        obtain ⟨i0, hi, hz0, hz1, hz2⟩ := info_parts info5i
        clear hs hlt h1
        go_wp2_with (first
          | (at_builtin; refine print_append_str (w0 := w) w.heap.size rfl (.tmp 19) (.tmp 20) 25 9 5 rfl Tryd.underlying25 Tryd.underlying9 info5 (.slice none 0 0) ([] : List Int) s rfl rfl (World.ownsRow_nil _ _ _ _) (Below.refl _ _) (Nat.le_refl _) (by have := HSz.out; simp; omega) ?_; intro v2 w2 ho0 hb hg; have HO2 := Aside0.mk (show Kd.R (Kd.int .u8) 5 w2 w.heap.size (fun _ => True) v2 ([] ++ bytesOf s) from Kd.R_of_own (h1 := fun _ => rfl) (ok := fun _ => True) ho0 (fun _ _ => trivial)); have HB2 := Aside0.mk hb; clear ho0 hb hg)
          | ((with_reducible refine gate_builtin (b := .append) (xs := #[.tmp 22, .tmp 23]) rfl ?_); at_builtin; refine Kd.R_append (Kd.int .u8) (w0 := w) w.heap.size rfl (.tmp 22) (.tmp 23) 25 5 (.int .u8 0) 1 rfl Tryd.underlying25 info5 rfl (by decide) (by omega) v2 ([] ++ bytesOf s) 0 [.int .u8 0] (fun _ => True) (fun _ => False) rfl rfl rfl (fun _ hk => hk.elim) (fun _ _ => trivial) HO2.out HB2.out (below_size HB2.out) (by have := HSz.out; rw [List.nil_append, bytesOf_length]; omega) ?_; intro v3 w3 ho hb hg hat; have HO3 := Aside0.mk ho; have HB3 := Aside0.mk hb; clear ho hb hg hat))
        go_ret2
        exact ⟨_, rfl, HO3.out, HB3.out⟩
end Go.Proofs.YtlhnaplmphdhlaaDoor.Q
