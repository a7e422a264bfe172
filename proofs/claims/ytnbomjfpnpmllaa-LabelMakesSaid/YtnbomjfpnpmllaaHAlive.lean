/- Window's answer; the fixed fact. -/
import Derived.Test.YtnbomjfpnpmllaaHLabelP
import Derived.Test.YtnbomjfpnpmllaaHWindow
import Derived.Test.YtnbomjfpnpmllaaHSelect
import Derived.Test.YtnbomjfpnpmllaaQBlockFormed
import Derived.Test.YtnbomjfpnpmllaaWZeros
set_option linter.unusedSimpArgs false
set_option linter.unusedVariables false
namespace Go.Proofs.Ytnbomjfpnpmllaa.Q
open Go.RowKit Go.Proofs.YtnbomjfpnpmllaaW.PrintWords Go.Proofs.YtnbomjfpnpmllaaW.PrintLast Go.Proofs.YtnbomjfpnpmllaaW.PrintMore
def formedF (l : List Int) : Bool := decide (l.length % 512 = 0 ∧ l.length ≤ 32768)
theorem formed_eq (l : List Int) (hl : l.length ≤ 140737488351232) : block_Formed.f l = some (formedF l) := by
  have e : wrap64 ((l.length : Int) / 512) = (l.length : Int) / 512 := by unfold wrap64; omega
  unfold block_Formed.f formedF
  rw [e]
  by_cases h : l.length % 512 = 0
  · rw [if_pos (by omega)]
    congr 1
    exact decide_eq_decide.2 (by omega)
  · rw [if_neg (by omega), decide_eq_false (fun h' => h h'.1)]
theorem formed_spec {l : List Int} (h : formedF l = true) : l.length ≤ 32768 ∧ l.length % 512 = 0 := by
  have := of_decide_eq_true h
  exact ⟨this.2, this.1⟩
def winF (l : List Int) (s : ByteArray) : Int × Int × Int := winG (formedF l) (selF s).1 (selF s).2.2 (parseF (l.take 512)).1 (parseF (l.take 512)).2 l.length
theorem bt_rg (s : ByteArray) (i : Int) : 0 ≤ bt s i ∧ bt s i ≤ 255 := bt_range s i
theorem selF_lt (s : ByteArray) : (selF s).2.2 = 0 → (selF s).1 < 8 := by
  unfold selF
  split
  · intro _; decide
  · split
    · rename_i h
      intro _
      show bt (letterF s) 0 - 97 < 8
      omega
    · intro h
      exact absurd h (by decide)
theorem parseF_parts (l : List Int) (hb : Bytes l) : (parseF l).1.length = 8 ∧ Parts (parseF l).1 := by
  have h0 : Parts noParts := fun p hp => by
    have := List.eq_of_mem_replicate hp
    subst this
    exact ⟨⟨by decide, by decide⟩, ⟨by decide, by decide⟩⟩
  unfold parseF
  split
  · rename_i h5
    split
    · refine ⟨partsN_len l, fun p hp => ?_⟩
      obtain ⟨i, hi, rfl⟩ := List.mem_map.1 hp
      have hv : ∀ m : List Int, Bytes m → 0 ≤ numF m ∧ numF m < 4294967296 := fun m hm => by
        rw [numF_eq m hm]
        have a := rd_isB hm 0
        have b := rd_isB hm 1
        have c := rd_isB hm 2
        have d := rd_isB hm 3
        unfold IsB at a b c d
        unfold val4
        omega
      rw [partsN_of l h5 i (List.mem_range.1 hi)]
      exact ⟨hv _ (((hb.take _).drop _).take _), hv _ (((hb.take _).drop _).take _)⟩
    · exact ⟨noParts_len, h0⟩
  · exact ⟨noParts_len, h0⟩
theorem window_calls (A : Option Addr) (c : Nat) (l : List Int) (s : ByteArray) (w : World) (hC : Kd.C (Kd.int .u8) w A l.length l) (hc : l.length ≤ c) (hl : l.length ≤ 140737488351232) (hb : Bytes l) (hs : s.size ≤ 140737488351232) :
    Calls Try.prog 18 #[.slice A l.length c, .string s] w fun e w' => e = .returned (.tuple #[.int .i64 (winF l s).1, .int .i64 (winF l s).2.1, .int .i64 (winF l s).2.2]) ∧ Below w.heap.size w w' := by
  have hp := parseF_parts (l.take 512) (hb.take 512)
  refine win_walk A l.length c s w (formedF l) (selF s).1 (selF s).2.2 (selF s).2.1 (parseF (l.take 512)).1 (parseF (l.take 512)).2 ?_ ?_ ?_ (selF_lt s) formed_spec hc hp.1 hp.2
  · intro W hW
    refine (block_Formed.calls A c l _ W (Kd.C_below hC hW) hc (formed_eq l hl)).mono ?_
    rintro e w' ⟨rfl, hd⟩
    exact ⟨rfl, hd.below⟩
  · intro W
    exact select_calls s W hs
  · intro W hW hf h0
    have hf2 := formed_spec hf
    have hn : 512 ≤ l.length := by omega
    have hll : (l.take 512).length = 512 := by rw [List.length_take]; omega
    have h2 := parse_calls A c (l.take 512) W (by rw [hll]; exact C_take (Kd.C_below hC hW) 512 hn) (by omega)
    rw [hll] at h2
    exact h2
/-! the fixed fact -/
def ps0 : List Part := [(0, 0), (2, 3), (0, 0), (0, 0), (0, 0), (0, 0), (0, 0), (0, 0)]
theorem ps0_parts : Parts ps0 := fun p hp => by
  simp only [ps0, List.mem_cons, List.not_mem_nil, or_false] at hp
  rcases hp with rfl | rfl | rfl | rfl | rfl | rfl | rfl | rfl <;> exact ⟨⟨by decide, by decide⟩, ⟨by decide, by decide⟩⟩
theorem ps0_make : makeF ps0 = (labelF ps0, 0) := rfl
theorem sel_b : selF ⟨#[98]⟩ = (1, ⟨#[]⟩, 0) := by kernel_rfl
theorem win0 : winF (labelF ps0 ++ zerosL 3584) ⟨#[98]⟩ = (1024, 1536, 0) := by
  have hl : (labelF ps0 ++ zerosL 3584).length = 4096 := by rw [List.length_append, labelF_len ps0 rfl, zerosL_len]
  unfold winF
  rw [List.take_left' (labelF_len ps0 rfl), parse_label ps0 rfl ps0_parts, sel_b, show formedF (labelF ps0 ++ zerosL 3584) = true by unfold formedF; rw [hl]; decide, hl]
  decide
set_option maxHeartbeats 4000000 in
set_option maxRecDepth 100000 in
theorem alive_calls (w : World) : Calls Try.prog 9 #[] w fun e w' => e = .returned (.bool true) ∧ Below w.heap.size w w' := by
  have HM := Aside0.mk (show ∀ W : World, Calls Try.prog 10 #[.agg #[.int .u32 0, .int .u32 0, .int .u32 2, .int .u32 3, .int .u32 0, .int .u32 0, .int .u32 0, .int .u32 0, .int .u32 0, .int .u32 0, .int .u32 0, .int .u32 0, .int .u32 0, .int .u32 0, .int .u32 0, .int .u32 0]] W (fun e w' => ∃ v : Value, e = .returned (.tuple #[v, .int .i64 0]) ∧ Kd.R (Kd.int .u8) 5 w' W.heap.size (fun _ => True) v (labelF ps0) ∧ Below W.heap.size W w') from fun W => make_calls ps0 W rfl)
  obtain ⟨L, hL⟩ : ∃ L, L = labelF ps0 := ⟨_, rfl⟩
  obtain ⟨D, hD⟩ : ∃ D, D = L ++ zerosL 3584 := ⟨_, rfl⟩
  have HLl := Aside0.mk (show L.length = 512 by rw [hL]; exact labelF_len ps0 rfl)
  have HDl := Aside0.mk (show D.length = 4096 by rw [hD, List.length_append, HLl.out, zerosL_len])
  have HD := Aside0.mk (show L ++ List.replicate (3584 : Int).toNat 0 = D from hD.symm)
  have HDB := Aside0.mk (show Bytes D by rw [hD, hL]; exact (labelF_bytes ps0).append (zerosL_bytes _))
  have HWi := Aside0.mk (show winF D ⟨#[98]⟩ = (1024, 1536, 0) by rw [hD, hL]; exact win0)
  have HWd := Aside0.mk (show ∀ (A : Option Addr) (c : Nat) (W : World), Kd.C (Kd.int .u8) W A 4096 D → 4096 ≤ c → Calls Try.prog 18 #[.slice A 4096 c, .string ⟨#[98]⟩] W (fun e w' => e = .returned (.tuple #[.int .i64 1024, .int .i64 1536, .int .i64 0]) ∧ Below W.heap.size W w') from fun A c W h h2 => by
    have h3 := window_calls A c D ⟨#[98]⟩ W (by rw [HDl.out]; exact h) (by rw [HDl.out]; exact h2) (by rw [HDl.out]; decide) HDB.out (by decide)
    rw [HDl.out, HWi.out] at h3
    exact h3)
  rw [← hL] at HM
  clear hL hD HDB HWi
  go_enter Try.func9, Try.ntmps9
  go_wp2_with (first
    | (go_at_call 10; (with_reducible refine (HM.out _).mono ?_); rintro e w1 ⟨v1, rfl, hR, hb⟩; have HO := Aside0.mk hR; have HB := Aside0.mk hb; clear hR hb)
    | ((with_reducible refine gate_dst (N := 14) rfl ?_); refine Kd.R_append_zeros (Kd.int .u8) (w0 := w) w.heap.size rfl (.tmp 13) (.const (.int .i64 3584)) 27 3 5 (.int .u8 0) 1 rfl Try.underlying27 Try.underlying3 info5s rfl (by decide) (by decide) v1 L 0 3584 (fun _ => True) rfl rfl rfl (fun _ _ => trivial) HO.out (by decide) HB.out (below_size HB.out) (by rw [HLl.out]; decide) ?_; intro v2 w2 h2 hb2 _ _; have HO2 := Aside0.mk (show Kd.R (Kd.int .u8) 5 w2 w.heap.size (fun _ => True) v2 D from HD.out ▸ h2); have HB2 := Aside0.mk hb2; obtain ⟨A2, c2, hv2, hc2, hC2⟩ := Kd.R_reads HO2.out; rw [HDl.out] at hv2 hc2 hC2; obtain rfl := hv2; have HC2 := Aside0.mk hC2; have HCC := Aside0.mk hc2; clear h2 hb2 hC2 hc2)
    | (go_at_call 18; (with_reducible refine (HWd.out _ _ _ HC2.out HCC.out).mono ?_); rintro e w3 ⟨rfl, hb⟩; have HB3 := Aside0.mk (below_step HB2.out hb); clear hb))
  go_ret
  exact ⟨rfl, HB3.out⟩
end Go.Proofs.Ytnbomjfpnpmllaa.Q
