/- prop.EncodeText. -/
import Derived.ArgAppend
import Derived.Test.YtlhnaplmphdhlaaDoorHUnit
import Derived.Test.YtlhnaplmphdhlaaDoorHByte
set_option linter.unusedSimpArgs false
set_option linter.unusedVariables false
namespace Go.Proofs.YtlhnaplmphdhlaaDoor.Q
open Go.RowKit Go.Proofs.YtlhnaplmphdhlaaDoorW.PrintWords Go.Proofs.YtlhnaplmphdhlaaDoorW.PrintLast
def encF (s : ByteArray) : List Int × Int := if 0 ≤ Lib.indexByte s.data.toList 0 then ([], 15) else if 256 ≤ s.size then ([], 3) else (bytesOf s ++ [0], 0)
theorem info5i : (Tryd.prog.info? 5).map (fun i => (i.zero, i.size, i.bytes)) = some (some (.int .u8 0), 1, 1) := by kernel_rfl
theorem bw_size (W : World) (s : ByteArray) : (Lib.bytesCells W 5 s).size = grownCap W s.size 0 5 := by
  have h := grownCap_ge W s.size 0 5
  unfold Lib.bytesCells
  rw [Array.size_append, Array.size_map, Array.size_replicate]
  show s.data.size + _ = _
  have : s.data.size = s.size := rfl
  omega
theorem bw_room (W : World) (s : ByteArray) (h : s.size + 1 ≤ grownCap W s.size 0 5) : ((Lib.bytesWorld W 5 s).cell? ⟨W.heap.size, s.size, none⟩).isSome = true ∧ (Lib.bytesWorld W 5 s).frozen? ⟨W.heap.size, s.size, none⟩ = false := by
  have hb := Lib.bytesWorld_at_new W 5 s
  have hs := bw_size W s
  constructor
  · rw [cell_of_row _ _ _ _ _ _ hb, Array.getElem?_eq_getElem (by omega)]
    rfl
  · unfold World.frozen?
    simp only [hb]
    rw [hs]
    simp
    omega
theorem bw_C (W : World) (s : ByteArray) (hs : s.size < 256) (h : s.size + 1 ≤ grownCap W s.size 0 5) :
    Kd.C (Kd.int .u8) (((Lib.bytesWorld W 5 s).alloc (.cells #[.int .u8 0] 5)).setCell ⟨W.heap.size, s.size, none⟩ (.int .u8 0)) (some ⟨W.heap.size, 0, none⟩) (s.size + 1) (bytesOf s ++ [0]) := by
  have hr := bw_room W s h
  have hbs := Lib.bytesWorld_size W 5 s
  have hlen : (bytesOf s ++ [0]).length = s.size + 1 := by rw [List.length_append, bytesOf_length]; rfl
  refine Kd.C_of_reads (d := (0 : Int)) ⟨hlen, by omega, fun _ => ⟨_, rfl, fun j hj => ?_⟩⟩
  rw [add_plain]
  have hal : ∀ i, ((Lib.bytesWorld W 5 s).alloc (.cells #[.int .u8 0] 5)).cell? ⟨W.heap.size, i, none⟩ = (Lib.bytesWorld W 5 s).cell? ⟨W.heap.size, i, none⟩ := fun i => (below_alloc (Below.refl (Lib.bytesWorld W 5 s).heap.size (Lib.bytesWorld W 5 s)) _).cell (p := ⟨W.heap.size, i, none⟩) (by show W.heap.size < _; omega)
  by_cases hj2 : j = s.size
  · subst hj2
    rw [World.cell?_setCell_same' _ _ _ (by rw [hal]; exact hr.1)]
    rw [List.getD_eq_getElem?_getD, List.getElem?_append_right (by rw [bytesOf_length]; exact Nat.le_refl _), bytesOf_length, Nat.sub_self]
    rfl
  · rw [World.cell?_setCell_other (h := by intro e; injection e with _ e2 _; exact hj2 e2.symm), hal, Lib.bytesWorld_cell W 5 s j (by omega)]
    have h' : j < s.data.toList.length := by rw [data_length]; omega
    rw [show List.getD (bytesOf s ++ [0] : List Int) j 0 = (bytesOf s).getD j 0 from by rw [List.getD_eq_getElem?_getD, List.getElem?_append_left (by rw [bytesOf_length]; omega), ← List.getD_eq_getElem?_getD]]
    simp [bytesOf, List.getD_eq_getElem?_getD, List.getElem?_eq_getElem h']
set_option maxRecDepth 100000 in
set_option maxHeartbeats 2000000 in
theorem enc_calls (s : ByteArray) (w : World) : Calls Tryd.prog 17 #[.string s] w fun e w' => ∃ A c, e = .returned (.tuple #[.slice A (encF s).1.length c, .int .i64 (encF s).2]) ∧ (encF s).1.length ≤ c ∧ Kd.C (Kd.int .u8) w' A (encF s).1.length (encF s).1 ∧ Below w.heap.size w w' := by
  obtain ⟨x, hx⟩ : ∃ x, x = Lib.indexByte s.data.toList 0 := ⟨_, rfl⟩
  have HI := Aside0.mk (show ∀ W : World, Calls Tryd.prog 45 #[.string s, .int .u8 0] W (fun e w' => e = .returned (.int .i64 x) ∧ Below W.heap.size W w') from fun W => strings_IndexByte.calls s 0 x W (by rw [hx]; rfl))
  obtain ⟨R, hR⟩ : ∃ R, R = encF s := ⟨_, rfl⟩
  rw [← hR]
  unfold encF at hR
  rw [← hx] at hR
  clear hx
  by_cases h0 : 0 ≤ x
  · rw [if_pos h0] at hR
    subst hR
    have d0 : decide (0 ≤ x) = true := decide_eq_true h0
    clear h0
    go_enter Tryd.func17, Tryd.ntmps17
    go_wp2_with (go_at_call 45; (with_reducible refine (HI.out _).mono ?_); rintro e w7 ⟨rfl, hb⟩; have HB := Aside0.mk hb; clear hb)
    go_ret2
    exact ⟨none, 0, rfl, Nat.le_refl _, Kd.C_nil _ _, HB.out⟩
  · rw [if_neg h0] at hR
    have d0 : decide (0 ≤ x) = false := decide_eq_false h0
    clear h0
    by_cases h1 : 256 ≤ s.size
    · rw [if_pos h1] at hR
      subst hR
      have d1 : decide ((256 : Int) ≤ (s.size : Int)) = true := decide_eq_true (by omega)
      clear h1
      go_enter Tryd.func17, Tryd.ntmps17
      go_wp2_with (go_at_call 45; (with_reducible refine (HI.out _).mono ?_); rintro e w7 ⟨rfl, hb⟩; have HB := Aside0.mk hb; clear hb)
      go_ret2
      exact ⟨none, 0, rfl, Nat.le_refl _, Kd.C_nil _ _, HB.out⟩
    · rw [if_neg h1] at hR
      subst hR
      have d1 : decide ((256 : Int) ≤ (s.size : Int)) = false := decide_eq_false (by omega)
      have kb := fun W => print_bytes (P := Tryd.prog) 9 25 5 Tryd.underlying9 Tryd.underlying25 Tryd.underlying5 s W
      have H1 := Aside0.mk h1
      clear h1
      go_enter Tryd.func17, Tryd.ntmps17
      obtain ⟨i0, hi, hz0, hz1, hz2⟩ := info_parts info5i
      have HSz := Aside0.mk (show s.size < 256 by have := H1.out; omega)
      have HLn := Aside0.mk (show (bytesOf s ++ [0]).length = s.size + 1 by rw [List.length_append, bytesOf_length]; rfl)
      go_wp2_with (first
        | (go_at_call 45; (with_reducible refine (HI.out _).mono ?_); rintro e w7 ⟨rfl, hb⟩; have HB := Aside0.mk hb; clear hb)
        | (at_builtin; refine wpList_append_arg ((Lib.bytesWorld w7 5 s).alloc (.cells #[.int .u8 0] 5)) rfl (.tmp 13) (.tmp 14) 25 rfl 5 i0 (.int .u8 0) 1 1 Tryd.underlying25 hi hz0 hz1 hz2 rfl (by decide) w7.heap.size 0 s.size (grownCap w7 s.size 0 5) ((bytesOf s).map (Value.int .u8)) rfl ?a1 ?a2 ⟨(Lib.bytesWorld w7 5 s).heap.size, 0, none⟩ 1 1 [.int .u8 0] rfl rfl ?a3 (by simp [Value.oneCell']) ?a4 ?a5 ?a6 ?a7 ?a8))
      case a1 => rw [List.length_map, bytesOf_length, Nat.mul_one]
      case a2 =>
        intro j u hj
        rw [Nat.zero_add]
        obtain ⟨hl, hu⟩ := List.getElem?_eq_some_iff.1 hj
        rw [List.length_map, bytesOf_length] at hl
        rw [show ((Lib.bytesWorld w7 5 s).alloc (.cells #[.int .u8 0] 5)).cell? ⟨w7.heap.size, j, none⟩ = (Lib.bytesWorld w7 5 s).cell? ⟨w7.heap.size, j, none⟩ from (below_alloc (Below.refl (Lib.bytesWorld w7 5 s).heap.size (Lib.bytesWorld w7 5 s)) _).cell (by show w7.heap.size < _; rw [Lib.bytesWorld_size]; omega), Lib.bytesWorld_cell w7 5 s j hl, ← hu]
        have h' : j < s.data.toList.length := by rw [data_length]; exact hl
        simp [bytesOf, List.getD_eq_getElem?_getD, List.getElem?_eq_getElem h']
      case a3 => exact cell_one_new _ _ _
      case a4 =>
        intro hr j hj
        obtain rfl : j = 0 := by simpa using hj
        have h2 := bw_room w7 s hr
        rw [show 0 + s.size * 1 + 0 = s.size by omega, show ((Lib.bytesWorld w7 5 s).alloc (.cells #[.int .u8 0] 5)).cell? ⟨w7.heap.size, s.size, none⟩ = (Lib.bytesWorld w7 5 s).cell? ⟨w7.heap.size, s.size, none⟩ from (below_alloc (Below.refl (Lib.bytesWorld w7 5 s).heap.size (Lib.bytesWorld w7 5 s)) _).cell (by show w7.heap.size < _; rw [Lib.bytesWorld_size]; omega)]
        refine ⟨h2.1, ?_⟩
        rw [← h2.2]
        exact (below_alloc (Below.refl (Lib.bytesWorld w7 5 s).heap.size (Lib.bytesWorld w7 5 s)) _).frozen (p := ⟨w7.heap.size, s.size, none⟩) (by show w7.heap.size < _; rw [Lib.bytesWorld_size]; omega)
      case a5 => have := HSz.out; unfold maxLen; omega
      case a6 => have := HSz.out; omega
      case a7 =>
        intro hr
        have hC := bw_C w7 s HSz.out hr
        have hW : ((Lib.bytesWorld w7 5 s).alloc (.cells #[.int .u8 0] 5)).setCells w7.heap.size s.size [.int .u8 0] = ((Lib.bytesWorld w7 5 s).alloc (.cells #[.int .u8 0] 5)).setCell ⟨w7.heap.size, s.size, none⟩ (.int .u8 0) := rfl
        rw [hW]
        have HC := Aside0.mk hC
        have HBE := Aside0.mk (show Below w.heap.size w (((Lib.bytesWorld w7 5 s).alloc (.cells #[.int .u8 0] 5)).setCell ⟨w7.heap.size, s.size, none⟩ (.int .u8 0)) from (below_alloc (bytes_below HB.out HB.out.size 5 s) _).setCell (p := ⟨w7.heap.size, s.size, none⟩) HB.out.size _)
        clear hC hW
        go_wp2
        go_ret2
        exact ⟨some ⟨w7.heap.size, 0, none⟩, grownCap w7 s.size 0 5, by rw [HLn.out]; rfl, by rw [HLn.out]; exact hr, by rw [HLn.out]; exact HC.out, HBE.out⟩
      case a8 =>
        intro hr v' w' hown hg
        have hBW : Below w.heap.size w ((Lib.bytesWorld w7 5 s).alloc (.cells #[.int .u8 0] 5)) := below_alloc (bytes_below HB.out HB.out.size 5 s) _
        have hR : Kd.R (Kd.int .u8) 5 w' ((Lib.bytesWorld w7 5 s).heap.size + 1) (fun _ => True) v' (bytesOf s ++ [0]) := Kd.R_of_own (xs := bytesOf s ++ [0]) (by rw [HLn.out, encs, List.map_append]; exact hown) (fun _ _ => trivial)
        have hBE : Below w.heap.size w w' := pw_below_grown hBW _ hBW.size hg (fun k e => by cases e)
        obtain ⟨A, c, rfl, hc, hC⟩ := Kd.R_reads hR
        have HC := Aside0.mk hC
        have HCC := Aside0.mk hc
        have HBE := Aside0.mk hBE
        clear hR hBE hBW hown hg hC hc
        go_wp2
        go_ret2
        exact ⟨A, c, rfl, HCC.out, HC.out, HBE.out⟩
end Go.Proofs.YtlhnaplmphdhlaaDoor.Q
