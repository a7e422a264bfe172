/- Contracts of Go functions and plain facts, of several texts, one behind the other; no condition. -/
import Derived.Test.YtlhnaplmphdhlaaDoorMPropRows3
import Derived.Laws.OwnMore
import Derived.Lib.SplitLaws
import Derived.Test.YtlhnaplmphdhlaaDoorMPropRows1
import Derived.Shelf.Vars
import Derived.ChangeArms
import Derived.OpenShut
import Derived.SizedLaws
section
set_option linter.unusedSimpArgs false
set_option linter.unusedVariables false
namespace Go.Proofs.YtlhnaplmphdhlaaDoor.Q
open Go.RowKit Go.Proofs.YtlhnaplmphdhlaaDoorW.PrintWords Go.Proofs.YtlhnaplmphdhlaaDoorW.PrintLast Go.Proofs.YtlhnaplmphdhlaaDoorW.PrintMore
attribute [local go_sem] max2_int min2_int max_two min_two max_three min_three max_four min_four
theorem split_calls (T : ByteArray) (m : Int) (w : World) (hs : T.size < 4294967281) (hm : w.cell? ⟨0, 0, none⟩ = some (.int .i64 m)) :
    Calls Tryd.prog 50 #[.string T, .string ⟨#[0]⟩] w fun e w' => ∃ A c, e = .returned (.slice A (cuts 0 T.data.toList).length c) ∧ Kd.R Kd.string 9 w' w.heap.size (fun _ => True) (.slice A (cuts 0 T.data.toList).length c) ((cuts 0 T.data.toList).map fun l => (⟨l.toArray⟩ : ByteArray)) ∧ Below w.heap.size w w' := by
  have hx := split_cuts (T.size + 1) T (Nat.lt_succ_self _)
  have hl : Lib.countB T ⟨#[0]⟩ + 1 = (cuts 0 T.data.toList).length := by
    have h := congrArg List.length hx
    rw [List.length_map] at h
    rw [← h, Lib.splitB_all _ (by decide) _ _ _ rfl]
  have hc := cuts_len 0 T.data.toList
  have he : T.data.toList.length = T.size := Array.length_toList
  refine (Tryd.strings_Split T ⟨#[0]⟩ m w hs hm (by decide)).mono ?_
  rintro e w' ⟨rfl, rfl⟩
  rw [hl, hx]
  refine ⟨_, _, rfl, ?_, below_alloc (Below.refl _ _) _⟩
  have h := World.ownsRow_lit (base := w.heap.size) (e := 9) (size := 1) w (((cuts 0 T.data.toList).map fun l => (⟨l.toArray⟩ : ByteArray)).map Value.string).toArray (cuts 0 T.data.toList).length (Nat.le_refl _) (by unfold maxLen; omega) (by simp)
  refine Kd.R_of_own (xs := (cuts 0 T.data.toList).map fun l => (⟨l.toArray⟩ : ByteArray)) ?_ (fun _ _ => trivial)
  rw [List.length_map]
  exact h
set_option maxHeartbeats 4000000 in
set_option maxRecDepth 100000 in
theorem texts_calls (A : Option Addr) (c : Nat) (L : List Int) (m : Int) (w : World) (hC : Kd.C (Kd.int .u8) w A L.length L) (hc : L.length ≤ c) (hl : L.length ≤ 4000000) (hB : BytesL L) (hm : w.cell? ⟨0, 0, none⟩ = some (.int .i64 m)) :
    Calls Tryd.prog 26 #[.slice A L.length c] w fun e w' => ∃ v, e = .returned (.tuple #[v, .int .i64 (textsG L).2]) ∧ Kd.R Kd.string 9 w' w.heap.size (fun _ => True) v (textsG L).1 ∧ Below w.heap.size w w' := by
  have hsz : (strOfNums L).size = L.length := strOfNums_size L
  have HCS := Aside0.mk (fun W : World => Tryd.strings_CutSuffix (strOfNums L) ⟨#[0]⟩ W (by omega))
  have hsf := suffix_last L hB
  have HCV := Aside0.mk (fun (W : World) (hb : Below w.heap.size w W) => Kd.C_string (P := Tryd.prog) (A := A) (c := c) Tryd.underlying25 Tryd.underlying5 Tryd.underlying9 (Kd.C_below hC hb))
  have HB := Aside0.mk (Below.refl w.heap.size w)
  obtain ⟨S, hS⟩ : ∃ S, S = strOfNums L := ⟨_, rfl⟩
  obtain ⟨q, hq⟩ : ∃ q, q = (⟨(Lib.trimSuffix S.data.toList (⟨#[0]⟩ : ByteArray).data.toList).toArray⟩ : ByteArray) := ⟨_, rfl⟩
  obtain ⟨b, hb⟩ : ∃ b, b = Lib.hasSuffix S.data.toList (⟨#[0]⟩ : ByteArray).data.toList := ⟨_, rfl⟩
  rw [← hS] at HCS HCV hsf
  rw [← hq, ← hb] at HCS
  have hsf2 : b = decide (L.length ≠ 0 ∧ rd L ((L.length - 1 : Nat) : Int) = 0) := hb.trans hsf
  obtain ⟨n, hn⟩ : ∃ n, n = L.length := ⟨_, rfl⟩
  obtain ⟨G, hG⟩ : ∃ G, G = textsG L := ⟨_, rfl⟩
  rw [← hG]
  by_cases h0 : L.length = 0
  · have d1 : ((n : Int) == 0) = true := by rw [hn, h0]; rfl
    have HG := Aside0.mk (show G = ([], 0) by rw [hG]; unfold textsG; rw [if_pos h0])
    rw [← hn] at HCV ⊢
    clear hC hc hl hB hm hsf hsf2 hS hq hb hn hG h0 hsz
    have hcv := HCV.out w HB.out
    go_enter Tryd.func26, Tryd.ntmps26
    go_wp2_with (first | (go_at_call 49; (with_reducible refine (HCS.out _).mono ?_); rintro e w2 ⟨rfl, rfl⟩))
    go_ret2
    exact ⟨_, by rw [HG.out]; rfl, by rw [HG.out]; exact Kd.R_nil _ _ _ _ _, HB.out⟩
  · have d1 : ((n : Int) == 0) = false := by rw [hn]; exact beq_eq_false_iff_ne.2 (by omega)
    by_cases hz : rd L ((L.length - 1 : Nat) : Int) = 0
    · have hb1 : b = true := by rw [hsf2]; exact decide_eq_true ⟨h0, hz⟩
      have hq2 : q = strOfNums (L.take (L.length - 1)) := by
        rw [hq]
        unfold Lib.trimSuffix
        rw [← hb, hb1, if_pos rfl, str_mk, bytesOf_take, hS]
        have e1 : (strOfNums L).data.toList = Lib.bytesOf L := rfl
        have e2 : (Lib.bytesOf L).length = L.length := by unfold Lib.bytesOf; rw [List.length_map]
        rw [e1, e2]
        rfl
      have hqs : q.size < 4294967281 := by rw [hq2, strOfNums_size, List.length_take]; omega
      have HSP := Aside0.mk (split_calls q m w hqs hm)
      have hpi : ((cuts 0 q.data.toList).map fun l => (⟨l.toArray⟩ : ByteArray)) = piecesB (L.take (L.length - 1)) := by rw [hq2]; rfl
      have hlen : (cuts 0 q.data.toList).length = (piecesB (L.take (L.length - 1))).length := by rw [← hpi, List.length_map]
      rw [hpi, hlen] at HSP
      have HG := Aside0.mk (show G = (piecesB (L.take (L.length - 1)), 0) by rw [hG]; unfold textsG; rw [if_neg h0, if_pos hz])
      generalize piecesB (L.take (L.length - 1)) = P at HSP HG
      subst hb1
      rw [← hn] at HCV ⊢
      clear hC hc hl hB hm hsf hsf2 hS hq hb hn hG h0 hsz hz hq2 hqs hpi hlen
      have hcv := HCV.out w HB.out
      go_enter Tryd.func26, Tryd.ntmps26
      go_wp2_with (first
        | (go_at_call 49; (with_reducible refine (HCS.out _).mono ?_); rintro e w2 ⟨rfl, rfl⟩)
        | (go_at_call 50; (with_reducible refine HSP.out.mono ?_); rintro e w2 ⟨A2, c2, rfl, hR, hb⟩; have HR := Aside0.mk hR; have HB2 := Aside0.mk hb; clear hR hb))
      go_ret2
      exact ⟨_, by rw [HG.out]; rfl, by rw [HG.out]; exact HR.out, HB2.out⟩
    · have hb1 : b = false := by rw [hsf2]; exact decide_eq_false (fun h => hz h.2)
      have HG := Aside0.mk (show G = ([], 15) by rw [hG]; unfold textsG; rw [if_neg h0, if_neg hz])
      subst hb1
      rw [← hn] at HCV ⊢
      clear hC hc hl hB hm hsf hsf2 hS hq hb hn hG h0 hsz hz
      have hcv := HCV.out w HB.out
      go_enter Tryd.func26, Tryd.ntmps26
      go_wp2_with (first | (go_at_call 49; (with_reducible refine (HCS.out _).mono ?_); rintro e w2 ⟨rfl, rfl⟩))
      go_ret2
      exact ⟨_, by rw [HG.out]; rfl, by rw [HG.out]; exact Kd.R_nil _ _ _ _ _, HB.out⟩
end Go.Proofs.YtlhnaplmphdhlaaDoor.Q
end
section
namespace Go.Proofs.YtlhnaplmphdhlaaDoor.Q
open Go.RowKit Go.Proofs.YtlhnaplmphdhlaaDoorW.PrintWords Go.Proofs.YtlhnaplmphdhlaaDoorW.PrintLast Go.Proofs.YtlhnaplmphdhlaaDoorW.PrintMore
set_option linter.unusedVariables false
set_option linter.unusedSimpArgs false

attribute [local go_sem] max2_int min2_int max_two min_two max_three min_three max_four min_four
/-! ### tinderlaw05_same: function 29 -/
def tinderlaw05_same.l0 : Nat → List ByteArray → List ByteArray → Int → Option (Bool)
  | 0, _, _, _ => none
  | k + 1, x0, x1, x5 => if x5 < (x0.length : Int) then (if 0 ≤ x5 then (if x5 < (x1.length : Int) then (if (rdOf ByteArray.empty x0 x5).toList = (rdOf ByteArray.empty x1 x5).toList then (tinderlaw05_same.l0 k x0 x1 (wrap64 (x5 + 1))) else (some false)) else (none)) else (none)) else (some true)
def tinderlaw05_same.f (k : Nat) (l0 : List ByteArray) (l1 : List ByteArray) : Option (Bool) := if (l0.length : Int) = (l1.length : Int) then (tinderlaw05_same.l0 k l0 l1 0) else (some false)
theorem tinderlaw05_same.mono_l : ∀ k, (∀ y0 y1 y2, LeO (tinderlaw05_same.l0 k y0 y1 y2) (tinderlaw05_same.l0 (k + 1) y0 y1 y2))
  | 0 => fun _ _ _ r h => by simp [tinderlaw05_same.l0] at h
  | k + 1 => by
    have ih0 := tinderlaw05_same.mono_l k
    · intro y0 y1 y2
      unfold tinderlaw05_same.l0
      repeat' first
      | (with_reducible exact ih0 _ _ _)
      | (with_reducible exact LeO.refl _)
      | (with_reducible exact LeO.none _)
      | (with_reducible refine LeO.ite ?_ ?_)
      | (with_reducible refine LeO.bind ?_ (fun _ => ?_))
      | exact ih0 _ _ _
      | exact LeO.none _
      | refine LeO.ite ?_ ?_
      | refine LeO.bind ?_ (fun _ => ?_)
theorem tinderlaw05_same.mono : ∀ a0 a1 k, LeO (tinderlaw05_same.f k a0 a1) (tinderlaw05_same.f (k + 1) a0 a1) := by
  intro a0 a1 k
  have ih0 := tinderlaw05_same.mono_l k
  unfold tinderlaw05_same.f
  repeat' first
      | (with_reducible exact ih0 _ _ _)
      | (with_reducible exact LeO.refl _)
      | (with_reducible exact LeO.none _)
      | (with_reducible refine LeO.ite ?_ ?_)
      | (with_reducible refine LeO.bind ?_ (fun _ => ?_))
      | exact ih0 _ _ _
      | exact LeO.none _
      | refine LeO.ite ?_ ?_
      | refine LeO.bind ?_ (fun _ => ?_)
set_option maxHeartbeats 8000000 in
set_option maxRecDepth 100000 in
theorem tinderlaw05_same.calls (k : Nat) (A0 : Option Addr) (c0 : Nat) (l0 : List ByteArray) (A1 : Option Addr) (c1 : Nat) (l1 : List ByteArray) (r : Bool) (w : World) (hr0 : Kd.C Kd.string w A0 l0.length l0) (hc0 : l0.length ≤ c0) (hr1 : Kd.C Kd.string w A1 l1.length l1) (hc1 : l1.length ≤ c1) (h : tinderlaw05_same.f k l0 l1 = some r) :
    Calls Tryd.prog 29 #[.slice A0 l0.length c0, .slice A1 l1.length c1] w fun e w' => e = .returned (.bool r) ∧ Drawn0 w w' := by
  have HR0 := Aside0.mk hr0
  have HC0 := Aside0.mk hc0
  clear hr0 hc0
  have HR1 := Aside0.mk hr1
  have HC1 := Aside0.mk hc1
  clear hr1 hc1
  have H : (if (l0.length : Int) = (l1.length : Int) then (tinderlaw05_same.l0 k l0 l1 0) else (some false)) = some r := h
  clear h
  by_cases c3 : (l0.length : Int) = (l1.length : Int)
  · rw [if_pos c3] at H
    have c3b0 : ((l0.length : Int) == (l1.length : Int)) = true := beq_iff_eq.mpr c3
    have c3b1 : ((l0.length : Int) != (l1.length : Int)) = false := bne_eq_false_iff_eq.mpr c3
    have c3b2 : (l0.length == l1.length) = true := by first | simpa using c3 | (simp at c3 ⊢; omega)
    clear c3
    have H' := Aside0.mk H
    clear H
    go_enter Tryd.func29, Tryd.ntmps29
    go_wp2
    repeat (go_quiet (fail); try go_wp2)
    go_loopg [5] k (fun kq v5 w' => ∃ (x5_1 : Int), v5 = .int .i64 x5_1 ∧ Aside0 (tinderlaw05_same.l0 kq l0 l1 x5_1 = some r) ∧ Aside0 (kq ≤ k) ∧ Drawn0 w w')
    case atStart => exact ⟨(0), (by first | rfl | (simp; done) | (simp [*]; done)), H', ⟨Nat.le_refl _⟩, by repeat (first | exact Drawn0.refl _ | apply Drawn0.step)⟩
    case round =>
      clear H'
      try clear c1
      try clear c2
      try clear p2
      try clear c3
      try clear c3b0
      try clear c3b1
      try clear c3b2
      obtain ⟨x5_1, rfl, HA, HK1, ⟨m1, rfl⟩⟩ := hrel
      cases gk with
      | zero => exact absurd HA.out (by simp [tinderlaw05_same.l0])
      | succ k1 =>
        have H := HA.out
        clear HA
        simp only [tinderlaw05_same.l0] at H
        by_cases c4 : x5_1 < (l0.length : Int)
        · rw [if_pos c4] at H
          have c4b0 : decide (x5_1 < (l0.length : Int)) = true := decide_eq_true c4
          clear c4
          by_cases c5 : 0 ≤ x5_1
          · rw [if_pos c5] at H
            have c5b0 : decide (0 ≤ x5_1) = true := decide_eq_true c5
            clear c5
            by_cases c6 : x5_1 < (l1.length : Int)
            · rw [if_pos c6] at H
              have c6b0 : decide (x5_1 < (l1.length : Int)) = true := decide_eq_true c6
              clear c6
              by_cases c7 : (rdOf ByteArray.empty l0 x5_1).toList = (rdOf ByteArray.empty l1 x5_1).toList
              · rw [if_pos c7] at H
                have c7b0 : ((rdOf ByteArray.empty l0 x5_1).toList == (rdOf ByteArray.empty l1 x5_1).toList) = true := beq_iff_eq.mpr c7
                have c7b1 : ((rdOf ByteArray.empty l0 x5_1).toList != (rdOf ByteArray.empty l1 x5_1).toList) = false := bne_eq_false_iff_eq.mpr c7
                clear c7
                have H' := Aside0.mk H
                clear H
                have p30001 : 0 ≤ (x5_1 : Int) := of_decide_eq_true (by first | (with_reducible assumption) | assumption)
                have q30001 : x5_1 < (l0.length : Int) := of_decide_eq_true (by first | (with_reducible assumption) | assumption)
                obtain ⟨ad30001, e30001, hx30001_0⟩ := Kd.at_string HR0.out x5_1 p30001 q30001
                cases e30001
                replace p30001 := eq_true p30001
                replace q30001 := eq_true q30001
                have p30002 : 0 ≤ (x5_1 : Int) := of_decide_eq_true (by first | (with_reducible assumption) | assumption)
                have q30002 : x5_1 < (l1.length : Int) := of_decide_eq_true (by first | (with_reducible assumption) | assumption)
                obtain ⟨ad30002, e30002, hx30002_0⟩ := Kd.at_string HR1.out x5_1 p30002 q30002
                cases e30002
                replace p30002 := eq_true p30002
                replace q30002 := eq_true q30002
                go_wp2
                repeat (go_quiet (fail); try go_wp2)
                go_roundg k1
                case measure => have := HK1.out; omega
                case rel => exact ⟨(wrap64 (x5_1 + 1)), (by first | rfl | (simp; done) | (simp [*]; done)), H', ⟨by have := HK1.out; omega⟩, by repeat (first | exact Drawn0.refl _ | apply Drawn0.step)⟩
              · rw [if_neg c7] at H
                have c7b0 : ((rdOf ByteArray.empty l0 x5_1).toList == (rdOf ByteArray.empty l1 x5_1).toList) = false := beq_eq_false_iff_ne.mpr c7
                have c7b1 : ((rdOf ByteArray.empty l0 x5_1).toList != (rdOf ByteArray.empty l1 x5_1).toList) = true := bne_iff_ne.mpr c7
                obtain rfl := Option.some.inj H
                have p30001 : 0 ≤ (x5_1 : Int) := of_decide_eq_true (by first | (with_reducible assumption) | assumption)
                have q30001 : x5_1 < (l0.length : Int) := of_decide_eq_true (by first | (with_reducible assumption) | assumption)
                obtain ⟨ad30001, e30001, hx30001_0⟩ := Kd.at_string HR0.out x5_1 p30001 q30001
                cases e30001
                replace p30001 := eq_true p30001
                replace q30001 := eq_true q30001
                have p30002 : 0 ≤ (x5_1 : Int) := of_decide_eq_true (by first | (with_reducible assumption) | assumption)
                have q30002 : x5_1 < (l1.length : Int) := of_decide_eq_true (by first | (with_reducible assumption) | assumption)
                obtain ⟨ad30002, e30002, hx30002_0⟩ := Kd.at_string HR1.out x5_1 p30002 q30002
                cases e30002
                replace p30002 := eq_true p30002
                replace q30002 := eq_true q30002
                go_wp2
                repeat (go_quiet (fail); try go_wp2)
                go_ret
                exact ⟨by first | rfl | (simp; done) | (simp [*]; done), by repeat (first | exact Drawn0.refl _ | apply Drawn0.step)⟩
            · rw [if_neg c6] at H
              exact absurd H (by simp)
          · rw [if_neg c5] at H
            exact absurd H (by simp)
        · rw [if_neg c4] at H
          have c4b0 : decide (x5_1 < (l0.length : Int)) = false := decide_eq_false c4
          clear c4
          obtain rfl := Option.some.inj H
          go_wp2
          repeat (go_quiet (fail); try go_wp2)
          go_ret
          exact ⟨by first | rfl | (simp; done) | (simp [*]; done), by repeat (first | exact Drawn0.refl _ | apply Drawn0.step)⟩
  · rw [if_neg c3] at H
    have c3b0 : ((l0.length : Int) == (l1.length : Int)) = false := beq_eq_false_iff_ne.mpr c3
    have c3b1 : ((l0.length : Int) != (l1.length : Int)) = true := bne_iff_ne.mpr c3
    have c3b2 : (l0.length == l1.length) = false := by first | simpa using c3 | (simp at c3 ⊢; omega)
    obtain rfl := Option.some.inj H
    go_enter Tryd.func29, Tryd.ntmps29
    go_wp2
    repeat (go_quiet (fail); try go_wp2)
    go_ret
    exact ⟨by first | rfl | (simp; done) | (simp [*]; done), by repeat (first | exact Drawn0.refl _ | apply Drawn0.step)⟩

end Go.Proofs.YtlhnaplmphdhlaaDoor.Q
end
section
namespace Go.Proofs.YtlhnaplmphdhlaaDoor.Q
open Go.RowKit Go.Proofs.YtlhnaplmphdhlaaDoorW.PrintWords Go.Proofs.YtlhnaplmphdhlaaDoorW.PrintLast Go.Proofs.YtlhnaplmphdhlaaDoorW.PrintMore
set_option linter.unusedVariables false
set_option linter.unusedSimpArgs false

attribute [local go_sem] max2_int min2_int max_two min_two max_three min_three max_four min_four
/-! ### tinderref03_Same: function 28 -/
def tinderref03_Same.l0 : Nat → List Int → List Int → Int → Option (Bool)
  | 0, _, _, _ => none
  | k + 1, x0, x1, x5 => if x5 < (x0.length : Int) then (if 0 ≤ x5 then (if x5 < (x1.length : Int) then (if (rd x0 x5) = (rd x1 x5) then (tinderref03_Same.l0 k x0 x1 (wrap64 (x5 + 1))) else (some false)) else (none)) else (none)) else (some true)
def tinderref03_Same.f (k : Nat) (l0 : List Int) (l1 : List Int) : Option (Bool) := if (l0.length : Int) = (l1.length : Int) then (tinderref03_Same.l0 k l0 l1 0) else (some false)
theorem tinderref03_Same.mono_l : ∀ k, (∀ y0 y1 y2, LeO (tinderref03_Same.l0 k y0 y1 y2) (tinderref03_Same.l0 (k + 1) y0 y1 y2))
  | 0 => fun _ _ _ r h => by simp [tinderref03_Same.l0] at h
  | k + 1 => by
    have ih0 := tinderref03_Same.mono_l k
    · intro y0 y1 y2
      unfold tinderref03_Same.l0
      repeat' first
      | (with_reducible exact ih0 _ _ _)
      | (with_reducible exact LeO.refl _)
      | (with_reducible exact LeO.none _)
      | (with_reducible refine LeO.ite ?_ ?_)
      | (with_reducible refine LeO.bind ?_ (fun _ => ?_))
      | exact ih0 _ _ _
      | exact LeO.none _
      | refine LeO.ite ?_ ?_
      | refine LeO.bind ?_ (fun _ => ?_)
theorem tinderref03_Same.mono : ∀ a0 a1 k, LeO (tinderref03_Same.f k a0 a1) (tinderref03_Same.f (k + 1) a0 a1) := by
  intro a0 a1 k
  have ih0 := tinderref03_Same.mono_l k
  unfold tinderref03_Same.f
  repeat' first
      | (with_reducible exact ih0 _ _ _)
      | (with_reducible exact LeO.refl _)
      | (with_reducible exact LeO.none _)
      | (with_reducible refine LeO.ite ?_ ?_)
      | (with_reducible refine LeO.bind ?_ (fun _ => ?_))
      | exact ih0 _ _ _
      | exact LeO.none _
      | refine LeO.ite ?_ ?_
      | refine LeO.bind ?_ (fun _ => ?_)
set_option maxHeartbeats 8000000 in
set_option maxRecDepth 100000 in
theorem tinderref03_Same.calls (k : Nat) (A0 : Option Addr) (c0 : Nat) (l0 : List Int) (A1 : Option Addr) (c1 : Nat) (l1 : List Int) (r : Bool) (w : World) (hr0 : Kd.C (Kd.int .u32) w A0 l0.length l0) (hc0 : l0.length ≤ c0) (hr1 : Kd.C (Kd.int .u32) w A1 l1.length l1) (hc1 : l1.length ≤ c1) (h : tinderref03_Same.f k l0 l1 = some r) :
    Calls Tryd.prog 28 #[.slice A0 l0.length c0, .slice A1 l1.length c1] w fun e w' => e = .returned (.bool r) ∧ Drawn0 w w' := by
  have HR0 := Aside0.mk hr0
  have HC0 := Aside0.mk hc0
  clear hr0 hc0
  have HR1 := Aside0.mk hr1
  have HC1 := Aside0.mk hc1
  clear hr1 hc1
  have H : (if (l0.length : Int) = (l1.length : Int) then (tinderref03_Same.l0 k l0 l1 0) else (some false)) = some r := h
  clear h
  by_cases c3 : (l0.length : Int) = (l1.length : Int)
  · rw [if_pos c3] at H
    have c3b0 : ((l0.length : Int) == (l1.length : Int)) = true := beq_iff_eq.mpr c3
    have c3b1 : ((l0.length : Int) != (l1.length : Int)) = false := bne_eq_false_iff_eq.mpr c3
    have c3b2 : (l0.length == l1.length) = true := by first | simpa using c3 | (simp at c3 ⊢; omega)
    clear c3
    have H' := Aside0.mk H
    clear H
    go_enter Tryd.func28, Tryd.ntmps28
    go_wp2
    repeat (go_quiet (fail); try go_wp2)
    go_loopg [5] k (fun kq v5 w' => ∃ (x5_1 : Int), v5 = .int .i64 x5_1 ∧ Aside0 (tinderref03_Same.l0 kq l0 l1 x5_1 = some r) ∧ Aside0 (kq ≤ k) ∧ Drawn0 w w')
    case atStart => exact ⟨(0), (by first | rfl | (simp; done) | (simp [*]; done)), H', ⟨Nat.le_refl _⟩, by repeat (first | exact Drawn0.refl _ | apply Drawn0.step)⟩
    case round =>
      clear H'
      try clear c1
      try clear c2
      try clear p2
      try clear c3
      try clear c3b0
      try clear c3b1
      try clear c3b2
      obtain ⟨x5_1, rfl, HA, HK1, ⟨m1, rfl⟩⟩ := hrel
      cases gk with
      | zero => exact absurd HA.out (by simp [tinderref03_Same.l0])
      | succ k1 =>
        have H := HA.out
        clear HA
        simp only [tinderref03_Same.l0] at H
        by_cases c4 : x5_1 < (l0.length : Int)
        · rw [if_pos c4] at H
          have c4b0 : decide (x5_1 < (l0.length : Int)) = true := decide_eq_true c4
          clear c4
          by_cases c5 : 0 ≤ x5_1
          · rw [if_pos c5] at H
            have c5b0 : decide (0 ≤ x5_1) = true := decide_eq_true c5
            clear c5
            by_cases c6 : x5_1 < (l1.length : Int)
            · rw [if_pos c6] at H
              have c6b0 : decide (x5_1 < (l1.length : Int)) = true := decide_eq_true c6
              clear c6
              by_cases c7 : (rd l0 x5_1) = (rd l1 x5_1)
              · rw [if_pos c7] at H
                have c7b0 : ((rd l0 x5_1) == (rd l1 x5_1)) = true := beq_iff_eq.mpr c7
                have c7b1 : ((rd l0 x5_1) != (rd l1 x5_1)) = false := bne_eq_false_iff_eq.mpr c7
                clear c7
                have H' := Aside0.mk H
                clear H
                have p29001 : 0 ≤ (x5_1 : Int) := of_decide_eq_true (by first | (with_reducible assumption) | assumption)
                have q29001 : x5_1 < (l0.length : Int) := of_decide_eq_true (by first | (with_reducible assumption) | assumption)
                obtain ⟨ad29001, e29001, hx29001_0⟩ := Kd.at_int HR0.out x5_1 p29001 q29001
                cases e29001
                replace p29001 := eq_true p29001
                replace q29001 := eq_true q29001
                have p29002 : 0 ≤ (x5_1 : Int) := of_decide_eq_true (by first | (with_reducible assumption) | assumption)
                have q29002 : x5_1 < (l1.length : Int) := of_decide_eq_true (by first | (with_reducible assumption) | assumption)
                obtain ⟨ad29002, e29002, hx29002_0⟩ := Kd.at_int HR1.out x5_1 p29002 q29002
                cases e29002
                replace p29002 := eq_true p29002
                replace q29002 := eq_true q29002
                go_wp2
                repeat (go_quiet (fail); try go_wp2)
                go_roundg k1
                case measure => have := HK1.out; omega
                case rel => exact ⟨(wrap64 (x5_1 + 1)), (by first | rfl | (simp; done) | (simp [*]; done)), H', ⟨by have := HK1.out; omega⟩, by repeat (first | exact Drawn0.refl _ | apply Drawn0.step)⟩
              · rw [if_neg c7] at H
                have c7b0 : ((rd l0 x5_1) == (rd l1 x5_1)) = false := beq_eq_false_iff_ne.mpr c7
                have c7b1 : ((rd l0 x5_1) != (rd l1 x5_1)) = true := bne_iff_ne.mpr c7
                obtain rfl := Option.some.inj H
                have p29001 : 0 ≤ (x5_1 : Int) := of_decide_eq_true (by first | (with_reducible assumption) | assumption)
                have q29001 : x5_1 < (l0.length : Int) := of_decide_eq_true (by first | (with_reducible assumption) | assumption)
                obtain ⟨ad29001, e29001, hx29001_0⟩ := Kd.at_int HR0.out x5_1 p29001 q29001
                cases e29001
                replace p29001 := eq_true p29001
                replace q29001 := eq_true q29001
                have p29002 : 0 ≤ (x5_1 : Int) := of_decide_eq_true (by first | (with_reducible assumption) | assumption)
                have q29002 : x5_1 < (l1.length : Int) := of_decide_eq_true (by first | (with_reducible assumption) | assumption)
                obtain ⟨ad29002, e29002, hx29002_0⟩ := Kd.at_int HR1.out x5_1 p29002 q29002
                cases e29002
                replace p29002 := eq_true p29002
                replace q29002 := eq_true q29002
                go_wp2
                repeat (go_quiet (fail); try go_wp2)
                go_ret
                exact ⟨by first | rfl | (simp; done) | (simp [*]; done), by repeat (first | exact Drawn0.refl _ | apply Drawn0.step)⟩
            · rw [if_neg c6] at H
              exact absurd H (by simp)
          · rw [if_neg c5] at H
            exact absurd H (by simp)
        · rw [if_neg c4] at H
          have c4b0 : decide (x5_1 < (l0.length : Int)) = false := decide_eq_false c4
          clear c4
          obtain rfl := Option.some.inj H
          go_wp2
          repeat (go_quiet (fail); try go_wp2)
          go_ret
          exact ⟨by first | rfl | (simp; done) | (simp [*]; done), by repeat (first | exact Drawn0.refl _ | apply Drawn0.step)⟩
  · rw [if_neg c3] at H
    have c3b0 : ((l0.length : Int) == (l1.length : Int)) = false := beq_eq_false_iff_ne.mpr c3
    have c3b1 : ((l0.length : Int) != (l1.length : Int)) = true := bne_iff_ne.mpr c3
    have c3b2 : (l0.length == l1.length) = false := by first | simpa using c3 | (simp at c3 ⊢; omega)
    obtain rfl := Option.some.inj H
    go_enter Tryd.func28, Tryd.ntmps28
    go_wp2
    repeat (go_quiet (fail); try go_wp2)
    go_ret
    exact ⟨by first | rfl | (simp; done) | (simp [*]; done), by repeat (first | exact Drawn0.refl _ | apply Drawn0.step)⟩

end Go.Proofs.YtlhnaplmphdhlaaDoor.Q
end
section
set_option linter.unusedSimpArgs false
set_option linter.unusedVariables false
namespace Go.Proofs.YtlhnaplmphdhlaaDoor.Q
open Go.RowKit Go.Proofs.YtlhnaplmphdhlaaDoorW.PrintWords Go.Proofs.YtlhnaplmphdhlaaDoorW.PrintLast Go.Proofs.YtlhnaplmphdhlaaDoorW.PrintMore
attribute [local go_sem] max2_int min2_int max_two min_two max_three min_three max_four min_four
theorem cell0 {w : World} (h : w.ShapedOpen Tryd.prog) : ∃ m, w.cell? ⟨0, 0, none⟩ = some (.int .i64 m) :=
  cell_of_shapedOpen_int (t := 3) (zero := #[.int .i64 0]) h (by decide +kernel) (by kernel_rfl) rfl (by kernel_rfl) (by kernel_rfl) Tryd.underlying3
theorem sames_l0 (L : List ByteArray) (hl : L.length ≤ 1000000000) : ∀ (k : Nat) (i : Int), 0 ≤ i → i ≤ L.length → L.length + 1 ≤ k + i → tinderlaw05_same.l0 k L L i = some true := by
  intro k
  induction k with
  | zero => intro i h0 hi hk; exact absurd hk (by omega)
  | succ k ih =>
    intro i h0 hi hk
    unfold tinderlaw05_same.l0
    by_cases h : i < (L.length : Int)
    · rw [if_pos h, if_pos h0, if_pos h, if_pos rfl, show wrap64 (i + 1) = i + 1 by unfold wrap64; omega]
      exact ih (i + 1) (by omega) (by omega) (by omega)
    · rw [if_neg h]
theorem sameu_l0 (L : List Int) (hl : L.length ≤ 1000000000) : ∀ (k : Nat) (i : Int), 0 ≤ i → i ≤ L.length → L.length + 1 ≤ k + i → tinderref03_Same.l0 k L L i = some true := by
  intro k
  induction k with
  | zero => intro i h0 hi hk; exact absurd hk (by omega)
  | succ k ih =>
    intro i h0 hi hk
    unfold tinderref03_Same.l0
    by_cases h : i < (L.length : Int)
    · rw [if_pos h, if_pos h0, if_pos h, if_pos rfl, show wrap64 (i + 1) = i + 1 by unfold wrap64; omega]
      exact ih (i + 1) (by omega) (by omega) (by omega)
    · rw [if_neg h]
theorem sames_at (A : Option Addr) (c : Nat) (B : Option Addr) (d : Nat) (L : List ByteArray) (hl : L.length ≤ 1000000000) (W : World) (h1 : Kd.C Kd.string W A L.length L) (hc : L.length ≤ c) (h2 : Kd.C Kd.string W B L.length L) (hd : L.length ≤ d) :
    Calls Tryd.prog 29 #[.slice A L.length c, .slice B L.length d] W fun e w' => e = .returned (.bool true) ∧ Below W.heap.size W w' := by
  refine (tinderlaw05_same.calls (L.length + 1) A c L B d L true W h1 hc h2 hd (by unfold tinderlaw05_same.f; rw [if_pos rfl]; exact sames_l0 L hl _ _ (Int.le_refl _) (by omega) (by omega))).mono ?_
  rintro e w' ⟨rfl, h⟩
  exact ⟨rfl, h.below⟩
theorem sameu_at (A : Option Addr) (c : Nat) (B : Option Addr) (d : Nat) (L : List Int) (hl : L.length ≤ 1000000000) (W : World) (h1 : Kd.C (Kd.int .u32) W A L.length L) (hc : L.length ≤ c) (h2 : Kd.C (Kd.int .u32) W B L.length L) (hd : L.length ≤ d) :
    Calls Tryd.prog 28 #[.slice A L.length c, .slice B L.length d] W fun e w' => e = .returned (.bool true) ∧ Below W.heap.size W w' := by
  refine (tinderref03_Same.calls (L.length + 1) A c L B d L true W h1 hc h2 hd (by unfold tinderref03_Same.f; rw [if_pos rfl]; exact sameu_l0 L hl _ _ (Int.le_refl _) (by omega) (by omega))).mono ?_
  rintro e w' ⟨rfl, h⟩
  exact ⟨rfl, h.below⟩
/-- What Ints answers, on both sides. -/
def intsG (L : List Int) : List Int × Int := if L.length % 4 = 0 then (allNums L, 0) else ([], 15)
theorem intsG_len (L : List Int) : (intsG L).1.length ≤ L.length := by
  unfold intsG
  split
  · show (allNums L).length ≤ _
    unfold allNums
    rw [List.length_map, List.length_range]
    omega
  · exact Nat.zero_le _
set_option maxHeartbeats 1000000 in
set_option maxRecDepth 100000 in
theorem refIntsG_calls (A : Option Addr) (c : Nat) (L : List Int) (w : World) (hC : Kd.C (Kd.int .u8) w A L.length L) (hc : L.length ≤ c) (hl : L.length ≤ 4000000) (hB : BytesL L) :
    Calls Tryd.prog 25 #[.slice A L.length c] w fun e w' => ∃ v, e = .returned (.tuple #[v, .int .i64 (intsG L).2]) ∧ Kd.R (Kd.int .u32) 24 w' w.heap.size (fun _ => True) v (intsG L).1 ∧ Below w.heap.size w w' := by
  unfold intsG
  by_cases h4 : L.length % 4 = 0
  · rw [if_pos h4, nums_eq L hB]
    exact refInts_calls A c (L.length / 4) L w (by omega) hC hc hl hB
  · rw [if_neg h4]
    have d0 : ((L.length : Int) % 4 != 0) = true := bne_iff_ne.2 (by omega)
    have d1 : (Int.tmod (L.length : Int) 4 != 0) = true := bne_iff_ne.2 (by rw [Int.tmod_eq_emod_of_nonneg (by omega)]; omega)
    clear h4 hC hc hl hB
    go_enter Tryd.func25, Tryd.ntmps25
    go_wp2
    go_ret2
    exact ⟨_, rfl, Kd.R_nil _ _ _ _ _, Below.refl _ _⟩
theorem intsG_calls (A : Option Addr) (c : Nat) (L : List Int) (w : World) (hC : Kd.C (Kd.int .u8) w A L.length L) (hc : L.length ≤ c) (hl : L.length ≤ 4000000) :
    Calls Tryd.prog 24 #[.slice A L.length c] w fun e w' => ∃ v, e = .returned (.tuple #[v, .int .i64 (intsG L).2]) ∧ Kd.R (Kd.int .u32) 24 w' w.heap.size (fun _ => True) v (intsG L).1 ∧ Below w.heap.size w w' :=
  prop_Ints.calls A c L _ _ w hC hc (by unfold prop_Ints.f intsG; split <;> first | rfl | (rw [if_pos hl]))
theorem textsG_len (L : List Int) : (textsG L).1.length ≤ L.length := by
  unfold textsG
  split
  · exact Nat.zero_le _
  · split
    · show (piecesB _).length ≤ _
      unfold piecesB
      have h := cuts_len 0 (Lib.bytesOf (L.take (L.length - 1)))
      rw [List.length_map]
      unfold Lib.bytesOf at h ⊢
      rw [List.length_map, List.length_take] at h
      omega
    · exact Nat.zero_le _
set_option maxRecDepth 100000 in
set_option maxHeartbeats 8000000 in
theorem propRows_row {w : World} (ht : Tabs w) (hm : ∃ m, w.cell? ⟨0, 0, none⟩ = some (.int .i64 m)) (A : Option Addr) (c : Nat) (L : List Int) (hC : Kd.C (Kd.int .u8) w A L.length L) (hc : L.length ≤ c) (hg : L.length * 1 ≤ 140737488351232 ∧ ∀ a ∈ L, (Lit.int .u8 a).wf = true) (hu : L.length ≤ 1048576) :
    Calls Tryd.prog 6 #[.slice A L.length c] w fun e w' => e = .returned (.bool true) ∧ Below w.heap.size w w' := by
  clear ht
  obtain ⟨m, hm⟩ := hm
  have hB : BytesL L := fun a ha => by
    have := hg.2 a ha
    simp only [Lit.wf, Bool.and_eq_true, decide_eq_true_eq, show IntKind.u8.min = 0 from rfl, show IntKind.u8.max = 255 from rfl] at this
    omega
  have hil := intsG_len L
  have htl := textsG_len L
  obtain ⟨X, e0, hI⟩ : ∃ X e0, intsG L = (X, e0) := ⟨_, _, rfl⟩
  obtain ⟨Y, f0, hT⟩ : ∃ Y f0, textsG L = (Y, f0) := ⟨_, _, rfl⟩
  rw [hI] at hil
  rw [hT] at htl
  have HI := Aside0.mk (show ∀ W : World, Below w.heap.size w W → Calls Tryd.prog 24 #[.slice A L.length c] W (fun e w' => ∃ A c, e = .returned (.tuple #[.slice A X.length c, .int .i64 e0]) ∧ X.length ≤ c ∧ Kd.C (Kd.int .u32) w' A X.length X ∧ Below W.heap.size W w') from fun W hW => by
    refine (intsG_calls A c L W (Kd.C_below hC hW) hc (by omega)).mono ?_
    rintro e w' ⟨v, rfl, hR, hb⟩
    rw [hI] at hR ⊢
    obtain ⟨A, c, rfl, hc, hC⟩ := Kd.R_reads hR
    exact ⟨A, c, rfl, hc, hC, hb⟩)
  have HRI := Aside0.mk (show ∀ W : World, Below w.heap.size w W → Calls Tryd.prog 25 #[.slice A L.length c] W (fun e w' => ∃ A c, e = .returned (.tuple #[.slice A X.length c, .int .i64 e0]) ∧ X.length ≤ c ∧ Kd.C (Kd.int .u32) w' A X.length X ∧ Below W.heap.size W w') from fun W hW => by
    refine (refIntsG_calls A c L W (Kd.C_below hC hW) hc (by omega) hB).mono ?_
    rintro e w' ⟨v, rfl, hR, hb⟩
    rw [hI] at hR ⊢
    obtain ⟨A, c, rfl, hc, hC⟩ := Kd.R_reads hR
    exact ⟨A, c, rfl, hc, hC, hb⟩)
  have HT := Aside0.mk (show ∀ W : World, Below w.heap.size w W → Calls Tryd.prog 26 #[.slice A L.length c] W (fun e w' => ∃ A c, e = .returned (.tuple #[.slice A Y.length c, .int .i64 f0]) ∧ Y.length ≤ c ∧ Kd.C Kd.string w' A Y.length Y ∧ Below W.heap.size W w') from fun W hW => by
    refine (texts_calls A c L m W (Kd.C_below hC hW) hc (by omega) hB (by rw [hW.cell (p := ⟨0, 0, none⟩) (World.block_lt_of_cell? w _ hm)]; exact hm)).mono ?_
    rintro e w' ⟨v, rfl, hR, hb⟩
    rw [hT] at hR ⊢
    obtain ⟨A, c, rfl, hc, hC⟩ := Kd.R_reads hR
    exact ⟨A, c, rfl, hc, hC, hb⟩)
  have HRT := Aside0.mk (show ∀ W : World, Below w.heap.size w W → Calls Tryd.prog 27 #[.slice A L.length c] W (fun e w' => ∃ A c, e = .returned (.tuple #[.slice A Y.length c, .int .i64 f0]) ∧ Y.length ≤ c ∧ Kd.C Kd.string w' A Y.length Y ∧ Below W.heap.size W w') from fun W hW => by
    refine (refTexts_calls A c L W (Kd.C_below hC hW) hc (by omega) hB).mono ?_
    rintro e w' ⟨v, rfl, hR, hb⟩
    rw [texts_eq L hB, hT] at hR ⊢
    obtain ⟨A, c, rfl, hc, hC⟩ := Kd.R_reads hR
    exact ⟨A, c, rfl, hc, hC, hb⟩)
  have HXL := Aside0.mk (show X.length ≤ 1000000000 by have : X.length ≤ L.length := hil; omega)
  have HYL := Aside0.mk (show Y.length ≤ 1000000000 by have : Y.length ≤ L.length := htl; omega)
  obtain ⟨n, hn⟩ : ∃ n, n = L.length := ⟨_, rfl⟩
  rw [← hn] at HI HRI HT HRT ⊢
  clear hI hT hC hc hg hB hn hm hu hil htl
  go_enter Tryd.func6, Tryd.ntmps6
  go_wp2_with (first
    | (go_at_call 14; (with_reducible refine (alive_calls _).mono ?_); rintro e w1 ⟨rfl, hb⟩; have HB1 := Aside0.mk hb; clear hb)
    | (go_at_call 24; (with_reducible refine (HI.out _ HB1.out).mono ?_); rintro e w2 ⟨A2, c2, rfl, hc, hC, hb⟩; have HB2 := Aside0.mk (below_step HB1.out hb); have HC2 := Aside0.mk hC; have HK2 := Aside0.mk hc; clear hc hC hb)
    | (go_at_call 25; (with_reducible refine (HRI.out _ HB2.out).mono ?_); rintro e w3 ⟨A3, c3, rfl, hc, hC, hb⟩; have HB3 := Aside0.mk (below_step HB2.out hb); have HC3 := Aside0.mk hC; have HK3 := Aside0.mk hc; have HC23 := Aside0.mk (Kd.C_below HC2.out hb); clear hc hC hb)
    | (go_at_call 26; (with_reducible refine (HT.out _ HB3.out).mono ?_); rintro e w4 ⟨A4, c4, rfl, hc, hC, hb⟩; have HB4 := Aside0.mk (below_step HB3.out hb); have HC4 := Aside0.mk hC; have HK4 := Aside0.mk hc; have HC24 := Aside0.mk (Kd.C_below HC23.out hb); have HC34 := Aside0.mk (Kd.C_below HC3.out hb); clear hc hC hb)
    | (go_at_call 27; (with_reducible refine (HRT.out _ HB4.out).mono ?_); rintro e w5 ⟨A5, c5, rfl, hc, hC, hb⟩; have HB5 := Aside0.mk (below_step HB4.out hb); have HC5 := Aside0.mk hC; have HK5 := Aside0.mk hc; have HC25 := Aside0.mk (Kd.C_below HC24.out hb); have HC35 := Aside0.mk (Kd.C_below HC34.out hb); have HC45 := Aside0.mk (Kd.C_below HC4.out hb); clear hc hC hb)
    | (go_at_call 28; (with_reducible refine (sameu_at _ _ _ _ X HXL.out _ HC25.out HK2.out HC35.out HK3.out).mono ?_); rintro e w6 ⟨rfl, hb⟩; have HB6 := Aside0.mk (below_step HB5.out hb); have HC46 := Aside0.mk (Kd.C_below HC45.out hb); have HC56 := Aside0.mk (Kd.C_below HC5.out hb); clear hb)
    | (go_at_call 29; (with_reducible refine (sames_at _ _ _ _ Y HYL.out _ HC46.out HK4.out HC56.out HK5.out).mono ?_); rintro e w7 ⟨rfl, hb⟩; have HB7 := Aside0.mk (below_step HB6.out hb); clear hb))
  go_ret
  exact ⟨rfl, HB7.out⟩
end Go.Proofs.YtlhnaplmphdhlaaDoor.Q
end
section
namespace Go.Proofs.YtlhnaplmphdhlaaDoor.Q
open Go.RowKit Go.Proofs.YtlhnaplmphdhlaaDoorW.PrintWords Go.Proofs.YtlhnaplmphdhlaaDoorW.PrintLast Go.Proofs.YtlhnaplmphdhlaaDoorW.PrintMore
def Opens {α : Type} (P : Program) (t : TypeId) (d : Kd α) (G : α → Prop) : Prop :=
  ∀ (H : Type) (enc : TypeId × Value → H) (W : World) (fuel : Nat) (cs : List Value) (x : DataW H × List MemPlace), DataW.trod enc P W 0 (fun _ => true) true fuel t cs = some x → (∀ n ∈ x.1.weights P t, n ≤ reachBytes) → ∃ a, d.K W a cs ∧ G a
section
variable {P : Program} {t e : TypeId}
theorem opens_int {k : IntKind} (ht : P.underlying t = some (.int k)) : Opens P t (Kd.int k) (fun n => (Lit.int k n).wf = true) := by
  intro H enc W fuel cs x h _
  obtain ⟨n, rfl, _, hw⟩ := DataW.trod_int ht h
  exact ⟨n, rfl, hw⟩
theorem opens_bool (ht : P.underlying t = some .bool) : Opens P t Kd.bool (fun _ => True) := by
  intro H enc W fuel cs x h _
  obtain ⟨b, rfl, _⟩ := DataW.trod_bool ht h
  exact ⟨b, rfl, trivial⟩
theorem opens_string (ht : P.underlying t = some .string) : Opens P t Kd.string (fun s => s.size ≤ 140737488351232) := by
  intro H enc W fuel cs x h hw
  obtain ⟨s, rfl, rfl, _⟩ := DataW.trod_string ht h
  have := hw s.data.toList.length (by simp [DataW.weights])
  exact ⟨s, rfl, by simpa [reachBytes] using this⟩
theorem weights_all {H : Type} {P : Program} {e : TypeId} : ∀ {l : List (DataW H)} {d : DataW H}, d ∈ l → ∀ n ∈ d.weights P e, n ∈ DataW.weightsAll P e l
  | d0 :: l, d, hd, n, hn => by
    simp only [DataW.weightsAll, List.mem_append]
    rcases List.mem_cons.1 hd with rfl | hd
    · exact .inl hn
    · exact .inr (weights_all hd n hn)
theorem cells_get {W : World} {base : Nat} {a : Addr} {n : Nat} {c : List Value} (h : W.cells? base a n = some c) : c.length = n ∧ ∀ i u, c[i]? = some u → W.cell? (a.add i) = some u := by
  unfold World.cells? at h
  split at h
  · have hl := mapM_some_length h
    refine ⟨by simpa using hl, fun i u hu => ?_⟩
    have hi : i < n := by
      have := (List.getElem?_eq_some_iff.1 hu).1
      simp at hl
      omega
    have := mapM_some_get h i i (by simp [hi])
    rw [this, hu]
  · cases h
theorem opens_slice {α : Type} {d : Kd α} {G : α → Prop} (ht : P.underlying t = some (.slice e)) (hc : P.cellsOf e = d.sz) (b : Nat) (hb : P.bytesOf e = b) (he : Opens P e d G) :
    Opens P t (Kd.slice e d) (fun xs => xs.length * b ≤ 140737488351232 ∧ ∀ a ∈ xs, G a) := by
  intro H enc W fuel cs x h hw
  rcases DataW.trod_slice ht h with ⟨rfl, _⟩ | ⟨a, len, cap, elems, rest, n, _, rfl, rfl, _, hl, hm, hlen, hel, _⟩
  · exact ⟨[], ⟨none, 0, rfl, Nat.le_refl _, Kd.C_nil d W⟩, by simp, fun a h => by cases h⟩
  · have hwt : (elems.length + rest.length) * b ≤ 140737488351232 := by
      have := hw ((elems.length + rest.length) * P.bytesOf e) (by simp [DataW.weights, ht])
      rw [hb] at this
      simpa [reachBytes] using this
    have hall : ∀ i : Fin len, ∃ p : α, ∃ c, c.length = d.sz ∧ d.K W p c ∧ G p ∧ ∀ j u, c[j]? = some u → W.cell? (a.add (i.1 * d.sz + j)) = some u := by
      intro i
      have hi : i.1 < elems.length := by have := i.2; omega
      have h1 := hel i.1 i.2
      rw [List.getElem?_eq_getElem hi] at h1
      obtain ⟨c, hcs, htr⟩ := Option.bind_eq_some_iff.1 h1
      obtain ⟨hcl, hcg⟩ := cells_get hcs
      obtain ⟨p, hK, hG⟩ := he H enc W n c _ htr (fun m hm => hw m (by
        simp only [DataW.weights, ht, List.mem_cons, List.mem_append]
        exact .inr (.inl (weights_all (List.mem_map.2 ⟨_, List.getElem_mem hi, rfl⟩) m hm))))
      refine ⟨p, c, by rw [hcl, hc], hK, hG, fun j u hu => ?_⟩
      have := hcg j u hu
      rw [add_add, hc] at this
      exact this
    refine ⟨List.ofFn fun i => Classical.choose (hall i), ⟨some a, cap, by simp, by simpa using hl, by simp, by simp only [maxLen] at hm; simp; omega, fun _ => ⟨a, rfl, fun j p hj => ?_⟩⟩, ?_, ?_⟩
    · obtain ⟨hjl, hjp⟩ := List.getElem?_eq_some_iff.1 hj
      simp only [List.length_ofFn] at hjl
      have h2 := Classical.choose_spec (hall ⟨j, hjl⟩)
      rw [List.getElem_ofFn] at hjp
      rw [hjp] at h2
      obtain ⟨c, h3, h4, _, h6⟩ := h2
      exact ⟨c, h3, h4, h6⟩
    · rw [List.length_ofFn]
      refine Nat.le_trans (Nat.mul_le_mul_right b ?_) hwt
      omega
    · intro p hp
      obtain ⟨i, rfl⟩ := (List.mem_ofFn).1 hp
      obtain ⟨_, _, _, h5, _⟩ := Classical.choose_spec (hall i)
      exact h5
/-- The fields of a struct from one on, one behind the other. -/
def OpensFields {α : Type} (P : Program) (fs : List Field) (off : Nat) (d : Kd α) (G : α → Prop) : Prop :=
  ∀ (H : Type) (enc : TypeId × Value → H) (W : World) (fuel : Nat) (cs : List Value) (xs : List (DataW H × List MemPlace)), off + d.sz = cs.length → xs.length = fs.length →
    (∀ (i : Nat) (f : Field), fs[i]? = some f → DataW.trod enc P W 0 (fun _ => true) true fuel f.type ((cs.drop f.offset).take (P.cellsOf f.type)) = xs[i]?) →
    (∀ n ∈ DataW.weightsEach P (fs.map (·.type)) (xs.map (·.1)), n ≤ reachBytes) → ∃ a, d.K W a (cs.drop off) ∧ G a
theorem opens_one {α : Type} {d : Kd α} {G : α → Prop} {f : Field} {off : Nat} (ho : f.offset = off) (hc : P.cellsOf f.type = d.sz) (he : Opens P f.type d G) : OpensFields P [f] off d G := by
  intro H enc W fuel cs xs hl hx hf hw
  match xs, hx with
  | [x], _ =>
    have h0 := hf 0 f rfl
    rw [ho, hc, List.take_of_length_le (by rw [List.length_drop]; omega)] at h0
    exact he H enc W fuel _ x h0 (fun n hn => hw n (by simpa [DataW.weightsEach] using hn))
theorem opens_more {α β : Type} {d : Kd α} {d2 : Kd β} {G : α → Prop} {G2 : β → Prop} {f : Field} {fs : List Field} {off : Nat} (ho : f.offset = off) (hc : P.cellsOf f.type = d.sz) (he : Opens P f.type d G) (hs : OpensFields P fs (off + d.sz) d2 G2) :
    OpensFields P (f :: fs) off (Kd.pair d d2) (fun p => G p.1 ∧ G2 p.2) := by
  intro H enc W fuel cs xs hl hx hf hw
  have hl' : off + (d.sz + d2.sz) = cs.length := hl
  match xs, hx with
  | x :: xs, hx =>
    have h0 := hf 0 f rfl
    rw [ho, hc] at h0
    obtain ⟨a, h1, h2⟩ := he H enc W fuel _ x h0 (fun n hn => hw n (by simp only [List.map_cons, DataW.weightsEach, List.mem_append]; exact .inl hn))
    obtain ⟨b, h3, h4⟩ := hs H enc W fuel cs xs (by omega) (by simpa using hx) (fun i g hg => by simpa using hf (i + 1) g (by simpa using hg)) (fun n hn => hw n (by simp only [List.map_cons, DataW.weightsEach, List.mem_append]; exact .inr hn))
    refine ⟨(a, b), ⟨_, _, ?_, h1, h3⟩, h2, h4⟩
    rw [← List.drop_drop, List.take_append_drop]
theorem opens_struct {α : Type} {d : Kd α} {G : α → Prop} {fs : Array Field} (ht : P.underlying t = some (.struct fs)) (hc : P.cellsOf t = d.sz) (hf : OpensFields P fs.toList 0 d G) : Opens P t d G := by
  intro H enc W fuel cs x h hw
  obtain ⟨xs, n, _, rfl, hl, hlen, hg⟩ := DataW.trod_struct ht h
  have := hf H enc W n cs xs (by omega) (by simpa using hlen) (fun i f hi => hg i f (by simpa using hi)) (fun m hm => hw m (by simpa [DataW.weights, ht] using hm))
  simpa using this
theorem opens_iso {α β : Type} {d : Kd α} {G : α → Prop} (f : β → α) (g : α → β) (hfg : ∀ a, f (g a) = a) (h : Opens P t d G) : Opens P t (Kd.iso d f) (fun b => G (f b)) := by
  intro H enc W fuel cs x hx hw
  obtain ⟨a, h1, h2⟩ := h H enc W fuel cs x hx hw
  exact ⟨g a, by show d.K W (f (g a)) cs; rw [hfg]; exact h1, by show G (f (g a)); rw [hfg]; exact h2⟩
/-- An array's elements, one behind the other. -/
theorem opens_array {α : Type} {d : Kd α} {G : α → Prop} {n : Nat} (ht : P.underlying t = some (.array n e)) (hc : P.cellsOf e = d.sz) (hct : P.cellsOf t = n * d.sz) (he : Opens P e d G)
    {H : Type} (enc : TypeId × Value → H) (W : World) (fuel : Nat) (cs : List Value) (x : DataW H × List MemPlace) (h : DataW.trod enc P W 0 (fun _ => true) true fuel t cs = some x) (hw : ∀ m ∈ x.1.weights P t, m ≤ reachBytes) :
    ∃ xs : List α, xs.length = n ∧ Reps (d.K W) d.sz xs cs ∧ ∀ a ∈ xs, G a := by
  obtain ⟨ys, m, _, rfl, hl, hlen, hg⟩ := DataW.trod_array ht h
  have hall : ∀ i : Fin n, ∃ p : α, d.K W p ((cs.drop (i.1 * d.sz)).take d.sz) ∧ G p := by
    intro i
    have hi : i.1 < ys.length := by have := i.2; omega
    have h1 := hg i.1 i.2
    rw [List.getElem?_eq_getElem hi, hc] at h1
    exact he H enc W m _ _ h1 (fun k hk => hw k (by
      simp only [DataW.weights, ht]
      exact weights_all (List.mem_map.2 ⟨_, List.getElem_mem hi, rfl⟩) k hk))
  refine ⟨List.ofFn fun i => Classical.choose (hall i), by simp, ⟨by rw [hl, hct, List.length_ofFn], fun j p hj => ?_⟩, fun p hp => ?_⟩
  · obtain ⟨hjl, hjp⟩ := List.getElem?_eq_some_iff.1 hj
    simp only [List.length_ofFn] at hjl
    have h2 := Classical.choose_spec (hall ⟨j, hjl⟩)
    rw [List.getElem_ofFn] at hjp
    rw [hjp] at h2
    exact h2.1
  · obtain ⟨i, rfl⟩ := (List.mem_ofFn).1 hp
    exact (Classical.choose_spec (hall i)).2
theorem okWide_array {W : World} {r : Reach} {b0 n : Nat} {v : Value} (ht : P.underlying t = some (.array n e)) (h : Value.okWide P W r b0 t v) : ∃ cs, v = .agg cs := by
  simp only [Value.okWide, ht] at h
  obtain ⟨cs, h1, _, _⟩ := h
  exact ⟨cs, h1⟩
theorem weights_each {H : Type} {P : Program} {ts : List TypeId} {ds : List (DataW H)} (h : (DataW.weightsEach P ts ds).all (· ≤ reachBytes) = true) {j : Nat} {t : TypeId} {d : DataW H} (ht : ts[j]? = some t) (hd : ds[j]? = some d) : ∀ n ∈ d.weights P t, n ≤ reachBytes := fun n hn => by
  simpa using List.all_eq_true.1 h _ (DataW.weights_mem_each ht hd n hn)
end
end Go.Proofs.YtlhnaplmphdhlaaDoor.Q
end
