/- Contracts of Go functions and plain facts, of several texts, one behind the other; no condition. -/
import Derived.Test.YtlhnaplmphdhlaaDoorMPathAgain4
import Derived.RangeFuncWrites
import Derived.RangeFuncBox
import Derived.Maps.OwnIn
import Derived.Test.YtlhnaplmphdhlaaDoorMPathAgain3
import Derived.Test.YtlhnaplmphdhlaaDoorMPathAgain2
import Derived.Test.YtlhnaplmphdhlaaDoorRows
import Derived.Lib.LaidTab
import Derived.LaidMore
import Derived.ProofKit
import Derived.OpenShut
import Derived.MakeChecks
import Derived.Stop.LaidErr
import Derived.ChangeArms
import Derived.SizedLaws
section
set_option linter.unusedSimpArgs false
set_option linter.unusedVariables false
namespace Go.Proofs.YtlhnaplmphdhlaaDoor.Q
open Go.RowKit Go.Proofs.YtlhnaplmphdhlaaDoorW.PrintWords Go.Proofs.YtlhnaplmphdhlaaDoorW.PrintLast
theorem parL_flag : ∀ (l : List Int) (n v : Int), parL 16 l n true ≠ some (v, false)
  | [], n, v, h => by rw [parL_nil] at h; cases h
  | c :: l, n, v, h => by
    rw [parL_cons] at h
    split at h
    · exact parL_flag l n v (by simpa using h)
    · cases h
theorem parL_ok : ∀ (l : List Int) (n v : Int), 0 ≤ n → parL 16 l n false = some (v, false) → (l ≠ [] → v < 4294967296) ∧ v < (n + 1) * 16 ^ l.length ∧ 0 ≤ v
  | [], n, v, h0, h => by
    rw [parL_nil] at h
    cases h
    exact ⟨fun h => absurd rfl h, by simp; omega, h0⟩
  | c :: l, n, v, h0, h => by
    have hr := val_range c 16
    rw [parL_cons] at h
    split at h
    · rename_i hv
      rw [if_neg (by decide)] at h
      have hlt : (valF c 16).1 < 16 := by
        unfold valF at hv ⊢
        split
        · rename_i hc; exact hc.2.2
        · decide
      by_cases hf : n * 16 + (valF c 16).1 > 4294967295
      · rw [decide_eq_true (by first | exact hf | omega)] at h
        exact absurd h (parL_flag l _ v)
      · rw [decide_eq_false (by first | exact hf | omega)] at h
        obtain ⟨k1, k2, k3⟩ := parL_ok l (n * 16 + (valF c 16).1) v (by omega) h
        have hp : (0 : Int) < 16 ^ l.length := Int.pow_pos (by decide)
        refine ⟨fun _ => ?_, ?_, k3⟩
        · cases l with
          | nil => rw [parL_nil] at h; cases h; omega
          | cons a l => exact k1 (by simp)
        · rw [List.length_cons, Int.pow_succ]
          have h4 : (n * 16 + (valF c 16).1 + 1) * 16 ^ l.length ≤ ((n + 1) * 16) * 16 ^ l.length := Int.mul_le_mul_of_nonneg_right (by omega) (Int.le_of_lt hp)
          have h5 : (n + 1) * (16 ^ l.length * 16) = ((n + 1) * 16) * 16 ^ l.length := by rw [Int.mul_comm (16 ^ l.length) 16, Int.mul_assoc]
          rw [h5]
          omega
    · cases h
theorem okU_val (p : List UInt8) (h : okU p = true) : (0 ≤ valU p ∧ valU p < 4294967296) ∧ (shL (valU p)).length ≤ p.length := by
  unfold okU at h
  simp only [Bool.and_eq_true, decide_eq_true_eq, Bool.not_eq_true', decide_eq_false_iff_not] at h
  obtain ⟨⟨h1, h2⟩, h3⟩ := h
  have hpos := parF_pos h1
  rw [bOf_size] at hpos
  have hb : bytesOf (bOf p) = p.map fun b => (b.toNat : Int) := rfl
  unfold parF at h1
  rw [if_pos (by decide), if_neg (fun hh => h2 hh.2), if_neg (by rw [bOf_size]; omega)] at h1
  have hv : valU p = (resF false (parL 16 (bytesOf (bOf p)) 0 false)).1 := by
    unfold valU parF
    rw [if_pos (by decide), if_neg (fun hh => h2 hh.2), if_neg (by rw [bOf_size]; omega)]
  cases hq : parL 16 (bytesOf (bOf p)) 0 false with
  | none => rw [hq] at h1; exact absurd h1 (by decide)
  | some q =>
    obtain ⟨v, g⟩ := q
    cases g with
    | true => rw [hq, resF_t] at h1; exact absurd h1 (by decide)
    | false =>
      rw [hq, resF_pos] at hv
      obtain ⟨k1, k2, k3⟩ := parL_ok _ 0 v (Int.le_refl _) hq
      have hl : (bytesOf (bOf p)).length = p.length := by rw [hb, List.length_map]
      rw [hl] at k2
      have hne : bytesOf (bOf p) ≠ [] := fun e => by rw [e] at hl; simp at hl; omega
      rw [hv]
      refine ⟨⟨k3, k1 hne⟩, ?_⟩
      obtain ⟨m, hm⟩ : ∃ m, p.length = m + 1 := ⟨p.length - 1, by omega⟩
      rw [hm] at k2 ⊢
      refine hex_len m v.toNat ?_
      have k4 : (v.toNat : Int) < ((16 ^ (m + 1) : Nat) : Int) := by
        rw [Int.toNat_of_nonneg k3]
        simpa using k2
      exact_mod_cast k4
theorem join_cuts (c : UInt8) : ∀ (n : Nat) (l : List UInt8), l.length < n → Lib.join (cuts c l) [c] = l
  | 0, _, h => absurd h (by omega)
  | n + 1, l, h => by
    have hle := nextB_le c l
    rw [cuts_next]
    by_cases hl : nextB c l < l.length
    · rw [if_pos hl]
      have ih := join_cuts c n (l.drop (nextB c l + 1)) (by rw [List.length_drop]; omega)
      have hne := cuts_ne c (l.drop (nextB c l + 1))
      obtain ⟨y, ys, hy⟩ : ∃ y ys, cuts c (l.drop (nextB c l + 1)) = y :: ys := by
        cases hc : cuts c (l.drop (nextB c l + 1)) with
        | nil => exact absurd hc hne
        | cons y ys => exact ⟨y, ys, rfl⟩
      rw [hy] at ih ⊢
      have hj : Lib.join (l.take (nextB c l) :: y :: ys) [c] = l.take (nextB c l) ++ c :: Lib.join (y :: ys) [c] := by
        rw [Lib.join_cons, Lib.join_cons]
        unfold Lib.joinTail
        rw [List.map_cons, List.flatten_cons]
        simp
      rw [hj, ih]
      have hat := nextB_at c l hl
      have hd : l.drop (nextB c l) = c :: l.drop (nextB c l + 1) := by
        rw [List.drop_eq_getElem_cons hl]
        rw [List.getElem?_eq_getElem hl, Option.some.injEq] at hat
        rw [hat]
      rw [← hd, List.take_append_drop]
    · rw [if_neg hl, Lib.join_one]
theorem join_le (sep : List UInt8) (f : List UInt8 → List UInt8) : ∀ (xs : List (List UInt8)), (∀ x ∈ xs, (f x).length ≤ x.length) → (Lib.join (xs.map f) sep).length ≤ (Lib.join xs sep).length
  | [], _ => Nat.le_refl _
  | x :: xs, h => by
    have ht : ∀ ys : List (List UInt8), (∀ y ∈ ys, (f y).length ≤ y.length) → (Lib.joinTail sep (ys.map f)).length ≤ (Lib.joinTail sep ys).length := by
      intro ys
      induction ys with
      | nil => intro _; exact Nat.le_refl _
      | cons y ys ih =>
        intro hy
        have h1 := hy y (by simp)
        have h2 := ih (fun z hz => hy z (by simp [hz]))
        unfold Lib.joinTail at h2 ⊢
        simp only [List.map_cons, List.flatten_cons, List.length_append] at h2 ⊢
        omega
    have h1 := h x (by simp)
    have h2 := ht xs (fun z hz => h z (by simp [hz]))
    rw [List.map_cons, Lib.join_cons, Lib.join_cons, List.length_append, List.length_append]
    omega
theorem unit_le (s : ByteArray) (h : (unitF s).2 = 0) : (unitsL (unitF s).1).length ≤ s.size ∧ U32L (unitF s).1 := by
  have hj := join_cuts 44 (s.data.toList.length + 1) s.data.toList (Nat.lt_succ_self _)
  unfold unitF at h ⊢
  by_cases ha : (cuts 44 s.data.toList).all okU = true
  · rw [if_pos ha] at h ⊢
    by_cases h4 : 4 < (cuts 44 s.data.toList).length
    · rw [if_pos h4] at h
      cases h
    · rw [if_neg h4]
      have ha2 := List.all_eq_true.1 ha
      dsimp only
      refine ⟨?_, fun v hv => ?_⟩
      · unfold unitsL
        rw [List.map_map, ← data_length]
        have := join_le [44] (shL ∘ valU) (cuts 44 s.data.toList) (fun x hx => (okU_val x (ha2 x hx)).2)
        rw [hj] at this
        exact this
      · obtain ⟨p, hp, rfl⟩ := List.mem_map.1 hv
        exact (okU_val p (ha2 p hp)).1
  · rw [if_neg ha] at h
    cases h
theorem cuts_no (c : UInt8) : ∀ (n : Nat) (l : List UInt8), l.length < n → ∀ p ∈ cuts c l, c ∉ p
  | 0, _, h => absurd h (by omega)
  | n + 1, l, h => by
    have hle := nextB_le c l
    have hnone := nextB_none c l
    rw [cuts_next]
    by_cases hl : nextB c l < l.length
    · rw [if_pos hl]
      intro p hp hm
      rcases List.mem_cons.1 hp with rfl | hp
      · obtain ⟨j, hj, he⟩ := List.getElem_of_mem hm
        rw [List.length_take] at hj
        refine hnone j (by omega) ?_
        rw [← he, List.getElem_take, List.getElem?_eq_getElem]
      · exact cuts_no c n (l.drop (nextB c l + 1)) (by rw [List.length_drop]; omega) p hp hm
    · rw [if_neg hl]
      intro p hp hm
      rw [List.mem_singleton.1 hp] at hm
      obtain ⟨j, hj, he⟩ := List.getElem_of_mem hm
      exact hnone j (by omega) (by rw [← he, List.getElem?_eq_getElem])
theorem step_le (p : List UInt8) (hn : (47 : UInt8) ∉ p) (h : okS p = true) : okP (stepV p) = true ∧ U32L (stepV p).f1 ∧ (stepB (stepV p)).length ≤ p.length + 1 := by
  obtain ⟨a1, a2, a3⟩ := head_next 58 (bOf p)
  rw [bOf_list] at a1
  rw [bOf_list, bOf_size] at a2 a3
  have hl1 := nextB_le 58 p
  obtain ⟨n, hnn⟩ : ∃ n, n = nextB 58 p := ⟨_, rfl⟩
  rw [← hnn] at a1 a2 a3 hl1
  rw [extract_bOf, bOf_list, List.drop_zero, Nat.sub_zero] at a1
  obtain ⟨b1, b2, b3⟩ := head_next 64 (bOf (p.take n))
  rw [bOf_list] at b1
  rw [bOf_list, bOf_size, List.length_take, Nat.min_eq_left hl1] at b2 b3
  have hl2 := nextB_le 64 (p.take n)
  rw [List.length_take, Nat.min_eq_left hl1] at hl2
  obtain ⟨m, hmm⟩ : ∃ m, m = nextB 64 (p.take n) := ⟨_, rfl⟩
  rw [← hmm] at b1 b2 b3 hl2
  have hnm : (headC 64 (bOf (p.take n))).size = m := by rw [b1, ByteArray.size_extract, bOf_size, List.length_take]; omega
  have har : (tailC 58 (bOf p)).size ≤ p.length - (n + 1) ∧ (47 : UInt8) ∉ (tailC 58 (bOf p)).data.toList ∧ (n = p.length → (tailC 58 (bOf p)).size = 0) := by
    rw [a3]
    split
    · rw [extract_bOf, bOf_list]
      refine ⟨by rw [bOf_size, List.length_take, List.length_drop]; omega, fun hm => ?_, fun e => by omega⟩
      exact hn (List.mem_of_mem_drop (List.mem_of_mem_take hm))
    · exact ⟨Nat.zero_le _, by simp, fun _ => rfl⟩
  have hun : (tailC 64 (bOf (p.take n))).size ≤ n - (m + 1) := by
    rw [b3]
    split
    · rw [ByteArray.size_extract, bOf_size, List.length_take]; omega
    · exact Nat.zero_le _
  have harg : decide (0 ≤ Lib.indexByte (tailC 58 (bOf p)).data.toList 47) = false := by
    refine decide_eq_false (fun h0 => ?_)
    obtain ⟨o, ho⟩ := Int.eq_ofNat_of_zero_le h0
    exact har.2.1 (List.mem_of_getElem? (Lib.indexByte_some ho).1)
  unfold okS stepF at h
  unfold stepV stepF
  rw [a1] at h ⊢
  by_cases hnd : namedF (headC 64 (bOf (p.take n))) = true
  · rw [if_pos hnd] at h ⊢
    by_cases hu : 0 ≤ ixC 64 (bOf (p.take n))
    · rw [if_pos hu] at h ⊢
      have hmn := b2.1 hu
      by_cases hz : (unitF (tailC 64 (bOf (p.take n)))).2 = 0
      · rw [if_pos hz]
        obtain ⟨u1, u2⟩ := unit_le _ hz
        have u4 := unitF_len4 (tailC 64 (bOf (p.take n)))
        refine ⟨?_, u2, ?_⟩
        · unfold okP
          dsimp only
          rw [hnd, decide_eq_true u4, harg]
          rfl
        · unfold stepB
          dsimp only
          rw [List.length_append, List.length_append, List.length_cons, data_length, hnm]
          have e1 : (if 0 < (unitF (tailC 64 (bOf (p.take n)))).1.length then 64 :: unitsL (unitF (tailC 64 (bOf (p.take n)))).1 else []).length ≤ n - m := by
            split
            · rw [List.length_cons]; omega
            · exact Nat.zero_le _
          have e2 : (if (tailC 58 (bOf p)).size = 0 then [] else 58 :: (tailC 58 (bOf p)).data.toList).length ≤ p.length - n := by
            split
            · exact Nat.zero_le _
            · rename_i hne
              rw [List.length_cons, data_length]
              have := har.2.2
              omega
          omega
      · rw [if_neg hz] at h
        cases h
    · rw [if_neg hu] at h ⊢
      refine ⟨?_, (show U32L [] from fun v hv => by cases hv), ?_⟩
      · unfold okP
        dsimp only
        rw [hnd, harg]
        rfl
      · unfold stepB
        dsimp only
        rw [List.length_append, List.length_append, List.length_cons, data_length, hnm]
        have e2 : (if (tailC 58 (bOf p)).size = 0 then [] else 58 :: (tailC 58 (bOf p)).data.toList).length ≤ p.length - n := by
          split
          · exact Nat.zero_le _
          · rename_i hne
            rw [List.length_cons, data_length]
            have := har.2.2
            omega
        simp only [List.length_nil, Nat.lt_irrefl, if_false]
        omega
  · rw [if_neg hnd] at h
    cases h
theorem paths_le (ps : List (List UInt8)) (h : ∀ p ∈ ps, (stepB (stepV p)).length ≤ p.length + 1) : (pathL (ps.map stepV)).length ≤ (Lib.joinTail [47] ps).length := by
  induction ps with
  | nil => simp [pathL]
  | cons p ps ih =>
    have h1 := h p (by simp)
    have h2 := ih (fun q hq => h q (by simp [hq]))
    unfold pathL Lib.joinTail at h2 ⊢
    simp only [List.map_cons, List.flatten_cons, List.length_append, List.singleton_append, List.length_cons] at h2 ⊢
    omega
/-- A path that is parsed is shown in no more bytes, and what is shown is parsed as the same. -/
theorem again_eq (s : ByteArray) (h : (parseF s).2 = 0) : showP (parseF s).1 = ((showP (parseF s).1).1, 0) ∧ (showP (parseF s).1).1.size ≤ s.size ∧ parseF (showP (parseF s).1).1 = ((parseF s).1, 0) ∧ (∀ x ∈ (parseF s).1, U32L x.f1) ∧ (pathL (parseF s).1).length ≤ 256 := by
  have hsz := bytes_len s
  unfold parseF at h
  by_cases hs : 256 < s.size
  · rw [if_pos hs] at h; cases h
  rw [if_neg hs] at h
  cases hd : s.data.toList with
  | nil => rw [hd] at h; cases h
  | cons a r =>
    rw [hd] at h hsz
    rw [List.length_cons] at hsz
    dsimp only at h
    by_cases ha : a = 47
    · rw [if_pos ha] at h
      by_cases hr : r = []
      · have e : parseF s = ([], 0) := by
          unfold parseF
          rw [if_neg hs, hd]
          dsimp only
          rw [if_pos ha, if_pos hr]
        rw [e]
        refine ⟨rfl, ?_, parse_root_eq, (show ∀ x ∈ ([] : List S81), U32L x.f1 from fun x hx => by cases hx), Nat.zero_le _⟩
        show (⟨#[47]⟩ : ByteArray).size ≤ s.size
        show 1 ≤ s.size
        omega
      · rw [if_neg hr] at h
        by_cases hall : (cuts 47 r).all okS = true
        · have e : parseF s = ((cuts 47 r).map stepV, 0) := by
            unfold parseF
            rw [if_neg hs, hd]
            dsimp only
            rw [if_pos ha, if_neg hr, if_pos hall]
          rw [e]
          have ho := List.all_eq_true.1 hall
          have hno : ∀ p ∈ cuts 47 r, (47 : UInt8) ∉ p := cuts_no 47 (r.length + 1) r (Nat.lt_succ_self _)
          have hst := fun p hp => step_le p (hno p hp) (ho p hp)
          have hj := join_cuts 47 (r.length + 1) r (Nat.lt_succ_self _)
          obtain ⟨y, ys, hy⟩ : ∃ y ys, cuts 47 r = y :: ys := by
            cases hc : cuts 47 r with
            | nil => exact absurd hc (cuts_ne 47 r)
            | cons y ys => exact ⟨y, ys, rfl⟩
          rw [hy] at hst hj ⊢
          have hle := paths_le (y :: ys) (fun p hp => (hst p hp).2.2)
          have hjt : (Lib.joinTail [47] (y :: ys)).length = r.length + 1 := by
            rw [← hj, Lib.join_cons]
            unfold Lib.joinTail
            rw [List.map_cons, List.flatten_cons]
            simp only [List.length_append, List.singleton_append, List.length_cons]
            omega
          have hok : ∀ x ∈ (y :: ys).map stepV, okP x = true := fun x hx => by
            obtain ⟨p, hp, rfl⟩ := List.mem_map.1 hx
            exact (hst p hp).1
          have huu : ∀ x ∈ (y :: ys).map stepV, U32L x.f1 := fun x hx => by
            obtain ⟨p, hp, rfl⟩ := List.mem_map.1 hx
            exact (hst p hp).2.1
          have hshow : showP ((y :: ys).map stepV) = (⟨(pathL ((y :: ys).map stepV)).toArray⟩, 0) := by
            unfold showP
            rw [if_neg (by simp), if_pos (List.all_eq_true.2 hok), if_neg (by omega)]
          have hsize : (⟨(pathL ((y :: ys).map stepV)).toArray⟩ : ByteArray).size = (pathL ((y :: ys).map stepV)).length := by simp [ByteArray.size]
          dsimp only
          rw [hshow]
          refine ⟨rfl, by rw [hsize]; omega, ?_, huu, by omega⟩
          rw [List.map_cons] at hok huu hle ⊢
          exact parse_back _ _ huu hok (by omega)
        · rw [if_neg hall] at h; cases h
    · rw [if_neg ha] at h; cases h
theorem parse_err (s : ByteArray) (h : (parseF s).2 ≠ 0) : (parseF s).1 = [] ∧ decide ((parseF s).2 = 3) = decide (256 < s.size) := by
  unfold parseF at h ⊢
  by_cases hs : 256 < s.size
  · rw [if_pos hs, decide_eq_true hs]
    exact ⟨rfl, rfl⟩
  · rw [if_neg hs] at h ⊢
    rw [decide_eq_false hs]
    split
    · exact ⟨rfl, rfl⟩
    · rename_i a r hd
      rw [hd] at h
      dsimp only at h
      split
      · rename_i ha
        rw [if_pos ha] at h
        split
        · rename_i hr
          rw [if_pos hr] at h
          exact absurd rfl h
        · rename_i hr
          rw [if_neg hr] at h
          split
          · rename_i hall
            rw [if_pos hall] at h
            exact absurd rfl h
          · exact ⟨rfl, rfl⟩
      · exact ⟨rfl, rfl⟩
end Go.Proofs.YtlhnaplmphdhlaaDoor.Q
end
section
set_option linter.unusedSimpArgs false
set_option linter.unusedVariables false
namespace Go.Proofs.YtlhnaplmphdhlaaDoor.Q
open Go.RowKit Go.Shelf Go.Proofs.YtlhnaplmphdhlaaDoorW.PrintWords Go.Proofs.YtlhnaplmphdhlaaDoorW.PrintLast
attribute [local go_sem] Oper.semAt_some
theorem info81i : (Tryd.prog.info? 81).map (fun i => (i.zero, i.size, i.bytes)) = some (some (.agg #[.string ⟨#[]⟩, .slice none 0 0, .string ⟨#[]⟩]), 3, 56) := by kernel_rfl
theorem holdsR_own {α β : Type} (d : Kd α) (e base B : Nat) (t : TypeId) (f : β → List α) (G : β → Prop) : Own (fun s W => ∃ v, Boxed W B t v ∧ d.R e W base (fun _ => True) v (f s) ∧ G s) := by
  rintro s X Y row ⟨v, hv, hr, hG⟩ hg hrow
  refine ⟨v, hv.kept hg (fun e' => ?_), Kd.R_mono (Kd.R_grown (Kd.R_bound hr) hg (fun k hk he => ?_)) (fun _ _ => trivial), hG⟩
  · obtain ⟨o, ho, hc⟩ := hrow B e'.symm
    rw [show X.heap[B]? = _ from hv] at ho; cases ho; cases hc
  · obtain ⟨o, ho, hc⟩ := hrow k he.symm
    obtain ⟨_, _, _, q, _, cells, hh⟩ := hk
    rw [hh] at ho; cases ho; cases hc
theorem someBoxed_own2 {β : Type} (B : Nat) (t : TypeId) : Own (fun (_ : β) W => ∃ v, Boxed W B t v) := fun s X Y row ⟨v, hv⟩ hg hrow => ⟨v, boxed_own (β := β) B t (fun _ => v) s X Y row hv hg hrow⟩
/-- What stands between two rounds. -/
def ParI (w : World) (L : List (List UInt8)) (k : Nat) (W : World) : Prop :=
  ((∃ v, Boxed W (w.heap.size + 1 + 1) 54 v ∧ Kd.R k81 81 W w.heap.size (fun _ => True) v ((L.map stepV).take k) ∧ ∀ p ∈ L.take k, okS p = true) ∧ (Boxed W w.heap.size 54 (.slice none 0 0) ∧ Boxed W (w.heap.size + 1) 26 (.int .i64 0))) ∧
    ((∃ t, Boxed W (w.heap.size + 1 + 1 + 1) 9 t) ∧ (∃ t, Boxed W (w.heap.size + 1 + 1 + 1 + 1) 9 t) ∧ (∃ t, Boxed W (w.heap.size + 1 + 1 + 1 + 1 + 1) 3 t)) ∧ Below w.heap.size w W
def ParX (w : World) (L : List (List UInt8)) (c : Code) (k : Nat) (W : World) : Prop := (c = .ret ∧ ¬ ∀ p ∈ L, okS p = true) ∧ Boxed W w.heap.size 54 (.slice none 0 0) ∧ Boxed W (w.heap.size + 1) 26 (.int .i64 15) ∧ Below w.heap.size w W
theorem parI_own (w : World) (L : List (List UInt8)) (B : Nat) (hB : w.heap.size ≤ B) : OwnFrom B (ParI w L) :=
  OwnFrom.and (OwnFrom.and (Own.from (holdsR_own k81 81 w.heap.size (w.heap.size + 1 + 1) 54 (fun k => (L.map stepV).take k) (fun k => ∀ p ∈ L.take k, okS p = true)) _) (OwnFrom.and (Own.from (boxed_own _ _ _) _) (Own.from (boxed_own _ _ _) _)))
    (OwnFrom.and (OwnFrom.and (Own.from (someBoxed_own2 _ _) _) (OwnFrom.and (Own.from (someBoxed_own2 _ _) _) (Own.from (someBoxed_own2 _ _) _))) (ownFrom_below (Nat.le_refl _) hB))
theorem parX_own (w : World) (L : List (List UInt8)) (c : Code) (B : Nat) (hB : w.heap.size ≤ B) : OwnFrom B (ParX w L c) :=
  OwnFrom.and (fun _ _ _ _ h _ _ => h) (OwnFrom.and (Own.from (boxed_own _ _ _) _) (OwnFrom.and (Own.from (boxed_own _ _ _) _) (ownFrom_below (Nat.le_refl _) hB)))
theorem parI_abs (w : World) (L : List (List UInt8)) (k : Nat) (A B : World) (h : ParI w L k A) (hab : AbS (w.heap.size + 1 + 1 + 1) A B) : ParI w L k B := by
  obtain ⟨u, rfl⟩ := hab
  obtain ⟨⟨⟨v, hv, hR, hok⟩, h1, h2⟩, ⟨⟨t3, h3⟩, ⟨t4, h4⟩, t5, h5⟩, hb⟩ := h
  refine ⟨⟨⟨v, hv.other (by omega) u, Kd.R_set hR h3 (by decide) 0 u, hok⟩, h1.other (by omega) u, h2.other (by omega) u⟩, ⟨⟨u, h3.set u⟩, ⟨t4, h4.other (by omega) u⟩, t5, h5.other (by omega) u⟩, below_set hb (by omega)⟩
theorem parX_abs (w : World) (L : List (List UInt8)) (c : Code) (k : Nat) (A B : World) (h : ParX w L c k A) (hab : AbS (w.heap.size + 1 + 1 + 1) A B) : ParX w L c k B := by
  obtain ⟨u, rfl⟩ := hab
  exact ⟨h.1, h.2.1.other (by omega) u, h.2.2.1.other (by omega) u, below_set h.2.2.2 (by omega)⟩
theorem par_out (w : World) (L : List (List UInt8)) (Kp : World → World → Prop) (k : Nat) (W0 W : World) (a : Act) (h0 : KeepsOthers W0 W) (h1 : Boxed W w.heap.size 54 (.slice none 0 0)) (h2 : Boxed W (w.heap.size + 1) 26 (.int .i64 0)) (hB : Below w.heap.size w W) (hX : ¬ ∀ p ∈ L, okS p = true) :
    RoundPost Kp (ParI w L) (ParX w L) k W0 .ret a ((W.setCell ⟨w.heap.size, 0, none⟩ (.slice none 0 0)).setCell ⟨w.heap.size + 1, 0, none⟩ (.int .i64 15)) :=
  ⟨(h0.trans (KeepsOthers.setCell _ _ _)).trans (KeepsOthers.setCell _ _ _), ⟨rfl, hX⟩, (h1.set _).other (by omega) _, ((h2.other (by omega) _).set _), below_set (below_set hB (Nat.le_refl _)) (by omega)⟩
set_option maxRecDepth 100000 in
theorem par_end (w X : World) (D : Nat) (hD : w.heap.size + 1 < D) (tmps : Array Value) (v : Value) (e0 : Int) (r : List S81) (ht2 : tmps.getD 2 undef = .pointer (some ⟨w.heap.size, 0, none⟩)) (ht3 : tmps.getD 3 undef = .pointer (some ⟨w.heap.size + 1, 0, none⟩))
    (hK : X.heap[D]? = some (.deferred (some []))) (g1 : Boxed X w.heap.size 54 v) (g2 : Boxed X (w.heap.size + 1) 26 (.int .i64 e0)) (hR : Kd.R k81 81 X w.heap.size (fun _ => True) v r) (hB : Below w.heap.size w X) :
    bodyPostM Fence.wide 5 Tryd.prog Tryd.f40 (fun e W' => ∃ v, e = .returned (.tuple #[v, .int .i64 e0]) ∧ Kd.R k81 81 W' w.heap.size (fun _ => True) v r ∧ Below w.heap.size w W') Exit.ret { tmps := tmps, defers := [{ target := .collected D, args := #[] }] } X := by
  refine ⟨by simp, .inl ⟨_, _, rfl, run_takeDeferred hK, ?_⟩⟩
  have k1 : Boxed (X.putObj D (.deferred none)) w.heap.size 54 v := (World.putObj_heap_other (by omega)).trans g1
  have k2 : Boxed (X.putObj D (.deferred none)) (w.heap.size + 1) 26 (.int .i64 e0) := (World.putObj_heap_other (by omega)).trans g2
  have c1 := k1.cell
  have c2 := k2.cell
  have hR2 : Kd.R k81 81 (X.putObj D (.deferred none)) w.heap.size (fun _ => True) v r := by
    refine Kd.R_mono (Kd.R_grown (Kd.R_bound hR) (grownBy_putObj' X D (.deferred none)) (fun k hk he => ?_)) (fun _ _ => trivial)
    injection he with he
    subst he
    obtain ⟨_, _, _, q, _, cells, hh⟩ := hk
    rw [hK] at hh
    cases hh
  refine ⟨_, ?_, v, rfl, hR2, hB.trans (belowK_b (w := w) (Nat.le_refl _) X D _ _ (by omega) hK rfl rfl)⟩
  obtain ⟨A, c, hv⟩ := Kd.R_slice hR2
  subst hv
  rw [Array.getD_eq_getD_getElem?] at ht2 ht3
  simp [results, Tryd.results40, go_sem, ht2, ht3, c1, c2]
end Go.Proofs.YtlhnaplmphdhlaaDoor.Q
end
section
set_option linter.unusedSimpArgs false
set_option linter.unusedVariables false
namespace Go.Proofs.YtlhnaplmphdhlaaDoor.Q
open Go.RowKit Go.Shelf Go.Proofs.YtlhnaplmphdhlaaDoorW.PrintWords Go.Proofs.YtlhnaplmphdhlaaDoorW.PrintLast
attribute [local go_sem] Oper.semAt_some
theorem par_ret (w X : World) (tmps : Array Value) (v : Value) (e0 : Int) (r : List S81) (ht2 : tmps.getD 2 undef = .pointer (some ⟨w.heap.size, 0, none⟩)) (ht3 : tmps.getD 3 undef = .pointer (some ⟨w.heap.size + 1, 0, none⟩))
    (g1 : Boxed X w.heap.size 54 v) (g2 : Boxed X (w.heap.size + 1) 26 (.int .i64 e0)) (hR : Kd.R k81 81 X w.heap.size (fun _ => True) v r) (hB : Below w.heap.size w X) :
    bodyPost Tryd.prog Tryd.f40 (fun e W' => ∃ v, e = .returned (.tuple #[v, .int .i64 e0]) ∧ Kd.R k81 81 W' w.heap.size (fun _ => True) v r ∧ Below w.heap.size w W') Exit.ret { tmps := tmps, defers := [] } X := by
  have c1 := g1.cell
  have c2 := g2.cell
  obtain ⟨A, c, hv⟩ := Kd.R_slice hR
  rw [Array.getD_eq_getD_getElem?] at ht2 ht3
  refine bodyPost_ret (v := .tuple #[v, .int .i64 e0]) ?_ rfl ⟨v, rfl, hR, hB⟩
  subst hv
  simp [results, Tryd.results40, go_sem, ht2, ht3, c1, c2]
theorem news3 (Y : World) (u0 u1 u2 : Value) : ∀ (j : Nat) (u : Value), [u0, u1, u2][j]? = some u → (Y.alloc (.cells #[u0, u1, u2] 81)).cell? ((⟨Y.heap.size, 0, none⟩ : Addr).add j) = some u := by
  intro j u h
  have hh : (Y.alloc (.cells #[u0, u1, u2] 81)).heap[Y.heap.size]? = some (.cells #[u0, u1, u2] 81 (0, 0)) := heap_alloc_new Y _
  match j, h with
  | 0, h => exact (blk_cell hh 0).trans h
  | 1, h => exact (blk_cell hh 1).trans h
  | 2, h => exact (blk_cell hh 2).trans h
theorem one3 (a b : ByteArray) (A : Option Addr) (n c : Nat) : ∀ u ∈ [Value.string a, .slice A n c, .string b], u.oneCell' = true := by
  intro u hu
  simp at hu
  rcases hu with rfl | rfl | rfl <;> rfl
theorem app81 (l' : Nat) {ops : Array Oper} {rest : List Oper} {o : Oper} {a : Act} {Q : Exit → Act → World → Prop} (Y : World) (base : Nat) (v : Value) (xs : List S81) (x : S81) (A1 : Option Addr) (c1 : Nat)
    (hgd : o.guard = none) (ho : o.op = .call { callee := .builtin .append, args := #[.tmp 34, .tmp 36], argTypes := #[54, 54] })
    (hs : a.eval (.tmp 34) = v) (hx : a.eval (.tmp 36) = .slice (some ⟨Y.heap.size, 0, none⟩) 1 1) (hb : base ≤ Y.heap.size) (hl : xs.length ≤ 300)
    (hR : Kd.R k81 81 Y base (fun _ => True) v xs) (hN : Kd.R (Kd.int .u32) 24 Y base (fun k => True ∧ some k ≠ v.ownBlock) (.slice A1 x.f1.length c1) x.f1)
    (h : ∀ g' cap' w1, Kd.R k81 81 w1 base (fun _ => True) (.slice (some ⟨g', 0, none⟩) (xs.length + 1) cap') (xs ++ [x]) → Y.grownBy w1 v.ownBlock → (∀ k, v.ownBlock = some k → base ≤ k) → (∀ k, v.ownBlock = some k → ∃ cells, Y.heap[k]? = some (.cells cells 81 (0, 0))) →
      wpListIn (Fence.wide.inRound l') 3 Tryd.prog ops Q rest (a.put o.dst (.slice (some ⟨g', 0, none⟩) (xs.length + 1) cap')) w1) :
    wpListIn (Fence.wide.inRound l') 3 Tryd.prog ops Q (o :: rest) a (Y.alloc (.cells #[.string x.f0, .slice A1 x.f1.length c1, .string x.f2] 81)) := by
  obtain ⟨i0, hi, hz0, hz1, hz2⟩ := info_parts info81i
  have hMY := k81_mkM Y base (fun k => True ∧ some k ≠ v.ownBlock) x hN
  obtain ⟨r0, inner, hown, hreps⟩ := hR
  refine wpListIn_append_own_at _ hgd (.tmp 34) (.tmp 36) 54 ho base 81 i0 _ 3 56 Tryd.underlying54 hi hz0 hz1 hz2 rfl (by decide) v xs.length inner hs (hown.alloc _) ⟨Y.heap.size, 0, none⟩ 1 1 [.string x.f0, .slice A1 x.f1.length c1, .string x.f2] hx rfl (news3 _ _ _ _) (one3 _ _ _ _ _) (by unfold maxLen; omega) (by omega) (Nat.le_trans hb (Nat.le_of_lt (by rw [World.size_alloc]; exact Nat.lt_succ_self _))) ?_
  intro v' w1 hown' hg _ hat
  have hgY : Y.grownBy w1 v.ownBlock := World.grownBy.trans (World.grownBy_alloc Y _ _) hg
  have hRf : Kd.R k81 81 w1 base (fun _ => True) v' (xs ++ [x]) := Kd.R_appended r0 hreps hMY (fun _ h => h) (fun _ _ => trivial) hown' hgY (hat.imp id (fun h => ⟨_, h, by simp⟩))
  obtain ⟨g', cap', rfl⟩ := ownsRow_succ hown'
  exact h g' cap' w1 hRf hgY (own_base hown) (fun k hk => own_typed hown k hk)
theorem early_box (w : World) (v : Value) (e0 : Int) : Boxed ((w.alloc (.cells #[v] 54)).alloc (.cells #[.int .i64 e0] 26)) w.heap.size 54 v ∧ Boxed ((w.alloc (.cells #[v] 54)).alloc (.cells #[.int .i64 e0] 26)) (w.heap.size + 1) 26 (.int .i64 e0) := by
  refine ⟨(Boxed.new w 54 v).alloc _, ?_⟩
  have h := Boxed.new (w.alloc (.cells #[v] 54)) 26 (.int .i64 e0)
  rw [World.size_alloc] at h
  exact h
theorem early_below (w : World) (u v : Value) : Below w.heap.size w ((w.alloc (.cells #[u] 54)).alloc (.cells #[v] 26)) := below_alloc (below_alloc (Below.refl _ _) _) _
set_option maxRecDepth 100000 in
set_option maxHeartbeats 4000000 in
theorem parse_long (s : ByteArray) (w : World) (hs : 256 < s.size) :
    Calls Tryd.prog 40 #[.string s] w fun e W' => ∃ v, e = .returned (.tuple #[v, .int .i64 3]) ∧ Kd.R k81 81 W' w.heap.size (fun _ => True) v [] ∧ Below w.heap.size w W' := by
  have d1 : decide ((256 : Int) < (s.size : Int)) = true := decide_eq_true (by omega)
  clear hs
  go_enter Tryd.func40, Tryd.ntmps40
  go_wp2
  exact par_ret w _ _ (.slice none 0 0) 3 [] rfl rfl (early_box _ _ _).1 (early_box _ _ _).2 (Kd.R_nil _ _ _ _ _) (early_below _ _ _)
set_option maxRecDepth 100000 in
set_option maxHeartbeats 4000000 in
theorem parse_bad (s q : ByteArray) (w : World) (hs : s.size ≤ 256) (hc : ∀ W : World, Calls Tryd.prog 59 #[.string s, .string ⟨#[47]⟩] W (fun e w' => e = .returned (.tuple #[.string q, .bool false]) ∧ w' = W)) :
    Calls Tryd.prog 40 #[.string s] w fun e W' => ∃ v, e = .returned (.tuple #[v, .int .i64 15]) ∧ Kd.R k81 81 W' w.heap.size (fun _ => True) v [] ∧ Below w.heap.size w W' := by
  have d1 : decide ((256 : Int) < (s.size : Int)) = false := decide_eq_false (by omega)
  have HC := Aside0.mk hc
  clear hs hc
  go_enter Tryd.func40, Tryd.ntmps40
  go_wp2_with (go_at_call 59; (with_reducible refine (HC.out _).mono ?_); rintro e w7 ⟨rfl, rfl⟩)
  exact par_ret w _ _ (.slice none 0 0) 15 [] rfl rfl (early_box _ _ _).1 (early_box _ _ _).2 (Kd.R_nil _ _ _ _ _) (early_below _ _ _)
set_option maxRecDepth 100000 in
set_option maxHeartbeats 4000000 in
theorem parse_root (s : ByteArray) (w : World) (hs : s.size ≤ 256) (hc : ∀ W : World, Calls Tryd.prog 59 #[.string s, .string ⟨#[47]⟩] W (fun e w' => e = .returned (.tuple #[.string ⟨#[]⟩, .bool true]) ∧ w' = W)) :
    Calls Tryd.prog 40 #[.string s] w fun e W' => ∃ v, e = .returned (.tuple #[v, .int .i64 0]) ∧ Kd.R k81 81 W' w.heap.size (fun _ => True) v [] ∧ Below w.heap.size w W' := by
  have d1 : decide ((256 : Int) < (s.size : Int)) = false := decide_eq_false (by omega)
  have HC := Aside0.mk hc
  clear hs hc
  go_enter Tryd.func40, Tryd.ntmps40
  go_wp2_with (go_at_call 59; (with_reducible refine (HC.out _).mono ?_); rintro e w7 ⟨rfl, rfl⟩)
  exact par_ret w _ _ (.slice none 0 0) 0 [] rfl rfl (early_box _ _ _).1 (early_box _ _ _).2 (Kd.R_nil _ _ _ _ _) (early_below _ _ _)
set_option maxRecDepth 100000 in
set_option maxHeartbeats 4000000 in
theorem parse_steps (s q : ByteArray) (w : World) (hs : s.size ≤ 256) (hq : 0 < q.size) (hqs : q.size ≤ 256) (hc : ∀ W : World, Calls Tryd.prog 59 #[.string s, .string ⟨#[47]⟩] W (fun e w' => e = .returned (.tuple #[.string q, .bool true]) ∧ w' = W))
    (L : List (List UInt8)) (hL : L = cuts 47 q.data.toList) (R : List S81 × Int) (hR : R = if L.all okS = true then (L.map stepV, 0) else ([], 15)) :
    Calls Tryd.prog 40 #[.string s] w fun e W' => ∃ v, e = .returned (.tuple #[v, .int .i64 R.2]) ∧ Kd.R k81 81 W' w.heap.size (fun _ => True) v R.1 ∧ Below w.heap.size w W' := by
  refine (callsIn_wide (n := 5)).1 ?_
  obtain ⟨i0, hi, hz0, hz1, hz2⟩ := info_parts info81i
  have d1 : decide ((256 : Int) < (s.size : Int)) = false := decide_eq_false (by omega)
  have d2 : (q.toList == ([] : List UInt8)) = false := by
    apply beq_eq_false_iff_ne.2
    intro h
    have := (empty_iff q).1 h
    omega
  have HC := Aside0.mk hc
  have HLl := Aside0.mk (show L.length ≤ 300 by
    have := cuts_len 47 q.data.toList
    rw [hL]
    have e : q.data.toList.length = q.size := Array.length_toList
    omega)
  have HLs := Aside0.mk (show ∀ p ∈ L, p.length ≤ 256 by
    intro p hp
    have := cuts_size 47 q.data.toList p (hL ▸ hp)
    have e : q.data.toList.length = q.size := Array.length_toList
    omega)
  have HSq := Aside0.mk (show ∀ W0 : World, W0.heap[w.heap.size + 1 + 1 + 1]? = some (.cells #[.string q] 9 (0, 0)) → W0.heap[w.heap.size + 1 + 1 + 1 + 1]? = some (.cells #[.string ⟨#[47]⟩] 9 (0, 0)) → W0.heap[w.heap.size + 1 + 1 + 1 + 1 + 1]? = some (.cells #[.int .i64 0] 3 (0, 0)) →
      SeqL 4 Tryd.prog 92 #[.pointer (some ⟨w.heap.size + 1 + 1 + 1 + 1, 0, none⟩), .pointer (some ⟨w.heap.size + 1 + 1 + 1, 0, none⟩), .pointer (some ⟨w.heap.size + 1 + 1 + 1 + 1 + 1, 0, none⟩)] (AbS (w.heap.size + 1 + 1 + 1)) (KpS (w.heap.size + 1 + 1 + 1) (w.heap.size + 1 + 1 + 1 + 1) (w.heap.size + 1 + 1 + 1 + 1 + 1)) (L.map pieceV) W0 from fun W0 h1 h2 h3 => by
    rw [hL]
    exact split_seq 47 4 (by decide) _ _ _ (by omega) (by omega) q (by omega) W0 h1 h2 h3)
  have HR := Aside0.mk hR
  clear hR hL hs hqs hc hq
  refine callsIn_of_wp_marks Tryd.func40 rfl trivial ?_ rfl
  simp only [Tryd.ntmps40, List.size_toArray, List.length_cons, List.length_nil, Nat.reduceAdd, Nat.reduceSub, Array.replicate_succ, Array.replicate_zero, List.push_toArray, List.append_toArray, List.nil_append, List.cons_append]
  gi_wp2_with (first
    | (refine ⟨trivial, ?_⟩; gi_at_call 59; refine (callsIn_wide.2 (HC.out _)).mono ?_; rintro e w' ⟨rfl, rfl⟩)
    | (refine ⟨trivial, ?_⟩; gi_at_call 53; refine (splitSeq_in _ _ _).mono ?_; rintro e w' ⟨rfl, rfl⟩))
  obtain ⟨W0, hW0⟩ : ∃ W0, W0 = (((((w.alloc (.cells #[.slice none 0 0] 54)).alloc (.cells #[.int .i64 0] 26)).alloc (.cells #[.slice none 0 0] 54)).alloc (.cells #[.string q] 9)).alloc (.cells #[.string ⟨#[47]⟩] 9)).alloc (.cells #[.int .i64 0] 3) := ⟨_, rfl⟩
  have b0 : Boxed W0 w.heap.size 54 (.slice none 0 0) := by rw [hW0]; exact (((((Boxed.new w 54 (.slice none 0 0)).alloc _).alloc _).alloc _).alloc _).alloc _
  have b1 : Boxed W0 (w.heap.size + 1) 26 (.int .i64 0) := by
    rw [hW0]
    have h := Boxed.new (w.alloc (.cells #[.slice none 0 0] 54)) 26 (.int .i64 0)
    rw [World.size_alloc] at h
    exact (((h.alloc _).alloc _).alloc _).alloc _
  have b2 : Boxed W0 (w.heap.size + 1 + 1) 54 (.slice none 0 0) := by
    rw [hW0]
    have h := Boxed.new ((w.alloc (.cells #[.slice none 0 0] 54)).alloc (.cells #[.int .i64 0] 26)) 54 (.slice none 0 0)
    rw [World.size_alloc, World.size_alloc] at h
    exact ((h.alloc _).alloc _).alloc _
  have b3 : Boxed W0 (w.heap.size + 1 + 1 + 1) 9 (.string q) := by
    rw [hW0]
    have h := Boxed.new (((w.alloc (.cells #[.slice none 0 0] 54)).alloc (.cells #[.int .i64 0] 26)).alloc (.cells #[.slice none 0 0] 54)) 9 (.string q)
    rw [World.size_alloc, World.size_alloc, World.size_alloc] at h
    exact (h.alloc _).alloc _
  have b4 : Boxed W0 (w.heap.size + 1 + 1 + 1 + 1) 9 (.string ⟨#[47]⟩) := by
    rw [hW0]
    have h := Boxed.new ((((w.alloc (.cells #[.slice none 0 0] 54)).alloc (.cells #[.int .i64 0] 26)).alloc (.cells #[.slice none 0 0] 54)).alloc (.cells #[.string q] 9)) 9 (.string ⟨#[47]⟩)
    rw [World.size_alloc, World.size_alloc, World.size_alloc, World.size_alloc] at h
    exact h.alloc _
  have b5 : Boxed W0 (w.heap.size + 1 + 1 + 1 + 1 + 1) 3 (.int .i64 0) := by
    rw [hW0]
    have h := Boxed.new (((((w.alloc (.cells #[.slice none 0 0] 54)).alloc (.cells #[.int .i64 0] 26)).alloc (.cells #[.slice none 0 0] 54)).alloc (.cells #[.string q] 9)).alloc (.cells #[.string ⟨#[47]⟩] 9)) 3 (.int .i64 0)
    rw [World.size_alloc, World.size_alloc, World.size_alloc, World.size_alloc, World.size_alloc] at h
    exact h
  have hB0 : Below w.heap.size w W0 := by rw [hW0]; exact below_alloc (below_alloc (below_alloc (below_alloc (below_alloc (below_alloc (Below.refl _ _) _) _) _) _) _) _
  have hs0 : W0.heap.size = w.heap.size + 6 := by rw [hW0]; simp
  rw [← hW0]
  clear hW0
  refine wp_rangeL (by omega) (gf := 92) (lb := #[.pointer (some ⟨w.heap.size + 1 + 1 + 1 + 1, 0, none⟩), .pointer (some ⟨w.heap.size + 1 + 1 + 1, 0, none⟩), .pointer (some ⟨w.heap.size + 1 + 1 + 1 + 1 + 1, 0, none⟩)]) rfl (enters_of Tryd.func92 (by kernel_rfl) rfl)
    (HSq.out W0 b3 b4 b5) ?hAb (fun h k => h.trans k) (fun W i o o' hi ho _ _ => ⟨by simp, fun j hj hlt => World.putObj_heap_other (by rcases hj with rfl | rfl | rfl <;> omega)⟩) ?hps
    (ParI w L) (ParX w L) (parI_own w L _ (by omega)) (fun c => parX_own w L c _ (by omega)) (parI_abs w L) (parX_abs w L)
    ⟨⟨⟨_, b2, Kd.R_nil _ _ _ _ _, by simp⟩, b0, b1⟩, ⟨⟨_, b3⟩, ⟨_, b4⟩, _, b5⟩, hB0⟩
    (fun k => { tmps := #[.string s, undef, .pointer (some ⟨w.heap.size, 0, none⟩), .pointer (some ⟨w.heap.size + 1, 0, none⟩), .string q, .bool true, .pointer (some ⟨w.heap.size + 1 + 1, 0, none⟩), .string (pcAt L k), undef, undef, .string s, .int .i64 s.size, .bool false, .tuple #[.string q, .bool true], .string s, .tuple #[.string q, .bool true], .string q, .bool true, .bool false, .bool true, .bool false, .bool false, .string q, .bool false, .string q, .func (.func 92) #[] #[.pointer (some ⟨w.heap.size + 1 + 1 + 1 + 1, 0, none⟩), .pointer (some ⟨w.heap.size + 1 + 1 + 1, 0, none⟩), .pointer (some ⟨w.heap.size + 1 + 1 + 1 + 1 + 1, 0, none⟩)], .string (pcAt L k), undef, undef, undef, undef, undef, undef, undef, undef, undef, undef, undef, undef], defers := [] }) ?assign ?body ?done ?stop
  case hAb =>
    rintro A B i o ⟨u, rfl⟩ ho hoc
    obtain ⟨b, hb⟩ : ∃ b : World, b = A.setCell ⟨w.heap.size + 1 + 1 + 1, 0, none⟩ u := ⟨_, rfl⟩
    rw [← hb]
    have := (KeepsOthers.setCell A ⟨w.heap.size + 1 + 1 + 1, 0, none⟩ u).same i o ho hoc
    rw [← hb] at this
    exact this
  case hps =>
    intro x hx
    obtain ⟨p, _, rfl⟩ := List.mem_map.1 hx
    rfl
  case assign =>
    intro l' k hk W K hK
    have hk' : k < L.length := by simpa using hk
    have e : (L.map pieceV)[k] = #[.string (pcAt L k)] := by
      rw [List.getElem_map, pcAt, List.getD_eq_getElem?_getD, List.getElem?_eq_getElem hk']
      rfl
    rw [e]
    gi_wp2
    exact hK
  case body =>
    rintro l' k W hk0 ⟨⟨⟨v, hv, hRv, hok⟩, h1, h2⟩, ⟨⟨t3, h3⟩, ⟨t4, h4⟩, t5, h5⟩, hB⟩
    have hk : k < L.length := by simpa using hk0
    obtain ⟨q0, hq0⟩ : ∃ q0, q0 = pcAt L k := ⟨_, rfl⟩
    rw [← hq0]
    have hqL : L[k] = L.getD k [] := by rw [List.getD_eq_getElem?_getD, List.getElem?_eq_getElem hk]; rfl
    have hqe : bOf L[k] = q0 := by rw [hq0, pcAt, hqL]
    have hqs : q0.size ≤ 256 := by
      rw [hq0, pcAt, bOf_size, ← hqL]
      exact HLs.out _ (List.getElem_mem hk)
    obtain ⟨x, hx⟩ : ∃ x, x = (stepF q0).1 := ⟨_, rfl⟩
    obtain ⟨ok, hok0⟩ : ∃ ok, ok = (stepF q0).2 := ⟨_, rfl⟩
    have HP := Aside0.mk (show ∀ X : World, Calls Tryd.prog 60 #[.string q0] X (fun e w' => ∃ v1_ : Value, e = .returned (.tuple #[.agg #[.string x.f0, v1_, .string x.f2], .bool ok]) ∧ Kd.R (Kd.int .u32) 24 w' X.heap.size (fun _ => True) v1_ x.f1 ∧ Below X.heap.size X w') from fun X =>
      path_step.calls 100 q0 x.f0 x.f1 x.f2 ok X (by rw [step_eq 100 (by omega) q0 (by omega), hx, hok0]))
    have hvx : stepV L[k] = x := by unfold stepV; rw [hqe, hx]
    have hokx : okS L[k] = ok := by unfold okS; rw [hqe, hok0]
    cases ok with
    | false =>
      have HX := Aside0.mk (show ¬ ∀ p ∈ L, okS p = true from fun h => by have := h _ (List.getElem_mem hk); rw [hokx] at this; cases this)
      clear hx hok0 hvx hokx hqe hqL hqs hq0 hk hs0 hok
      gi_wp2_with (first
        | (refine ⟨trivial, ?_⟩; gi_at_call 60; refine (CallsIn.inRound l' (callsIn_wide.2 (HP.out _))).mono ?_; rintro e w' ⟨v1, rfl, hR1, hb1⟩; obtain ⟨A1, c1, rfl⟩ := Kd.R_slice hR1; have hK1 : KeepsOthers W w' := KeepsOthers.of_grownBy (grown_of_below hb1 none) (fun _ _ h => by cases h); have hB1 := below_step hB hb1; have hbk : ∀ {B : Nat} {t : TypeId} {u : Value}, Boxed W B t u → Boxed w' B t u := (fun {B t u} h => blk_below (show W.heap[B]? = some (.cells #[u] t (0, 0)) from h) hb1); have g1 := hbk h1; have g2 := hbk h2; have hc1 := (g1.alloc (.cells #[.string x.f0, .slice A1 x.f1.length c1, .string x.f2] 81)).cell; have hf1 := (g1.alloc (.cells #[.string x.f0, .slice A1 x.f1.length c1, .string x.f2] 81)).frozen; have hc2 := (g2.alloc (.cells #[.string x.f0, .slice A1 x.f1.length c1, .string x.f2] 81)).cell; have hf2 := (g2.alloc (.cells #[.string x.f0, .slice A1 x.f1.length c1, .string x.f2] 81)).frozen))
      exact par_out w L _ _ W _ _ (hK1.trans (KeepsOthers.alloc _ _)) (g1.alloc _) (g2.alloc _) (below_alloc hB1 _) HX.out
    | true =>
      have HTk := Aside0.mk (show (L.map stepV).take (k + 1) = (L.map stepV).take k ++ [x] by
        rw [List.take_succ_eq_append_getElem (by rw [List.length_map]; exact hk), List.getElem_map, hvx])
      have HOk := Aside0.mk (show ∀ p ∈ L.take (k + 1), okS p = true by
        intro p hp
        rw [List.take_succ_eq_append_getElem hk] at hp
        rcases List.mem_append.1 hp with hp | hp
        · exact hok p hp
        · rw [List.mem_singleton.1 hp]; exact hokx)
      have HK := Aside0.mk (show ((L.map stepV).take k).length ≤ 300 by have := HLl.out; rw [List.length_take, List.length_map]; omega)
      clear hx hok0 hvx hokx hqe hqL hqs hq0 hk hs0 hok
      generalize (L.map stepV).take k = xs at hRv HTk HK
      obtain ⟨A0, c0, hv0⟩ := Kd.R_slice hRv
      have HV := Aside0.mk hv0
      clear hv0
      gi_wp2_with (first
        | (refine ⟨trivial, ?_⟩; gi_at_call 60; refine (CallsIn.inRound l' (callsIn_wide.2 (HP.out _))).mono ?_; rintro e w' ⟨v1, rfl, hR1, hb1⟩; obtain ⟨A1, c1, hv1⟩ := Kd.R_slice hR1; subst hv1; have hK1 : KeepsOthers W w' := KeepsOthers.of_grownBy (grown_of_below hb1 none) (fun _ _ h => by cases h); have hB1 := below_step hB hb1; have HRn := Aside0.mk (Kd.R_lower (Kd.R_new' hR1 (Kd.R_lt hRv)) hB.size); have HRo := Aside0.mk (Kd.R_below hRv hb1); have hbk : ∀ {B : Nat} {t : TypeId} {u : Value}, Boxed W B t u → Boxed w' B t u := (fun {B t u} h => blk_below (show W.heap[B]? = some (.cells #[u] t (0, 0)) from h) hb1); have g1 := hbk h1; have g2 := hbk h2; have hc1 := (g1.alloc (.cells #[.string x.f0, .slice A1 x.f1.length c1, .string x.f2] 81)).cell; have hf1 := (g1.alloc (.cells #[.string x.f0, .slice A1 x.f1.length c1, .string x.f2] 81)).frozen; have hc2 := (g2.alloc (.cells #[.string x.f0, .slice A1 x.f1.length c1, .string x.f2] 81)).cell; have hf2 := (g2.alloc (.cells #[.string x.f0, .slice A1 x.f1.length c1, .string x.f2] 81)).frozen; have g3 := hbk hv; have hc3 := (g3.alloc (.cells #[.string x.f0, .slice A1 x.f1.length c1, .string x.f2] 81)).cell; have hf3 := (g3.alloc (.cells #[.string x.f0, .slice A1 x.f1.length c1, .string x.f2] 81)).frozen; have hv0 := HV.out; subst hv0)
        | (gi_at_builtin; obtain ⟨Y, hY⟩ : ∃ Y, Y = w'.alloc (.cells #[.string x.f0, .slice A1 x.f1.length c1, .string x.f2] 81) := ⟨_, rfl⟩; rw [← hY]; have hRY : Kd.R k81 81 Y w.heap.size (fun _ => True) (.slice A0 xs.length c0) xs := (by rw [hY]; exact Kd.R_alloc HRo.out _); have hNY : Kd.R (Kd.int .u32) 24 Y w.heap.size (fun k => True ∧ some k ≠ (Value.slice A0 xs.length c0).ownBlock) (.slice A1 x.f1.length c1) x.f1 := (by rw [hY]; exact Kd.R_alloc HRn.out _); have boxY : ∀ {B : Nat} {t : TypeId} {u : Value}, Boxed W B t u → Boxed Y B t u := (fun {B t u} h => by rw [hY]; exact (hbk h).alloc _); have hBY : Below w.heap.size w Y := (by rw [hY]; exact below_alloc hB1 _); have hKY : KeepsOthers W Y := (by rw [hY]; exact hK1.trans (KeepsOthers.alloc _ _)); have hYsz : Y.heap.size = w'.heap.size + 1 := (by rw [hY, World.size_alloc]); clear hY; refine app81 l' Y w.heap.size (.slice A0 xs.length c0) xs x A1 c1 rfl rfl rfl (by rw [hYsz]; rfl) hBY.size HK.out hRY hNY ?_; intro g' cap' w1 hRf hgY hbs hty; have box1 : ∀ {B : Nat} {t : TypeId} {u : Value}, Boxed W B t u → t ≠ 81 → Boxed w1 B t u := (fun {B t u} h ht => (boxY h).kept hgY (fun e => by obtain ⟨cc, hcc⟩ := hty B e.symm; rw [show Y.heap[B]? = _ from boxY h] at hcc; injection hcc with hcc; injection hcc with _ hcc _; exact ht hcc)); have hv1 := box1 hv (by decide); have hc4 := hv1.cell; have hf4 := hv1.frozen; have hK1f : KeepsOthers W w1 := hKY.trans (KeepsOthers.of_grownBy hgY (fun j o hj hjo => by obtain ⟨cc, hcc⟩ := hty j hj; rw [hcc] at hjo; cases hjo; rfl)); have hB1f : Below w.heap.size w w1 := Below.grown hBY hgY hBY.size hbs))
      have hkk := hK1f.trans (KeepsOthers.setCell w1 ⟨w.heap.size + 1 + 1, 0, none⟩ (.slice (some ⟨g', 0, none⟩) (xs.length + 1) cap'))
      have f3 := (box1 h3 (by decide)).other (B' := w.heap.size + 1 + 1) (by omega) (.slice (some ⟨g', 0, none⟩) (xs.length + 1) cap')
      have f4 := (box1 h4 (by decide)).other (B' := w.heap.size + 1 + 1) (by omega) (.slice (some ⟨g', 0, none⟩) (xs.length + 1) cap')
      have f5 := (box1 h5 (by decide)).other (B' := w.heap.size + 1 + 1) (by omega) (.slice (some ⟨g', 0, none⟩) (xs.length + 1) cap')
      refine ⟨hkk, ⟨hkk.size, fun i hi hl => ?_⟩, ⟨⟨_, hv1.set _, ?_, HOk.out⟩, (box1 h1 (by decide)).other (by omega) _, (box1 h2 (by decide)).other (by omega) _⟩, ⟨⟨t3, f3⟩, ⟨t4, f4⟩, t5, f5⟩, below_set hB1f (by omega)⟩
      · rcases hi with rfl | rfl | rfl
        · exact (show _ = _ from f3).trans (show _ = _ from h3).symm
        · exact (show _ = _ from f4).trans (show _ = _ from h4).symm
        · exact (show _ = _ from f5).trans (show _ = _ from h5).symm
      · rw [HTk.out]
        exact Kd.R_set hRf hv1 (by decide) 0 _
  case done =>
    rintro D W hD ⟨⟨⟨v, hv, hRv, hok⟩, h1, h2⟩, _, hB⟩ hK
    have hLn : (L.map pieceV).length = L.length := List.length_map _
    rw [hLn] at hRv hok
    rw [List.take_of_length_le (by rw [List.length_map]; exact Nat.le_refl _)] at hRv
    rw [List.take_of_length_le (Nat.le_refl _)] at hok
    obtain ⟨A, c, hv0⟩ := Kd.R_slice hRv
    have hall : L.all okS = true := List.all_eq_true.2 hok
    have hR := HR.out
    rw [if_pos hall] at hR
    obtain ⟨xs, hxs⟩ : ∃ xs, xs = L.map stepV := ⟨_, rfl⟩
    rw [← hxs] at hv0 hRv hR
    subst hR
    clear hok hall hxs
    subst hv0
    have hc := hv.cell
    have hc1 := h1.cell
    have hf1 := h1.frozen
    have hc2 := h2.cell
    have hf2 := h2.frozen
    gi_wp2
    exact par_end w _ D (by omega) _ (.slice A xs.length c) 0 xs rfl rfl (((KeepsOthers.setCell _ _ _).trans (KeepsOthers.setCell _ _ _)).same D _ hK rfl) ((h1.set _).other (by omega) _) ((h2.other (by omega) _).set _) (Kd.R_set (Kd.R_set hRv h1 (by decide) 0 _) (h2.other (by omega) _) (by decide) 0 _) (below_set (below_set hB (Nat.le_refl _)) (by omega))
  case stop =>
    rintro D c k W hD hkk ⟨⟨rfl, hX⟩, h1, h2, hB⟩ hK
    have hR := HR.out
    rw [if_neg (fun h => hX (List.all_eq_true.1 h))] at hR
    subst hR
    have hc1 := h1.cell
    have hc2 := h2.cell
    gi_wp2
    exact par_end w _ D (by omega) _ (.slice none 0 0) 15 [] rfl rfl hK h1 h2 (Kd.R_nil _ _ _ _ _) hB
theorem prefix_cons (a : UInt8) (r : List UInt8) : Lib.hasPrefix (a :: r) [47] = decide (a = 47) ∧ Lib.trimPrefix (a :: r) [47] = (if a = 47 then r else a :: r) := by
  have h : Lib.hasPrefix (a :: r) [47] = decide (a = 47) := by
    unfold Lib.hasPrefix
    by_cases h : a = 47
    · subst h; simp
    · show ((47 : UInt8) == a && ([] : List UInt8).isPrefixOf r) = _
      rw [decide_eq_false h, beq_false_of_ne (Ne.symm h)]
      rfl
  refine ⟨h, ?_⟩
  unfold Lib.trimPrefix
  rw [h]
  by_cases h : a = 47
  · simp [h]
  · simp [h]
/-- path.Parse. -/
theorem parse_calls (s : ByteArray) (w : World) :
    Calls Tryd.prog 40 #[.string s] w fun e W' => ∃ v, e = .returned (.tuple #[v, .int .i64 (parseF s).2]) ∧ Kd.R k81 81 W' w.heap.size (fun _ => True) v (parseF s).1 ∧ Below w.heap.size w W' := by
  unfold parseF
  by_cases h : 256 < s.size
  · rw [if_pos h]
    exact parse_long s w h
  · rw [if_neg h]
    have hcp := fun W : World => Tryd.strings_CutPrefix s ⟨#[47]⟩ W
    have hsz : s.data.toList.length = s.size := Array.length_toList
    cases hd : s.data.toList with
    | nil =>
      rw [hd] at hcp
      exact parse_bad s _ w (by omega) hcp
    | cons a r =>
      obtain ⟨p1, p2⟩ := prefix_cons a r
      rw [hd] at hcp hsz
      rw [show (⟨#[47]⟩ : ByteArray).data.toList = [47] from rfl, p1, p2] at hcp
      dsimp only
      by_cases ha : a = 47
      · rw [if_pos ha]
        rw [if_pos ha, decide_eq_true ha] at hcp
        by_cases hr : r = []
        · rw [if_pos hr]
          rw [hr] at hcp
          exact parse_root s w (by omega) hcp
        · rw [if_neg hr]
          have hl : 0 < r.length := by
            cases r with
            | nil => exact absurd rfl hr
            | cons b r => simp
          have hq : (⟨r.toArray⟩ : ByteArray).size = r.length := by simp [ByteArray.size]
          rw [List.length_cons] at hsz
          exact parse_steps s ⟨r.toArray⟩ w (by omega) (by omega) (by omega) hcp (cuts 47 r) rfl _ rfl
      · rw [if_neg ha]
        rw [if_neg ha, decide_eq_false ha] at hcp
        exact parse_bad s _ w (by omega) hcp
def path_Parse.f (s : ByteArray) : Option (List S81 × Int) := some (parseF s)
theorem path_Parse.calls (a0 : ByteArray) (r1 : List S81) (r2 : Int) (w : World) (h : path_Parse.f a0 = some (r1, r2)) :
    Calls Tryd.prog 40 #[.string a0] w fun e w' => ∃ v0_ : Value, e = .returned (.tuple #[v0_, .int .i64 r2]) ∧ Kd.R k81 81 w' w.heap.size (fun _ => True) v0_ r1 ∧ Below w.heap.size w w' := by
  have e := Option.some.inj h
  have h2 := parse_calls a0 w
  rw [e] at h2
  exact h2
end Go.Proofs.YtlhnaplmphdhlaaDoor.Q
end
section
namespace Go.Proofs.YtlhnaplmphdhlaaDoor.Q
open Go.RowKit Go.Proofs.YtlhnaplmphdhlaaDoorW.PrintWords Go.Proofs.YtlhnaplmphdhlaaDoorW.PrintLast Go.Proofs.YtlhnaplmphdhlaaDoorW.PrintMore
set_option linter.unusedVariables false
set_option linter.unusedSimpArgs false

attribute [local go_sem] max2_int min2_int max_two min_two max_three min_three max_four min_four
/-! ### tinderlaw07_alive: function 39 -/
def tinderlaw07_alive.f (k : Nat)  : Option (Bool) := (path_Parse.f (⟨#[47, 112, 99, 105, 64, 49, 102, 44, 48, 47, 100, 105, 115, 107, 58, 50, 44, 97]⟩ : ByteArray)).bind fun bt40001 => (if bt40001.2 = 0 then ((tinderref07_Same.f k bt40001.1 (([(⟨(⟨#[112, 99, 105]⟩ : ByteArray), (([31, 0] : List Int)), (⟨#[]⟩ : ByteArray)⟩ : S81), (⟨(⟨#[100, 105, 115, 107]⟩ : ByteArray), ([] : List Int), (⟨#[50, 44, 97]⟩ : ByteArray)⟩ : S81)] : List (S81)))).bind fun t40011 => (some t40011)) else (some false))
set_option maxHeartbeats 8000000 in
set_option maxRecDepth 100000 in
theorem tinderlaw07_alive.calls (k : Nat)  (r : Bool) (w : World) (h : tinderlaw07_alive.f k  = some r) :
    Calls Tryd.prog 39 #[] w fun e w' => e = .returned (.bool r) ∧ Below w.heap.size w w' := by
  have hu81 := Tryd.underlying81
  have HB := Aside0.mk (Below.refl w.heap.size w)
  have H : ((path_Parse.f (⟨#[47, 112, 99, 105, 64, 49, 102, 44, 48, 47, 100, 105, 115, 107, 58, 50, 44, 97]⟩ : ByteArray)).bind fun bt40001 => (if bt40001.2 = 0 then ((tinderref07_Same.f k bt40001.1 (([(⟨(⟨#[112, 99, 105]⟩ : ByteArray), (([31, 0] : List Int)), (⟨#[]⟩ : ByteArray)⟩ : S81), (⟨(⟨#[100, 105, 115, 107]⟩ : ByteArray), ([] : List Int), (⟨#[50, 44, 97]⟩ : ByteArray)⟩ : S81)] : List (S81)))).bind fun t40011 => (some t40011)) else (some false))) = some r := h
  clear h
  replace H := Option.bind_eq_some_iff.mp H
  obtain ⟨⟨t40001, t40002⟩, A10, H⟩ := H
  replace H : (if t40002 = 0 then ((tinderref07_Same.f k t40001 (([(⟨(⟨#[112, 99, 105]⟩ : ByteArray), (([31, 0] : List Int)), (⟨#[]⟩ : ByteArray)⟩ : S81), (⟨(⟨#[100, 105, 115, 107]⟩ : ByteArray), ([] : List Int), (⟨#[50, 44, 97]⟩ : ByteArray)⟩ : S81)] : List (S81)))).bind fun t40011 => (some t40011)) else (some false)) = some r := H
  have A1 := Aside0.mk A10
  clear A10
  by_cases c2 : t40002 = 0
  · rw [if_pos c2] at H
    have c2b0 : (t40002 == 0) = true := beq_iff_eq.mpr c2
    have c2b1 : (t40002 != 0) = false := bne_eq_false_iff_eq.mpr c2
    clear c2
    obtain ⟨y40005, hy40005⟩ : ∃ y_ : List Int, y_ = (([31, 0] : List Int)) := ⟨_, rfl⟩
    replace H : ((tinderref07_Same.f k t40001 (([(⟨(⟨#[112, 99, 105]⟩ : ByteArray), y40005, (⟨#[]⟩ : ByteArray)⟩ : S81), (⟨(⟨#[100, 105, 115, 107]⟩ : ByteArray), ([] : List Int), (⟨#[50, 44, 97]⟩ : ByteArray)⟩ : S81)] : List (S81)))).bind fun t40011 => (some t40011)) = some r := by first | (rw [hy40005]; with_reducible exact H) | (have H2_ := (Option.bind_some _ _).symm.trans H; rw [hy40005]; with_reducible exact H2_) | (have H2_ := (Option.bind_some _ _).symm.trans H; with_reducible exact H2_) | with_reducible exact H | (rw [hy40005]; exact H) | exact H
    have Ny40005 := Aside0.mk hy40005
    clear hy40005
    obtain ⟨y40008, hy40008⟩ : ∃ y_ : List (S81), y_ = (([(⟨(⟨#[112, 99, 105]⟩ : ByteArray), y40005, (⟨#[]⟩ : ByteArray)⟩ : S81), (⟨(⟨#[100, 105, 115, 107]⟩ : ByteArray), ([] : List Int), (⟨#[50, 44, 97]⟩ : ByteArray)⟩ : S81)] : List (S81))) := ⟨_, rfl⟩
    replace H : ((tinderref07_Same.f k t40001 y40008).bind fun t40011 => (some t40011)) = some r := by first | (rw [hy40008]; with_reducible exact H) | (have H2_ := (Option.bind_some _ _).symm.trans H; rw [hy40008]; with_reducible exact H2_) | (have H2_ := (Option.bind_some _ _).symm.trans H; with_reducible exact H2_) | with_reducible exact H | (rw [hy40008]; exact H) | exact H
    have Ny40008 := Aside0.mk hy40008
    clear hy40008
    replace H := Option.bind_eq_some_iff.mp H
    obtain ⟨t40011, A30, H⟩ := H
    replace H : (some t40011) = some r := H
    have A3 := Aside0.mk A30
    clear A30
    obtain rfl := Option.some.inj H
    go_enter Tryd.func39, Tryd.ntmps39
    go_wp2_with (first | ((with_reducible refine gate_callee (f := 40) rfl ?_); refine goesL_ (some 4) rfl rfl Tryd.func40 (by kernel_rfl) rfl #[.string (⟨#[47, 112, 99, 105, 64, 49, 102, 44, 48, 47, 100, 105, 115, 107, 58, 50, 44, 97]⟩ : ByteArray)] rfl (by (try simp only [List.map_toArray, List.map_cons, List.map_nil]); first | done | rfl | (simp only [List.length_drop, List.length_take]; rfl)) ?_; (with_reducible refine (path_Parse.calls (⟨#[47, 112, 99, 105, 64, 49, 102, 44, 48, 47, 100, 105, 115, 107, 58, 50, 44, 97]⟩ : ByteArray) t40001 t40002 _ A1.out).mono ?_); rintro e w4 ⟨v40003, rfl, ho0, hb⟩; refine ⟨_, rfl, ?_⟩; have n0_ := Aside0.mk (Kd.N_lower (Kd.N_mono (ok' := fun k_ => True) (Kd.R_N (Kd.R_bound ho0)) (fun k_ hk_ => trivial)) (below_size (by repeat (first | (with_reducible first | exact HB.out | apply below_alloc | apply pw_below_drewN | apply below_drew1) | exact HB.out)))); have n1_ := Aside0.mk (below_step (by repeat (first | (with_reducible first | exact HB.out | apply below_alloc | apply pw_below_drewN | apply below_drew1) | exact HB.out)) hb); clear HB; have HO40004 := n0_; have HB := n1_; clear n0_ n1_; (try clear hb); (try clear hb2); (try clear hk); (try clear hi); (try clear ho0)) | ((with_reducible refine gate_dst (N := 11) rfl ?_); (try (refine gate_guard (by rfl) ?_; dsimp only)); refine Kd.R_lit (Kd.int .u32) _ 24 ?hg (N := 11) ?hd (xs := ([31, 0] : List Int)) (inner := [.int .u32 31, .int .u32 0]) (ok := fun _ => True) (okp := fun _ => True) ?hr ?hp (fun _ hk => hk) trivial (Below.refl _ _) (Nat.le_refl _) (by simp) ?_; (case hd => rfl); (case hg => rfl); (case hr => first | (go_simp; done) | (go_simp; rfl)); (case hp => exact (Reps.one (show Kd.M (Kd.int .u32) _ _ _ 31 [.int .u32 31] from rfl) (Reps.one (show Kd.M (Kd.int .u32) _ _ _ 0 [.int .u32 0] from rfl) (Reps.none _ _)))); intro v40006 w5 ho6 hb hg_ hnew_; clear hg_ hnew_; (first | rw [← Ny40005.out] at ho6 | (simp only [Int.reduceToNat] at ho6; rw [← Ny40005.out] at ho6)); have n0_ := Aside0.mk (Kd.N_elder' (by (with_reducible repeat (first | apply Kd.N_alloc | apply Kd.N_drewN | apply Kd.N_drew)); exact HO40004.out) (Kd.R_base ho6) hb); have n1_ := Aside0.mk (Kd.R_lower ho6 (below_size (by repeat (first | (with_reducible first | exact HB.out | apply below_alloc | apply pw_below_drewN | apply below_drew1) | exact HB.out)))); have n2_ := Aside0.mk (below_step (by repeat (first | (with_reducible first | exact HB.out | apply below_alloc | apply pw_below_drewN | apply below_drew1) | exact HB.out)) hb); clear HO40004; clear HB; have HO40004 := n0_; have HO40007 := n1_; have HB := n2_; clear n0_ n1_ n2_; clear hb ho6; obtain ⟨Ao7, co7, eo7⟩ := Kd.R_slice HO40007.out; subst eo7) | ((with_reducible refine gate_dst (N := 14) rfl ?_); (try (refine gate_guard (by rfl) ?_; dsimp only)); refine Kd.N_lit k81 _ 81 ?hg (N' := 14) ?hd (xs := ([(⟨(⟨#[112, 99, 105]⟩ : ByteArray), y40005, (⟨#[]⟩ : ByteArray)⟩ : S81), (⟨(⟨#[100, 105, 115, 107]⟩ : ByteArray), ([] : List Int), (⟨#[50, 44, 97]⟩ : ByteArray)⟩ : S81)] : List (S81))) (inner := [.string (⟨#[112, 99, 105]⟩ : ByteArray), .slice Ao7 y40005.length co7, .string (⟨#[]⟩ : ByteArray), .string (⟨#[100, 105, 115, 107]⟩ : ByteArray), .slice none 0 0, .string (⟨#[50, 44, 97]⟩ : ByteArray)]) (ok := (fun k_ => some k_ ≠ (v40003 : Value).ownBlock)) (okp := (fun k_ => some k_ ≠ (v40003 : Value).ownBlock)) ?hr ?hp (fun _ hk => hk) ((show ∀ k_, w5.heap.size ≤ k_ → (fun k_ => some k_ ≠ (v40003 : Value).ownBlock) k_ from fun k_ hk => Kd.fresh' (Kd.N_lt (by (with_reducible repeat (first | apply Kd.N_alloc | apply Kd.N_drewN | apply Kd.N_drew)); exact HO40004.out)) k_ hk) _ (Nat.le_refl _)) (Below.refl _ _) (Nat.le_refl _) (by simp) ?_; (case hd => rfl); (case hg => rfl); (case hr => first | (go_simp; done) | (go_simp; rfl)); (case hp => exact (Reps.c3 (show Kd.FK k81 _ _ (⟨(⟨#[112, 99, 105]⟩ : ByteArray), y40005, (⟨#[]⟩ : ByteArray)⟩ : S81) [.string (⟨#[112, 99, 105]⟩ : ByteArray), .slice Ao7 y40005.length co7, .string (⟨#[]⟩ : ByteArray)] from (k81_mkF _ _ (⟨(⟨#[112, 99, 105]⟩ : ByteArray), y40005, (⟨#[]⟩ : ByteArray)⟩ : S81) (Kd.R_reads' (Kd.R_mono (ok' := (fun k_ => some k_ ≠ (v40003 : Value).ownBlock)) (Kd.R_apart' (HO40007.out) (Kd.N_typed HO40004.out) (by decide)) (fun k_ hk => hk.2))).2.1 (Kd.R_F (Kd.R_mono (ok' := (fun k_ => some k_ ≠ (v40003 : Value).ownBlock)) (Kd.R_apart' (HO40007.out) (Kd.N_typed HO40004.out) (by decide)) (fun k_ hk => hk.2))))) (Reps.c3 (show Kd.FK k81 _ _ (⟨(⟨#[100, 105, 115, 107]⟩ : ByteArray), ([] : List Int), (⟨#[50, 44, 97]⟩ : ByteArray)⟩ : S81) [.string (⟨#[100, 105, 115, 107]⟩ : ByteArray), .slice none 0 0, .string (⟨#[50, 44, 97]⟩ : ByteArray)] from (k81_mkF _ _ (⟨(⟨#[100, 105, 115, 107]⟩ : ByteArray), ([] : List Int), (⟨#[50, 44, 97]⟩ : ByteArray)⟩ : S81) (Nat.le_refl _) (Kd.F_nil _ _ _))) (Reps.none _ _)))); intro v40009 w8 ho9 hb hg_ hnew_; clear hg_ hnew_; (first | rw [← Ny40008.out] at ho9 | (simp only [Int.reduceToNat] at ho9; rw [← Ny40008.out] at ho9)); have n0_ := Aside0.mk (Kd.N_elder' (by (with_reducible repeat (first | apply Kd.N_alloc | apply Kd.N_drewN | apply Kd.N_drew)); exact HO40004.out) (Kd.N_base ho9) hb); have n1_ := Aside0.mk (Kd.N_lower ho9 (below_size (by repeat (first | (with_reducible first | exact HB.out | apply below_alloc | apply pw_below_drewN | apply below_drew1) | exact HB.out)))); have n2_ := Aside0.mk (below_step (by repeat (first | (with_reducible first | exact HB.out | apply below_alloc | apply pw_below_drewN | apply below_drew1) | exact HB.out)) hb); clear HO40004; clear HB; clear HO40007; have HO40004 := n0_; have HO40010 := n1_; have HB := n2_; clear n0_ n1_ n2_; clear hb ho9; obtain ⟨Ao10, co10, eo10⟩ := Kd.N_slice HO40004.out; subst eo10; obtain ⟨Ao11, co11, eo11⟩ := Kd.N_slice HO40010.out; subst eo11) | (go_at_call 42; (with_reducible refine (tinderref07_Same.calls k _ _ t40001 _ _ y40008 t40011 _ ?side1 ?side2 ?side3 ?side4 A3.out).mono ?_); (case side1 => repeat (first | exact (Kd.N_reads' HO40004.out).2.2 | (with_reducible refine Kd.C_alloc ?_ _) | (with_reducible refine Kd.C_drewN ?_ _) | (with_reducible refine Kd.C_drew ?_))); (case side2 => exact (Kd.N_reads' HO40004.out).2.1); (case side3 => repeat (first | exact (Kd.N_reads' HO40010.out).2.2 | (with_reducible refine Kd.C_alloc ?_ _) | (with_reducible refine Kd.C_drewN ?_ _) | (with_reducible refine Kd.C_drew ?_))); (case side4 => exact (Kd.N_reads' HO40010.out).2.1); rintro e w12 ⟨rfl, hb⟩; have n0_ := Aside0.mk (Kd.N_below (by (with_reducible repeat (first | apply Kd.N_alloc | apply Kd.N_drewN | apply Kd.N_drew)); exact HO40004.out) hb); have n1_ := Aside0.mk (Kd.N_below (by (with_reducible repeat (first | apply Kd.N_alloc | apply Kd.N_drewN | apply Kd.N_drew)); exact HO40010.out) hb); have n2_ := Aside0.mk (below_step (by repeat (first | (with_reducible first | exact HB.out | apply below_alloc | apply pw_below_drewN | apply below_drew1) | exact HB.out)) hb); clear HO40004; clear HO40010; clear HB; have HO40004 := n0_; have HO40010 := n1_; have HB := n2_; clear n0_ n1_ n2_; (try clear hb); (try clear hb2); (try clear hk); (try clear hi)))
    go_ret
    exact ⟨by first | rfl | (simp [errW_none, errW_some] <;> rfl) | (simp [*, errW_none, errW_some] <;> rfl), by repeat (first | (with_reducible first | exact HB.out | apply below_alloc | apply pw_below_drewN | apply below_drew1) | exact HB.out)⟩
  · rw [if_neg c2] at H
    have c2b0 : (t40002 == 0) = false := beq_eq_false_iff_ne.mpr c2
    have c2b1 : (t40002 != 0) = true := bne_iff_ne.mpr c2
    obtain rfl := Option.some.inj H
    go_enter Tryd.func39, Tryd.ntmps39
    go_wp2_with (first | ((with_reducible refine gate_callee (f := 40) rfl ?_); refine goesL_ (some 4) rfl rfl Tryd.func40 (by kernel_rfl) rfl #[.string (⟨#[47, 112, 99, 105, 64, 49, 102, 44, 48, 47, 100, 105, 115, 107, 58, 50, 44, 97]⟩ : ByteArray)] rfl (by (try simp only [List.map_toArray, List.map_cons, List.map_nil]); first | done | rfl | (simp only [List.length_drop, List.length_take]; rfl)) ?_; (with_reducible refine (path_Parse.calls (⟨#[47, 112, 99, 105, 64, 49, 102, 44, 48, 47, 100, 105, 115, 107, 58, 50, 44, 97]⟩ : ByteArray) t40001 t40002 _ A1.out).mono ?_); rintro e w13 ⟨v40003, rfl, ho0, hb⟩; refine ⟨_, rfl, ?_⟩; have n0_ := Aside0.mk (Kd.N_lower (Kd.N_mono (ok' := fun k_ => True) (Kd.R_N (Kd.R_bound ho0)) (fun k_ hk_ => trivial)) (below_size (by repeat (first | (with_reducible first | exact HB.out | apply below_alloc | apply pw_below_drewN | apply below_drew1) | exact HB.out)))); have n1_ := Aside0.mk (below_step (by repeat (first | (with_reducible first | exact HB.out | apply below_alloc | apply pw_below_drewN | apply below_drew1) | exact HB.out)) hb); clear HB; have HO40004 := n0_; have HB := n1_; clear n0_ n1_; (try clear hb); (try clear hb2); (try clear hk); (try clear hi); (try clear ho0)))
    go_ret
    exact ⟨by first | rfl | (simp [errW_none, errW_some] <;> rfl) | (simp [*, errW_none, errW_some] <;> rfl), by repeat (first | (with_reducible first | exact HB.out | apply below_alloc | apply pw_below_drewN | apply below_drew1) | exact HB.out)⟩

end Go.Proofs.YtlhnaplmphdhlaaDoor.Q
end
section
set_option linter.unusedVariables false
namespace Go.Proofs.YtlhnaplmphdhlaaDoor.Q
open Go.ChangeShapes Go.WideShapes Go.ChangeAt Go.RowKit
def laidL : List (String × DataW Unit) := Rows.propNamesRow.laid
structure Tabs (w : World) : Prop where
theorem tabs_of_laid {W : World} (h : laidMetH Tryd.prog laidL W) : Tabs W := by
  rw [MakeChecks.laidMetH_plain _ _ _ (by kernel_rfl)] at h
  refine ⟨⟩
theorem var_below {P : Program} {g : Nat} {W W' : World} {n : String} {cs : Array Value} (h : Below W.heap.size W W') (hg : P.globalNamed n = some g) (hv : W.var? P n = some cs) : W'.var? P n = some cs := by
  unfold World.var? at hv ⊢
  simp only [hg, Option.bind_some] at hv ⊢
  rw [h.block g (by
    rcases Nat.lt_or_ge g W.heap.size with h1 | h1
    · exact h1
    · rw [Array.getElem?_eq_none h1] at hv
      simp at hv)]
  exact hv
theorem Tabs.below {w w1 : World} (h : Tabs w) (hb : Below w.heap.size w w1) : Tabs w1 :=
  ⟨⟩
end Go.Proofs.YtlhnaplmphdhlaaDoor.Q
end
section
set_option linter.unusedSimpArgs false
set_option linter.unusedVariables false
namespace Go.Proofs.YtlhnaplmphdhlaaDoor.Q
open Go.RowKit Go.Proofs.YtlhnaplmphdhlaaDoorW.PrintWords Go.Proofs.YtlhnaplmphdhlaaDoorW.PrintLast Go.Proofs.YtlhnaplmphdhlaaDoorW.PrintMore
theorem alive07_f : tinderlaw07_alive.f 60 = some true := by kernel_rfl
theorem alive07_calls (w : World) : Calls Tryd.prog 39 #[] w fun e w' => e = .returned (.bool true) ∧ Below w.heap.size w w' := tinderlaw07_alive.calls 60 true w alive07_f
theorem parseC_calls (s : ByteArray) (X : List S81) (e0 : Int) (h : parseF s = (X, e0)) (w : World) :
    Calls Tryd.prog 40 #[.string s] w fun e w' => ∃ A c, e = .returned (.tuple #[.slice A X.length c, .int .i64 e0]) ∧ X.length ≤ c ∧ Kd.C k81 w' A X.length X ∧ Below w.heap.size w w' := by
  have h2 := parse_calls s w
  rw [h] at h2
  refine h2.mono ?_
  rintro e w' ⟨v, rfl, hR, hb⟩
  obtain ⟨A, c, rfl, hc, hC⟩ := Kd.R_reads hR
  exact ⟨A, c, rfl, hc, hC, hb⟩
theorem sameP_calls (X : List S81) (hl : X.length ≤ 300) (hu : ∀ x ∈ X, x.f1.length ≤ 4) (A : Option Addr) (c : Nat) (B : Option Addr) (d : Nat) (W : World) (h1 : Kd.C k81 W A X.length X) (hc : X.length ≤ c) (h2 : Kd.C k81 W B X.length X) (hd : X.length ≤ d) :
    Calls Tryd.prog 42 #[.slice A X.length c, .slice B X.length d] W fun e w' => e = .returned (.bool true) ∧ Below W.heap.size W w' :=
  tinderref07_Same.calls 400 A c X B d X true W h1 hc h2 hd (samep_eq 400 X 4 (by omega) (by omega) hu (by omega))
end Go.Proofs.YtlhnaplmphdhlaaDoor.Q
end
section
set_option linter.unusedSimpArgs false
set_option linter.unusedVariables false
namespace Go.Proofs.YtlhnaplmphdhlaaDoor.Q
open Go.RowKit Go.Proofs.YtlhnaplmphdhlaaDoorW.PrintWords Go.Proofs.YtlhnaplmphdhlaaDoorW.PrintLast Go.Proofs.YtlhnaplmphdhlaaDoorW.PrintMore
/-- What a reading tells of steps. -/
def StepsG (z : List S81) : Prop := z.length * 56 ≤ 140737488351232 ∧ ∀ a ∈ z, a.f0.size ≤ 140737488351232 ∧ (a.f1.length * 4 ≤ 140737488351232 ∧ ∀ b ∈ a.f1, (Lit.int .u32 b).wf = true) ∧ a.f2.size ≤ 140737488351232
end Go.Proofs.YtlhnaplmphdhlaaDoor.Q
end
section
set_option linter.unusedSimpArgs false
set_option linter.unusedVariables false
namespace Go.Proofs.YtlhnaplmphdhlaaDoor.Q
open Go.RowKit Go.Proofs.YtlhnaplmphdhlaaDoorW.PrintWords Go.Proofs.YtlhnaplmphdhlaaDoorW.PrintLast Go.Proofs.YtlhnaplmphdhlaaDoorW.PrintMore
set_option maxRecDepth 100000 in
set_option maxHeartbeats 8000000 in
theorem pathAgain_row {w : World} (ht : QB.Tabs w) (s : ByteArray) (hs : s.size ≤ 140737488351232) :
    Calls Tryd.prog 13 #[.string s] w fun e w' => e = .returned (.bool true) ∧ Below w.heap.size w w' := by
  obtain ⟨X, e0, hP⟩ : ∃ X e0, parseF s = (X, e0) := ⟨_, _, rfl⟩
  have hlu := parseF_len s
  rw [hP] at hlu
  dsimp only at hlu
  have HP := Aside0.mk (parseC_calls s X e0 hP)
  have HT := Aside0.mk ht
  by_cases h0 : e0 = 0
  · have ha := again_eq s (by rw [hP]; exact h0)
    rw [hP] at ha
    dsimp only at ha
    obtain ⟨a1, a2, a3, a4, a5⟩ := ha
    obtain ⟨t, ht2⟩ : ∃ t, t = (showP X).1 := ⟨_, rfl⟩
    rw [← ht2] at a1 a2 a3
    have HS := Aside0.mk (show ∀ (A : Option Addr) (c : Nat) (W : World), QB.Tabs W → Kd.C k81 W A X.length X → X.length ≤ c → Calls Tryd.prog 43 #[.slice A X.length c] W (fun e w' => e = .returned (.tuple #[.string t, .int .i64 0]) ∧ Below W.heap.size W w') from fun A c W hT hC hc => by
      have h := show_calls A c X W hT hC hc a4 (by omega) (by omega)
      rw [a1] at h
      exact h)
    have HP2 := Aside0.mk (parseC_calls t X 0 a3)
    have HSM := Aside0.mk (sameP_calls X (by omega) hlu.2)
    have dl : decide ((t.size : Int) ≤ (s.size : Int)) = true := decide_eq_true (by omega)
    have dl2 : decide (t.size ≤ s.size) = true := decide_eq_true a2
    subst h0
    clear hP hlu a1 a2 a3 a4 a5 ht2 ht hs
    go_enter Tryd.func13, Tryd.ntmps13
    go_wp2_with (first
      | (go_at_call 39; (with_reducible refine (alive07_calls _).mono ?_); rintro e w1 ⟨rfl, hb⟩; have HB1 := Aside0.mk hb; clear hb)
      | (go_at_call 40; (with_reducible refine (HP.out _).mono ?_); rintro e w2 ⟨A2, c2, rfl, hc2, hC2, hb⟩; have HB2 := Aside0.mk (below_step HB1.out hb); have HC2 := Aside0.mk hC2; have HK2 := Aside0.mk hc2; clear hb hC2 hc2)
      | (go_at_call 43; (with_reducible refine (HS.out _ _ _ (HT.out.below HB2.out) HC2.out HK2.out).mono ?_); rintro e w3 ⟨rfl, hb⟩; have HB3 := Aside0.mk (below_step HB2.out hb); have HC23 := Aside0.mk (Kd.C_below HC2.out hb); clear hb)
      | (go_at_call 40; (with_reducible refine (HP2.out _).mono ?_); rintro e w4 ⟨A4, c4, rfl, hc4, hC4, hb⟩; have HB4 := Aside0.mk (below_step HB3.out hb); have HC4 := Aside0.mk hC4; have HK4 := Aside0.mk hc4; have HC24 := Aside0.mk (Kd.C_below HC23.out hb); clear hb hC4 hc4)
      | (go_at_call 42; (with_reducible refine (HSM.out _ _ _ _ _ HC24.out HK2.out HC4.out HK4.out).mono ?_); rintro e w5 ⟨rfl, hb⟩; have HB5 := Aside0.mk (below_step HB4.out hb); clear hb))
    go_ret
    exact ⟨rfl, HB5.out⟩
  · have ha := parse_err s (by rw [hP]; exact h0)
    rw [hP] at ha
    dsimp only at ha
    obtain ⟨a1, a2⟩ := ha
    subst a1
    have d0 : (e0 != 0) = true := bne_iff_ne.2 h0
    have d3 : ((e0 == 3) == decide (256 < (s.size : Int))) = true := by
      have e1 : decide (256 < (s.size : Int)) = decide (256 < s.size) := by
        by_cases h : 256 < s.size
        · rw [decide_eq_true h]; exact decide_eq_true (by omega)
        · rw [decide_eq_false h]; exact decide_eq_false (by omega)
      rw [e1, ← a2]
      by_cases h : e0 = 3
      · subst h; rfl
      · rw [decide_eq_false h, beq_eq_false_iff_ne.2 h]; rfl
    clear hP hlu a2 ht hs h0
    go_enter Tryd.func13, Tryd.ntmps13
    go_wp2_with (first
      | (go_at_call 39; (with_reducible refine (alive07_calls _).mono ?_); rintro e w1 ⟨rfl, hb⟩; have HB1 := Aside0.mk hb; clear hb)
      | (go_at_call 40; (with_reducible refine (HP.out _).mono ?_); rintro e w2 ⟨A2, c2, rfl, hc2, hC2, hb⟩; have HB2 := Aside0.mk (below_step HB1.out hb); clear hb hC2 hc2))
    go_ret
    exact ⟨rfl, HB2.out⟩
end Go.Proofs.YtlhnaplmphdhlaaDoor.Q
end
section
namespace Go.Proofs.YtlhnaplmphdhlaaDoor.Q
open Go.RowKit Go.Proofs.YtlhnaplmphdhlaaDoorW.PrintWords Go.Proofs.YtlhnaplmphdhlaaDoorW.PrintLast Go.Proofs.YtlhnaplmphdhlaaDoorW.PrintMore
def Opens {α : Type} (P : Program) (t : TypeId) (d : Kd α) (G : α → Prop) : Prop :=
  ∀ (H : Type) (enc : TypeId × Value → H) (W : World) (fuel : Nat) (cs : List Value) (x : DataW H × List MemPlace), DataW.trod enc P W 0 (fun _ => true) true fuel t cs = some x → (∀ n ∈ x.1.weights P t, n ≤ reachBytes) → ∃ a, d.K W a cs ∧ G a
section
variable {P : Program} {t e : TypeId}
/-- The fields of a struct from one on, one behind the other. -/
def OpensFields {α : Type} (P : Program) (fs : List Field) (off : Nat) (d : Kd α) (G : α → Prop) : Prop :=
  ∀ (H : Type) (enc : TypeId × Value → H) (W : World) (fuel : Nat) (cs : List Value) (xs : List (DataW H × List MemPlace)), off + d.sz = cs.length → xs.length = fs.length →
    (∀ (i : Nat) (f : Field), fs[i]? = some f → DataW.trod enc P W 0 (fun _ => true) true fuel f.type ((cs.drop f.offset).take (P.cellsOf f.type)) = xs[i]?) →
    (∀ n ∈ DataW.weightsEach P (fs.map (·.type)) (xs.map (·.1)), n ≤ reachBytes) → ∃ a, d.K W a (cs.drop off) ∧ G a
end
end Go.Proofs.YtlhnaplmphdhlaaDoor.Q
end
