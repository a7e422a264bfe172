/- Contracts of Go functions and plain facts, of several texts, one behind the other; no condition. -/
import Derived.Test.YtfpkakedlapmkaaMDictNewest2
import Derived.Shelf.Small.Strs
import Derived.Shelf.Strings.Search1
import Derived.Shelf.Strings.Search2
import Derived.Shelf.Strings.Search3
import Derived.Shelf.LaysM
import Derived.Shelf.Strings.Shaped
import Derived.Ground.Names2Prog
import Derived.Shelf.Slices.Clone
import Derived.Ground.SlgnProg
import Derived.Shelf.SlicesE.Clone
import Derived.Test.YtfpkakedlapmkaaProg
section
set_option linter.unusedSimpArgs false
set_option linter.unusedVariables false
namespace Go.Proofs.Ytfpkakedlapmkaa.Q
open Go.RowKit Go.Shelf Go.Proofs.YtfpkakedlapmkaaW.PrintWords Go.Proofs.YtfpkakedlapmkaaW.PrintLast
attribute [local go_sem] Oper.semAt_some
/-- A word as a value: A, c where its code lies. -/
def wV (x : S51) (p : Option Addr × Nat) : Value := .agg #[.string x.f0, .int .i64 x.f1, .int .i64 x.f2, .int .u32 x.f3, .slice p.1 x.f4.length p.2]
def isN51 (s : ByteArray) (x : S51) : Bool := (!s.toList.isEmpty) && (x.f0.toList == s.toList)
def isM51 (s : ByteArray) (n : Int) (x : S51) : Bool := (!s.toList.isEmpty) && (decide (0 ≤ n) && ((x.f0.toList == s.toList) && (x.f1 == n)))
set_option maxHeartbeats 1000000 in
set_option maxRecDepth 100000 in
theorem findC_calls (s : ByteArray) (gb : Nat) (x : S51) (p : Option Addr × Nat) (w : World) (hh : w.heap[gb]? = some (.cells #[.string s] 9 (0, 0))) :
    Calls Try.prog 40 #[wV x p, .pointer (some ⟨gb, 0, none⟩)] w fun e w' => e = .returned (.bool (isN51 s x)) ∧ Below w.heap.size w w' := by
  have hu51 := Try.underlying51
  have HH := Aside0.mk hh
  have HLT := Aside0.mk (blk_lt hh)
  clear hh
  unfold wV isN51
  by_cases d1 : s.toList.isEmpty = true
  · rw [d1]
    go_enter Try.func40, Try.ntmps40
    go_wp2_with (first | ((with_reducible refine gate_dst (N := 2) rfl ?_); refine box_event ?hg (N := 2) ?hd (cs := #[.string x.f0, .int .i64 x.f1, .int .i64 x.f2, .int .u32 x.f3, .slice p.1 x.f4.length p.2]) (t := 51) ?hr ?_; (case hd => rfl); (case hg => rfl); (case hr => first | (go_simp; done) | (go_simp; rfl)); intro ga hg w1 hbox hb; have BK := Aside0.mk hbox; have hz0 := (blk_cell BK.out 0).trans rfl; have hf0 := blk_frozen BK.out 0; have hz1 := (blk_cell BK.out 1).trans rfl; have hf1 := blk_frozen BK.out 1; have hz2 := (blk_cell BK.out 2).trans rfl; have hf2 := blk_frozen BK.out 2; have hz3 := (blk_cell BK.out 3).trans rfl; have hf3 := blk_frozen BK.out 3; have hz4 := (blk_cell BK.out 4).trans rfl; have hf4 := blk_frozen BK.out 4; have hs : w1.cell? ⟨gb, 0, none⟩ = some (.string s) := (hb.cell (p := ⟨gb, 0, none⟩) HLT.out).trans ((blk_cell HH.out 0).trans rfl); have HB := Aside0.mk hb; clear hbox hb hg))
    go_ret
    exact ⟨by simp, HB.out⟩
  · replace d1 : s.toList.isEmpty = false := by simpa using d1
    rw [d1]
    go_enter Try.func40, Try.ntmps40
    go_wp2_with (first | ((with_reducible refine gate_dst (N := 2) rfl ?_); refine box_event ?hg (N := 2) ?hd (cs := #[.string x.f0, .int .i64 x.f1, .int .i64 x.f2, .int .u32 x.f3, .slice p.1 x.f4.length p.2]) (t := 51) ?hr ?_; (case hd => rfl); (case hg => rfl); (case hr => first | (go_simp; done) | (go_simp; rfl)); intro ga hg w1 hbox hb; have BK := Aside0.mk hbox; have hz0 := (blk_cell BK.out 0).trans rfl; have hf0 := blk_frozen BK.out 0; have hz1 := (blk_cell BK.out 1).trans rfl; have hf1 := blk_frozen BK.out 1; have hz2 := (blk_cell BK.out 2).trans rfl; have hf2 := blk_frozen BK.out 2; have hz3 := (blk_cell BK.out 3).trans rfl; have hf3 := blk_frozen BK.out 3; have hz4 := (blk_cell BK.out 4).trans rfl; have hf4 := blk_frozen BK.out 4; have hs : w1.cell? ⟨gb, 0, none⟩ = some (.string s) := (hb.cell (p := ⟨gb, 0, none⟩) HLT.out).trans ((blk_cell HH.out 0).trans rfl); have HB := Aside0.mk hb; clear hbox hb hg))
    go_ret
    exact ⟨by simp, HB.out⟩
set_option maxHeartbeats 1000000 in
set_option maxRecDepth 100000 in
theorem methodC_calls (s : ByteArray) (n : Int) (gn gs : Nat) (x : S51) (p : Option Addr × Nat) (w : World) (hn : w.heap[gn]? = some (.cells #[.int .i64 n] 3 (0, 0))) (hh : w.heap[gs]? = some (.cells #[.string s] 9 (0, 0))) :
    Calls Try.prog 43 #[wV x p, .pointer (some ⟨gs, 0, none⟩), .pointer (some ⟨gn, 0, none⟩)] w fun e w' => e = .returned (.bool (isM51 s n x)) ∧ Below w.heap.size w w' := by
  have hu51 := Try.underlying51
  have HH := Aside0.mk hh
  have HLT := Aside0.mk (blk_lt hh)
  have HN := Aside0.mk hn
  have HLN := Aside0.mk (blk_lt hn)
  clear hh hn
  unfold wV isM51
  by_cases d1 : s.toList.isEmpty = true
  · rw [d1]
    go_enter Try.func43, Try.ntmps43
    go_wp2_with (first | ((with_reducible refine gate_dst (N := 3) rfl ?_); refine box_event ?hg (N := 3) ?hd (cs := #[.string x.f0, .int .i64 x.f1, .int .i64 x.f2, .int .u32 x.f3, .slice p.1 x.f4.length p.2]) (t := 51) ?hr ?_; (case hd => rfl); (case hg => rfl); (case hr => first | (go_simp; done) | (go_simp; rfl)); intro ga hg w1 hbox hb; have BK := Aside0.mk hbox; have hz0 := (blk_cell BK.out 0).trans rfl; have hf0 := blk_frozen BK.out 0; have hz1 := (blk_cell BK.out 1).trans rfl; have hf1 := blk_frozen BK.out 1; have hz2 := (blk_cell BK.out 2).trans rfl; have hf2 := blk_frozen BK.out 2; have hz3 := (blk_cell BK.out 3).trans rfl; have hf3 := blk_frozen BK.out 3; have hz4 := (blk_cell BK.out 4).trans rfl; have hf4 := blk_frozen BK.out 4; have hs : w1.cell? ⟨gs, 0, none⟩ = some (.string s) := (hb.cell (p := ⟨gs, 0, none⟩) HLT.out).trans ((blk_cell HH.out 0).trans rfl); have hn : w1.cell? ⟨gn, 0, none⟩ = some (.int .i64 n) := (hb.cell (p := ⟨gn, 0, none⟩) HLN.out).trans ((blk_cell HN.out 0).trans rfl); have HB := Aside0.mk hb; clear hbox hb hg))
    go_ret
    exact ⟨by simp, HB.out⟩
  · replace d1 : s.toList.isEmpty = false := by simpa using d1
    rw [d1]
    by_cases h2 : 0 ≤ n
    · have d2 : decide (0 ≤ n) = true := decide_eq_true h2
      rw [d2]
      clear h2
      by_cases h3 : (x.f0.toList == s.toList) = true
      · rw [h3]
        go_enter Try.func43, Try.ntmps43
        go_wp2_with (first | ((with_reducible refine gate_dst (N := 3) rfl ?_); refine box_event ?hg (N := 3) ?hd (cs := #[.string x.f0, .int .i64 x.f1, .int .i64 x.f2, .int .u32 x.f3, .slice p.1 x.f4.length p.2]) (t := 51) ?hr ?_; (case hd => rfl); (case hg => rfl); (case hr => first | (go_simp; done) | (go_simp; rfl)); intro ga hg w1 hbox hb; have BK := Aside0.mk hbox; have hz0 := (blk_cell BK.out 0).trans rfl; have hf0 := blk_frozen BK.out 0; have hz1 := (blk_cell BK.out 1).trans rfl; have hf1 := blk_frozen BK.out 1; have hz2 := (blk_cell BK.out 2).trans rfl; have hf2 := blk_frozen BK.out 2; have hz3 := (blk_cell BK.out 3).trans rfl; have hf3 := blk_frozen BK.out 3; have hz4 := (blk_cell BK.out 4).trans rfl; have hf4 := blk_frozen BK.out 4; have hs : w1.cell? ⟨gs, 0, none⟩ = some (.string s) := (hb.cell (p := ⟨gs, 0, none⟩) HLT.out).trans ((blk_cell HH.out 0).trans rfl); have hn : w1.cell? ⟨gn, 0, none⟩ = some (.int .i64 n) := (hb.cell (p := ⟨gn, 0, none⟩) HLN.out).trans ((blk_cell HN.out 0).trans rfl); have HB := Aside0.mk hb; clear hbox hb hg))
        go_ret
        exact ⟨by simp, HB.out⟩
      · have d3 : (x.f0.toList == s.toList) = false := by simpa using h3
        rw [d3]
        clear h3
        go_enter Try.func43, Try.ntmps43
        go_wp2_with (first | ((with_reducible refine gate_dst (N := 3) rfl ?_); refine box_event ?hg (N := 3) ?hd (cs := #[.string x.f0, .int .i64 x.f1, .int .i64 x.f2, .int .u32 x.f3, .slice p.1 x.f4.length p.2]) (t := 51) ?hr ?_; (case hd => rfl); (case hg => rfl); (case hr => first | (go_simp; done) | (go_simp; rfl)); intro ga hg w1 hbox hb; have BK := Aside0.mk hbox; have hz0 := (blk_cell BK.out 0).trans rfl; have hf0 := blk_frozen BK.out 0; have hz1 := (blk_cell BK.out 1).trans rfl; have hf1 := blk_frozen BK.out 1; have hz2 := (blk_cell BK.out 2).trans rfl; have hf2 := blk_frozen BK.out 2; have hz3 := (blk_cell BK.out 3).trans rfl; have hf3 := blk_frozen BK.out 3; have hz4 := (blk_cell BK.out 4).trans rfl; have hf4 := blk_frozen BK.out 4; have hs : w1.cell? ⟨gs, 0, none⟩ = some (.string s) := (hb.cell (p := ⟨gs, 0, none⟩) HLT.out).trans ((blk_cell HH.out 0).trans rfl); have hn : w1.cell? ⟨gn, 0, none⟩ = some (.int .i64 n) := (hb.cell (p := ⟨gn, 0, none⟩) HLN.out).trans ((blk_cell HN.out 0).trans rfl); have HB := Aside0.mk hb; clear hbox hb hg))
        go_ret
        exact ⟨by simp, HB.out⟩
    · have d2 : decide (0 ≤ n) = false := decide_eq_false h2
      rw [d2]
      clear h2
      go_enter Try.func43, Try.ntmps43
      go_wp2_with (first | ((with_reducible refine gate_dst (N := 3) rfl ?_); refine box_event ?hg (N := 3) ?hd (cs := #[.string x.f0, .int .i64 x.f1, .int .i64 x.f2, .int .u32 x.f3, .slice p.1 x.f4.length p.2]) (t := 51) ?hr ?_; (case hd => rfl); (case hg => rfl); (case hr => first | (go_simp; done) | (go_simp; rfl)); intro ga hg w1 hbox hb; have BK := Aside0.mk hbox; have hz0 := (blk_cell BK.out 0).trans rfl; have hf0 := blk_frozen BK.out 0; have hz1 := (blk_cell BK.out 1).trans rfl; have hf1 := blk_frozen BK.out 1; have hz2 := (blk_cell BK.out 2).trans rfl; have hf2 := blk_frozen BK.out 2; have hz3 := (blk_cell BK.out 3).trans rfl; have hf3 := blk_frozen BK.out 3; have hz4 := (blk_cell BK.out 4).trans rfl; have hf4 := blk_frozen BK.out 4; have hs : w1.cell? ⟨gs, 0, none⟩ = some (.string s) := (hb.cell (p := ⟨gs, 0, none⟩) HLT.out).trans ((blk_cell HH.out 0).trans rfl); have hn : w1.cell? ⟨gn, 0, none⟩ = some (.int .i64 n) := (hb.cell (p := ⟨gn, 0, none⟩) HLN.out).trans ((blk_cell HN.out 0).trans rfl); have HB := Aside0.mk hb; clear hbox hb hg))
      go_ret
      exact ⟨by simp, HB.out⟩
def lastP (P : S51 → Bool) (l : List S51) : Int × Bool := match l.reverse.findIdx? P with
  | some j => (((l.length - 1 - j : Nat) : Int), true)
  | none => (0, false)
theorem rev_at (l : List S51) (j : Nat) (h : j < l.length) : l.reverse[j]'(by rw [List.length_reverse]; exact h) = l.getD (l.length - 1 - j) z51 := by
  rw [List.getElem_reverse, List.getD_eq_getElem?_getD, List.getElem?_eq_getElem (by omega)]
  rfl
theorem lastP_none (P : S51 → Bool) (l : List S51) (h : ∀ j, j < l.length → P (l.getD (l.length - 1 - j) z51) = false) : lastP P l = (0, false) := by
  have : l.reverse.findIdx? P = none := by
    rw [List.findIdx?_eq_none_iff]
    intro x hx
    obtain ⟨j, hj, rfl⟩ := List.mem_iff_getElem.1 hx
    rw [List.length_reverse] at hj
    rw [rev_at l j hj]
    exact h j hj
  rw [lastP, this]
theorem lastP_some (P : S51 → Bool) (l : List S51) (j : Nat) (hj : j < l.length) (h0 : P (l.getD (l.length - 1 - j) z51) = true) (h : ∀ i, i < j → P (l.getD (l.length - 1 - i) z51) = false) : lastP P l = (((l.length - 1 - j : Nat) : Int), true) := by
  have : l.reverse.findIdx? P = some j := by
    rw [List.findIdx?_eq_some_iff_getElem]
    refine ⟨by rw [List.length_reverse]; exact hj, ?_, fun i hi => ?_⟩
    · rw [rev_at l j hj]; exact h0
    · rw [rev_at l i (by omega), h i hi]; simp
  rw [lastP, this]
/-- Where the words' codes lie. -/
def WordsAt (l : List S51) (ad : Addr) (V : Nat → Option Addr × Nat) (w : World) : Prop :=
  ∀ i, i < l.length → w.cell? (ad.add (i * 5)) = some (.string (l.getD i z51).f0) ∧ w.cell? ⟨(ad.add (i * 5)).block, (ad.add (i * 5)).off + 1, none⟩ = some (.int .i64 (l.getD i z51).f1) ∧ w.cell? ⟨(ad.add (i * 5)).block, (ad.add (i * 5)).off + 2, none⟩ = some (.int .i64 (l.getD i z51).f2) ∧ w.cell? ⟨(ad.add (i * 5)).block, (ad.add (i * 5)).off + 3, none⟩ = some (.int .u32 (l.getD i z51).f3) ∧ w.cell? ⟨(ad.add (i * 5)).block, (ad.add (i * 5)).off + 4, none⟩ = some (.slice (V i).1 (l.getD i z51).f4.length (V i).2)
theorem wordsAt_of (l : List S51) (A : Option Addr) (w : World) (h : Kd.C k51 w A l.length l) : ∃ (ad : Addr) (V : Nat → Option Addr × Nat), (0 < l.length → A = some ad) ∧ WordsAt l ad V w ∧ ∀ i, i < l.length → k69.C w (V i).1 (l.getD i z51).f4.length (l.getD i z51).f4 := by
  rcases Nat.eq_zero_or_pos l.length with h0 | h0
  · exact ⟨⟨0, 0, none⟩, fun _ => (none, 0), fun h2 => absurd h2 (by omega), fun i hi => absurd hi (by omega), fun i hi => absurd hi (by omega)⟩
  · obtain ⟨ad, _, _, hA, _⟩ := at_T51 h 0 (by omega) (by omega)
    have hx : ∀ i : Nat, ∃ p : Option Addr × Nat, i < l.length → (w.cell? (ad.add (i * 5)) = some (.string (l.getD i z51).f0) ∧ w.cell? ⟨(ad.add (i * 5)).block, (ad.add (i * 5)).off + 1, none⟩ = some (.int .i64 (l.getD i z51).f1) ∧ w.cell? ⟨(ad.add (i * 5)).block, (ad.add (i * 5)).off + 2, none⟩ = some (.int .i64 (l.getD i z51).f2) ∧ w.cell? ⟨(ad.add (i * 5)).block, (ad.add (i * 5)).off + 3, none⟩ = some (.int .u32 (l.getD i z51).f3) ∧ w.cell? ⟨(ad.add (i * 5)).block, (ad.add (i * 5)).off + 4, none⟩ = some (.slice p.1 (l.getD i z51).f4.length p.2)) ∧ k69.C w p.1 (l.getD i z51).f4.length (l.getD i z51).f4 := fun i => by
      by_cases hi : i < l.length
      · obtain ⟨ad2, A4, c4, e, h1, h2, h3, h4, h5, _, h6⟩ := at_T51 h i (by omega) (by omega)
        rw [hA] at e
        cases e
        exact ⟨(A4, c4), fun _ => ⟨⟨h1, h2, h3, h4, h5⟩, h6⟩⟩
      · exact ⟨(none, 0), fun h => absurd h hi⟩
    exact ⟨ad, fun i => (hx i).choose, fun _ => hA, fun i hi => ((hx i).choose_spec hi).1, fun i hi => ((hx i).choose_spec hi).2⟩
theorem wordsAt_below {l : List S51} {ad : Addr} {V : Nat → Option Addr × Nat} {w W : World} (h : WordsAt l ad V w) (hb : Below w.heap.size w W) : WordsAt l ad V W := fun i hi => by
  obtain ⟨h1, h2, h3, h4, h5⟩ := h i hi
  exact ⟨pw_cell_below hb h1, pw_cell_below hb h2, pw_cell_below hb h3, pw_cell_below hb h4, pw_cell_below hb h5⟩
/-- What slices.Backward hands on. -/
def backV (l : List S51) (V : Nat → Option Addr × Nat) (k : Nat) : Array Value := #[.int .i64 ((l.length - 1 - k : Nat) : Int), wV (l.getD (l.length - 1 - k) z51) (V (l.length - 1 - k))]
set_option maxHeartbeats 2000000 in
set_option maxRecDepth 100000 in
theorem back_seq (n : Nat) (hn : 2 ≤ n) (Bs : Nat) (A : Option Addr) (c : Nat) (l : List S51) (ad : Addr) (V : Nat → Option Addr × Nat) (hA : 0 < l.length → A = some ad) (hm : l.length ≤ 9223372036854775807) (w : World) (hBs : w.heap[Bs]? = some (.cells #[.slice A l.length c] 26 (0, 0))) (hV : WordsAt l ad V w) :
    SeqL n Try.prog 89 #[.pointer (some ⟨Bs, 0, none⟩)] AbA (Below w.heap.size) ((List.range l.length).map (backV l V)) w := by
  intro lp J Jx W hW hsz hJ hJx hY h0
  have hu51 := Try.underlying51
  have hu26 := Try.underlying26
  have HBs := Aside0.mk hBs
  have HV := Aside0.mk hV
  have HW := Aside0.mk hW
  have hLn : ((List.range l.length).map (backV l V)).length = l.length := by simp
  have hk1 : (IntKind.i64.wrap ((l.length : Int) - 1)) = (l.length : Int) - 1 := (i64_w _).trans (by unfold wrap64; omega)
  have hk2 : wrap64 ((l.length : Int) - 1) = (l.length : Int) - 1 := by unfold wrap64; omega
  have hcs := (blk_cell (blk_below HBs.out HW.out) 0).trans rfl
  clear hBs hV hW hsz
  refine callsIn_of_wp Try.func89 rfl trivial ?_ rfl
  simp only [Try.ntmps89, List.size_toArray, List.length_cons, List.length_nil, Nat.reduceAdd, Nat.reduceSub, Array.replicate_succ, Array.replicate_zero, List.push_toArray, List.append_toArray, List.nil_append, List.cons_append]
  have h1n : 1 ≤ n := by omega
  gi_wp2
  gi_loopw [3] (fun v wr => ∃ k : Nat, v = .int .i64 ((l.length : Int) - 1 - k) ∧ k ≤ l.length ∧ J k wr ∧ Below w.heap.size W wr) (fun v _ => (intOf v + 1).toNat)
  case atStart => exact ⟨0, by simp, by omega, h0, Below.refl _ _⟩
  case round =>
    obtain ⟨k, rfl, hk, hJk, hB0⟩ := hrel
    have hB := HW.out.trans hB0
    have HB0 := Aside0.mk hB0
    clear hcs hB0
    have hcs := (blk_cell (blk_below HBs.out hB) 0).trans rfl
    by_cases h : k = l.length
    · have e : (l.length : Int) - 1 - k = -1 := by omega
      rw [e]
      have HK := Aside0.mk h
      clear h hk e
      gi_wp2
      go_end0
      exact ⟨⟨_, rfl⟩, .inl (by rw [hLn, ← HK.out]; exact hJk)⟩
    · obtain ⟨i, hi⟩ : ∃ i, i = l.length - 1 - k := ⟨_, rfl⟩
      have e : (l.length : Int) - 1 - k = (i : Int) := by omega
      rw [e]
      have d1 : decide ((0 : Int) ≤ (i : Int)) = true := decide_eq_true (by omega)
      have hil : i < l.length := by omega
      obtain rfl := hA (by omega)
      obtain ⟨g0, g1, g2, g3, g4⟩ := wordsAt_below HV.out hB i hil
      obtain ⟨x, hx⟩ : ∃ x, x = l.getD i z51 := ⟨_, rfl⟩
      obtain ⟨q, hq⟩ : ∃ q, q = V i := ⟨_, rfl⟩
      rw [← hx] at g0 g1 g2 g3 g4
      rw [← hq] at g4
      have hki : k < ((List.range l.length).map (backV l V)).length := by omega
      have hL : ((List.range l.length).map (backV l V))[k] = #[.int .i64 (i : Int), .agg #[.string x.f0, .int .i64 x.f1, .int .i64 x.f2, .int .u32 x.f3, .slice q.1 x.f4.length q.2]] := by
        rw [List.getElem_map, List.getElem_range, backV, ← hi, ← hx, ← hq]
        rfl
      have q1 : (0 ≤ (i : Int)) = True := eq_true (by omega)
      have q2 : ((i : Int) < (l.length : Int)) = True := eq_true (by omega)
      have q3 : ((i : Int)).toNat = i := by omega
      have q4 : IntKind.i64.wrap ((i : Int) - 1) = (i : Int) - 1 := (i64_w _).trans (by unfold wrap64; omega)
      have q5 : wrap64 ((i : Int) - 1) = (i : Int) - 1 := by unfold wrap64; omega
      obtain ⟨fn, tmps, assign, body, hy, hR⟩ := hY k hki wr hJk
      rw [hL] at hy
      have HI := Aside0.mk hki
      have HX := Aside0.mk (show ((i : Int) - 1) = (l.length : Int) - 1 - ((k + 1 : Nat) : Int) ∧ k + 1 ≤ l.length from ⟨by omega, by omega⟩)
      clear hx hq hL e h hi hk hil hA
      gi_wp2
      refine hR.mono ?_
      rintro e W3 (⟨rfl, hJ3, hk3⟩ | ⟨rfl, hJx3⟩)
      · have hk4 : Below w.heap.size W W3 := HB0.out.trans hk3
        gi_wp2
        go_roundw
        case rel => exact ⟨k + 1, by rw [HX.out.1], HX.out.2, hJ3, hk4⟩
        case measure => first | (simp [intOf]; done) | (simp [intOf]; omega)
      · gi_wp2
        refine bodyPost_ret (results_none rfl _ _ _) rfl ?_
        exact ⟨⟨_, rfl⟩, .inr ⟨k + 1, by rw [hLn]; exact HX.out.2, hJx3⟩⟩
theorem back_in (A : Option Addr) (len cap : Nat) (w : World) :
    CallsIn Fence.wide 4 Try.prog 70 #[.slice A len cap] w fun e w' => e = .returned (.func (.func 89) #[] #[.pointer (some ⟨w.heap.size, 0, none⟩)]) ∧ w' = w.alloc (.cells #[.slice A len cap] 26) := by
  refine callsIn_of_wp Try.func70 rfl trivial ?_ rfl
  simp only [Try.ntmps70, List.size_toArray, List.length_cons, List.length_nil, Nat.reduceAdd, Nat.reduceSub, Array.replicate_succ, Array.replicate_zero, List.push_toArray, List.append_toArray, List.nil_append, List.cons_append]
  gi_wp2
  go_ret
  exact ⟨by simp, rfl⟩
def LastI (P : S51 → Bool) (l : List S51) (W0 : World) (k : Nat) (W : World) : Prop := (∀ j, j < k → P (l.getD (l.length - 1 - j) z51) = false) ∧ Below W0.heap.size W0 W
def LastX (P : S51 → Bool) (l : List S51) (w : World) (cc : Code) (k : Nat) (W : World) : Prop :=
  ((cc = .ret ∧ ∃ j : Nat, j < l.length ∧ P (l.getD (l.length - 1 - j) z51) = true ∧ (∀ i, i < j → P (l.getD (l.length - 1 - i) z51) = false) ∧ Boxed W (w.heap.size + 1 + 1) 3 (.int .i64 ((l.length - 1 - j : Nat) : Int))) ∧ Boxed W (w.heap.size + 1 + 1 + 1) 4 (.bool true)) ∧ Below w.heap.size w W
theorem lastI_own (P : S51 → Bool) (l : List S51) (W0 : World) (B : Nat) (hB : W0.heap.size ≤ B) : OwnFrom B (LastI P l W0) :=
  OwnFrom.and (fun _ _ _ _ h _ _ => h) (ownFrom_below (Nat.le_refl _) hB)
theorem lastX_own (P : S51 → Bool) (l : List S51) (w : World) (cc : Code) (B : Nat) (hB : w.heap.size ≤ B) : OwnFrom B (LastX P l w cc) :=
  OwnFrom.and (OwnFrom.and (fun s X Y row h hg hr => ⟨h.1, by obtain ⟨i, h1, h2, h3, h4⟩ := h.2; exact ⟨i, h1, h2, h3, (Own.from (boxed_own (β := Nat) _ _ (fun _ => .int .i64 ((l.length - 1 - i : Nat) : Int))) B) s X Y row h4 hg hr⟩⟩) (Own.from (boxed_own _ _ _) _)) (ownFrom_below (Nat.le_refl _) hB)
theorem lastI_abs (P : S51 → Bool) (l : List S51) (W0 : World) (k : Nat) (A B : World) (h : LastI P l W0 k A) (hab : AbA A B) : LastI P l W0 k B := ⟨h.1, below_ab h.2 hab⟩
theorem lastX_abs (P : S51 → Bool) (l : List S51) (w : World) (cc : Code) (k : Nat) (A B : World) (h : LastX P l w cc k A) (hab : AbA A B) : LastX P l w cc k B := by
  obtain ⟨⟨⟨h0, i, h1, h2, h3, h4⟩, h5⟩, h6⟩ := h
  exact ⟨⟨⟨h0, i, h1, h2, h3, boxed_below h4 hab⟩, boxed_below h5 hab⟩, below_ab h6 hab⟩
def AxL (l : List S51) (V : Nat → Option Addr × Nat) (n0 : Nat) (tm : Nat → Nat → S51 → Option Addr × Nat → Array Value) (k : Nat) (a' : Act) (W : World) : Prop :=
  ∃ b, n0 ≤ b ∧ (∃ x p, x = l.getD (l.length - 1 - k) z51 ∧ p = V (l.length - 1 - k) ∧ W.heap[b]? = some (.cells #[.string x.f0, .int .i64 x.f1, .int .i64 x.f2, .int .u32 x.f3, .slice p.1 x.f4.length p.2] 51 (0, 0)) ∧ a' = { tmps := tm (l.length - 1 - k) b x p, defers := [] })
theorem blk_put_obj {b l : Nat} {W : World} {o o' : Obj} {cs : Array Value} {t : TypeId} (ho : W.heap[l]? = some o) (hc : o.isCells = false) (e : W.heap[b]? = some (.cells cs t (0, 0))) : (W.putObj l o').heap[b]? = some (.cells cs t (0, 0)) := by
  have hne : l ≠ b := by
    intro h2
    subst h2
    rw [ho] at e
    cases e
    cases hc
  exact (World.putObj_heap_other (fun h2 => hne h2.symm)).trans e
theorem axL_put (l : List S51) (V : Nat → Option Addr × Nat) (n0 : Nat) (tm : Nat → Nat → S51 → Option Addr × Nat → Array Value) (k : Nat) (a' : Act) (W : World) (lp : Nat) (o o' : Obj) (ho : W.heap[lp]? = some o) (hc : o.isCells = false) (h : AxL l V n0 tm k a' W) : AxL l V n0 tm k a' (W.putObj lp o') := by
  obtain ⟨b, hb0, x, p, hx, hp, hb, rfl⟩ := h
  exact ⟨b, hb0, x, p, hx, hp, blk_put_obj ho hc hb, rfl⟩
set_option maxHeartbeats 4000000 in
set_option maxRecDepth 100000 in
theorem last40_calls (P : S51 → Bool) (gb : Nat) (v0 v1 : Value) (A : Option Addr) (c : Nat) (l : List S51) (v3 : Value) (a4 : Int) (v5 : Value) (a6 : Int) (v7 : Value) (a8 : Int) (a9 : ByteArray) (w : World) (hC : Kd.C k51 w A l.length l)
    (hF : ∀ X : World, Below w.heap.size w X → ∀ (x : S51) (p : Option Addr × Nat), Calls Try.prog 40 #[.agg #[.string x.f0, .int .i64 x.f1, .int .i64 x.f2, .int .u32 x.f3, .slice p.1 x.f4.length p.2], .pointer (some ⟨gb, 0, none⟩)] X fun e w' => e = .returned (.bool (P x)) ∧ Below X.heap.size X w') :
    Calls Try.prog 39 #[.agg #[v0, v1, .slice A l.length c, v3, .int .u32 a4, v5, .int .i64 a6, v7, .int .i64 a8, .string a9], .func (.func 40) #[] #[.pointer (some ⟨gb, 0, none⟩)]] w fun e w' => e = .returned (.tuple #[.int .i64 (lastP P l).1, .bool (lastP P l).2]) ∧ Below w.heap.size w w' := by
  refine (callsIn_wide (n := 5)).1 ?_
  have hu51 := Try.underlying51
  obtain ⟨ad, V, hA, hV, _⟩ := wordsAt_of l A w hC
  have hm := Kd.C_max hC
  have HF := Aside0.mk hF
  have HV := Aside0.mk hV
  have HA := Aside0.mk hA
  have HM := Aside0.mk hm
  obtain ⟨R, hR⟩ : ∃ R, R = lastP P l := ⟨_, rfl⟩
  rw [← hR]
  obtain ⟨r1, r2⟩ := R
  have HR := Aside0.mk hR
  clear hR hF hV hA hC hm
  refine callsIn_of_wp_marks Try.func39 rfl trivial ?_ rfl
  simp only [Try.ntmps39, List.size_toArray, List.length_cons, List.length_nil, Nat.reduceAdd, Nat.reduceSub, Array.replicate_succ, Array.replicate_zero, List.push_toArray, List.append_toArray, List.nil_append, List.cons_append]
  gi_wp2_with (refine ⟨trivial, ?_⟩; gi_at_call 70; refine (back_in _ _ _ _).mono ?_; rintro e w' ⟨rfl, rfl⟩)
  obtain ⟨W0, hW0⟩ : ∃ W0, W0 = ((((w.alloc (.cells #[v0, v1, .slice A l.length c, v3, .int .u32 a4, v5, .int .i64 a6, v7, .int .i64 a8, .string a9] 32)).alloc (.cells #[.func (.func 40) #[] #[.pointer (some ⟨gb, 0, none⟩)]] 65)).alloc (.cells #[.int .i64 0] 3)).alloc (.cells #[.bool false] 4)).alloc (.cells #[.slice A l.length c] 26) := ⟨_, rfl⟩
  have b1 : Boxed W0 (w.heap.size + 1) 65 (.func (.func 40) #[] #[.pointer (some ⟨gb, 0, none⟩)]) := by
    rw [hW0]
    have h := (((Boxed.new (w.alloc (.cells #[v0, v1, .slice A l.length c, v3, .int .u32 a4, v5, .int .i64 a6, v7, .int .i64 a8, .string a9] 32)) 65 (.func (.func 40) #[] #[.pointer (some ⟨gb, 0, none⟩)])).alloc (.cells #[.int .i64 0] 3)).alloc (.cells #[.bool false] 4)).alloc (.cells #[.slice A l.length c] 26)
    rw [World.size_alloc] at h
    exact h
  have b2 : Boxed W0 (w.heap.size + 1 + 1) 3 (.int .i64 0) := by
    rw [hW0]
    have h := ((Boxed.new ((w.alloc (.cells #[v0, v1, .slice A l.length c, v3, .int .u32 a4, v5, .int .i64 a6, v7, .int .i64 a8, .string a9] 32)).alloc (.cells #[.func (.func 40) #[] #[.pointer (some ⟨gb, 0, none⟩)]] 65)) 3 (.int .i64 0)).alloc (.cells #[.bool false] 4)).alloc (.cells #[.slice A l.length c] 26)
    rw [World.size_alloc, World.size_alloc] at h
    exact h
  have b3 : Boxed W0 (w.heap.size + 1 + 1 + 1) 4 (.bool false) := by
    rw [hW0]
    have h := (Boxed.new (((w.alloc (.cells #[v0, v1, .slice A l.length c, v3, .int .u32 a4, v5, .int .i64 a6, v7, .int .i64 a8, .string a9] 32)).alloc (.cells #[.func (.func 40) #[] #[.pointer (some ⟨gb, 0, none⟩)]] 65)).alloc (.cells #[.int .i64 0] 3)) 4 (.bool false)).alloc (.cells #[.slice A l.length c] 26)
    rw [World.size_alloc, World.size_alloc, World.size_alloc] at h
    exact h
  have b4 : W0.heap[w.heap.size + 1 + 1 + 1 + 1]? = some (.cells #[.slice A l.length c] 26 (0, 0)) := by
    rw [hW0]
    have h := blk_new ((((w.alloc (.cells #[v0, v1, .slice A l.length c, v3, .int .u32 a4, v5, .int .i64 a6, v7, .int .i64 a8, .string a9] 32)).alloc (.cells #[.func (.func 40) #[] #[.pointer (some ⟨gb, 0, none⟩)]] 65)).alloc (.cells #[.int .i64 0] 3)).alloc (.cells #[.bool false] 4)) (.cells #[.slice A l.length c] 26 (0, 0))
    rw [World.size_alloc, World.size_alloc, World.size_alloc, World.size_alloc] at h
    exact h
  have hB0 : Below w.heap.size w W0 := by rw [hW0]; exact below_alloc (below_alloc (below_alloc (below_alloc (below_alloc (Below.refl _ _) _) _) _) _) _
  have hs0 : W0.heap.size = w.heap.size + 5 := by rw [hW0]; simp
  rw [← hW0]
  clear hW0
  have hLl : ((List.range l.length).map (backV l V)).length = l.length := by simp
  refine wp_rangeL (by omega) (gf := 89) (lb := #[.pointer (some ⟨w.heap.size + 1 + 1 + 1 + 1, 0, none⟩)]) rfl (enters_of Try.func89 (by kernel_rfl) rfl)
    (back_seq 4 (by decide) _ A c l ad V HA.out HM.out W0 b4 (wordsAt_below HV.out hB0)) abA_keeps (fun h k => h.trans k) (fun W lp o o' hl ho hoc hwk => belowK_b (w := W0) (Nat.le_refl _) W lp o o' hl ho hoc hwk) ?hps
    (LastI P l W0) (LastX P l w) (lastI_own P l W0 _ (Nat.le_refl _)) (fun cc => lastX_own P l w cc _ (by omega)) (lastI_abs P l W0) (lastX_abs P l w)
    ⟨fun j hj => absurd hj (by omega), Below.refl _ _⟩
    (AxL l V w.heap.size (fun i b x p => #[.agg #[v0, v1, .slice A l.length c, v3, .int .u32 a4, v5, .int .i64 a6, v7, .int .i64 a8, .string a9], .func (.func 40) #[] #[.pointer (some ⟨gb, 0, none⟩)], .pointer (some ⟨w.heap.size, 0, none⟩), .pointer (some ⟨w.heap.size + 1, 0, none⟩), .pointer (some ⟨w.heap.size + 1 + 1, 0, none⟩), .pointer (some ⟨w.heap.size + 1 + 1 + 1, 0, none⟩), .int .i64 (i : Int), .pointer (some ⟨b, 0, none⟩), .pointer (some ⟨w.heap.size, 2, none⟩), .slice A l.length c, .func (.func 89) #[] #[.pointer (some ⟨w.heap.size + 1 + 1 + 1 + 1, 0, none⟩)], .int .i64 (i : Int), .agg #[.string x.f0, .int .i64 x.f1, .int .i64 x.f2, .int .u32 x.f3, .slice p.1 x.f4.length p.2], undef, undef, undef, undef])) (fun k a' W lp o o' hl ho hc h => axL_put _ _ _ _ k a' W lp o o' ho hc h) ?assign ?body ?done ?stop
  case hps =>
    intro x hx
    obtain ⟨p, _, rfl⟩ := List.mem_map.1 hx
    rfl
  case assign =>
    intro l' k hk W K hI hK
    obtain ⟨i, hi⟩ : ∃ i, i = l.length - 1 - k := ⟨_, rfl⟩
    obtain ⟨x, hx⟩ : ∃ x, x = l.getD i z51 := ⟨_, rfl⟩
    obtain ⟨p, hp⟩ : ∃ p, p = V i := ⟨_, rfl⟩
    have e : ((List.range l.length).map (backV l V))[k] = #[.int .i64 (i : Int), .agg #[.string x.f0, .int .i64 x.f1, .int .i64 x.f2, .int .u32 x.f3, .slice p.1 x.f4.length p.2]] := by
      rw [List.getElem_map, List.getElem_range, backV, ← hi, ← hx, ← hp]
      rfl
    rw [e]
    have hab : AbA W (W.alloc (.cells #[.string x.f0, .int .i64 x.f1, .int .i64 x.f2, .int .u32 x.f3, .slice p.1 x.f4.length p.2] 51 (0, 0))) := below_alloc (Below.refl _ _) _
    have hK2 := hK { tmps := (fun i b x p => #[.agg #[v0, v1, .slice A l.length c, v3, .int .u32 a4, v5, .int .i64 a6, v7, .int .i64 a8, .string a9], .func (.func 40) #[] #[.pointer (some ⟨gb, 0, none⟩)], .pointer (some ⟨w.heap.size, 0, none⟩), .pointer (some ⟨w.heap.size + 1, 0, none⟩), .pointer (some ⟨w.heap.size + 1 + 1, 0, none⟩), .pointer (some ⟨w.heap.size + 1 + 1 + 1, 0, none⟩), .int .i64 (i : Int), .pointer (some ⟨b, 0, none⟩), .pointer (some ⟨w.heap.size, 2, none⟩), .slice A l.length c, .func (.func 89) #[] #[.pointer (some ⟨w.heap.size + 1 + 1 + 1 + 1, 0, none⟩)], .int .i64 (i : Int), .agg #[.string x.f0, .int .i64 x.f1, .int .i64 x.f2, .int .u32 x.f3, .slice p.1 x.f4.length p.2], undef, undef, undef, undef]) i W.heap.size x p, defers := [] } (W.alloc (.cells #[.string x.f0, .int .i64 x.f1, .int .i64 x.f2, .int .u32 x.f3, .slice p.1 x.f4.length p.2] 51 (0, 0))) ⟨W.heap.size, Nat.le_trans hB0.size hI.2.size, x, p, by rw [← hi]; exact hx, by rw [← hi]; exact hp, blk_new W _, by rw [← hi]⟩ (KeepsOthers.alloc _ _) (hab.mono hI.2.size) (lastI_abs P l W0 k _ _ hI hab)
    clear e hx hK hI hi hp
    gi_wp2
    exact hK2
  case body =>
    rintro l' k a' W hk0 ⟨b, hb0, x, p, hx, hp, hbx, rfl⟩ ⟨hne, hB⟩
    have hk : k < l.length := by omega
    have h1 := boxed_below b1 hB
    have h2 := boxed_below b2 hB
    have h3 := boxed_below b3 hB
    have hBw : Below w.heap.size w W := hB0.trans (hB.mono (by omega))
    obtain ⟨i, hi⟩ : ∃ i, i = l.length - 1 - k := ⟨_, rfl⟩
    rw [← hi] at hx hp
    rw [← hi]
    have cx0 := (blk_cell hbx 0).trans rfl
    have cx1 := (blk_cell hbx 1).trans rfl
    have cx2 := (blk_cell hbx 2).trans rfl
    have cx3 := (blk_cell hbx 3).trans rfl
    have cx4 := (blk_cell hbx 4).trans rfl
    have hc1 := h1.cell
    have HC := Aside0.mk (HF.out W hBw x p)
    have HX := Aside0.mk hx
    have HI := Aside0.mk hi
    have HK := Aside0.mk hk
    cases hd : P x with
    | true =>
      rw [hd] at HC
      have HD := Aside0.mk hd
      clear hx hp hi hk0 hd hk hbx
      gi_wp2_with (refine ⟨trivial, ?_⟩; gi_at_call 40; refine (CallsIn.inRound l' (callsIn_wide.2 HC.out)).mono ?_; rintro e X ⟨rfl, hbX⟩; have g2 := boxed_below h2 hbX; have g3 := boxed_below h3 hbX; have hc2 := g2.cell; have hf2 := g2.frozen; have hc3 := g3.cell; have hf3 := g3.frozen)
      have hi := HI.out
      exact ⟨(KeepsOthers.of_grownBy (grown_of_below hbX none) (fun _ _ h => by cases h)).trans ((KeepsOthers.setCell _ _ _).trans (KeepsOthers.setCell _ _ _)), ⟨⟨rfl, k, HK.out, by rw [← hi, ← HX.out]; exact HD.out, hne, by rw [← hi]; exact (g2.set _).other (by omega) _⟩, (g3.other (by omega) _).set _⟩, below_set (below_set (below_step hBw hbX) (by omega)) (by omega)⟩
    | false =>
      rw [hd] at HC
      have HD := Aside0.mk hd
      clear hx hp hi hk0 hd hk hbx
      gi_wp2_with (refine ⟨trivial, ?_⟩; gi_at_call 40; refine (CallsIn.inRound l' (callsIn_wide.2 HC.out)).mono ?_; rintro e X ⟨rfl, hbX⟩)
      have hi := HI.out
      exact ⟨KeepsOthers.of_grownBy (grown_of_below hbX none) (fun _ _ h => by cases h), hbX.mono hB.size, ⟨fun j hj => by
        rcases Nat.lt_or_eq_of_le (Nat.le_of_lt_succ hj) with h | h
        · exact hne j h
        · rw [h, ← hi, ← HX.out]; exact HD.out, below_step hB hbX⟩⟩
  case done =>
    rintro D W hD ⟨hne, hB1⟩ hK
    have h2 := boxed_below b2 hB1
    have h3 := boxed_below b3 hB1
    have hB : Below w.heap.size w W := hB0.trans (hB1.mono (by omega))
    rw [hLl] at hne
    have hpr := lastP_none P l hne
    obtain ⟨rfl, rfl⟩ := Prod.mk.injEq .. ▸ (HR.out.trans hpr)
    have hc2 := h2.cell
    have hf2 := h2.frozen
    have hc3 := h3.cell
    have hf3 := h3.frozen
    clear hpr
    gi_wp2
    exact cells_end 39 _ Try.results39 w _ _ _ D ⟨by omega, by omega, by omega⟩ _ _ _ rfl rfl (((KeepsOthers.setCell _ _ _).trans (KeepsOthers.setCell _ _ _)).same D _ hK rfl) ((h2.set _).other (by omega) _) ((h3.other (by omega) _).set _) (below_set (below_set hB (by omega)) (by omega))
  case stop =>
    rintro D cc k W hD hkk ⟨⟨⟨rfl, j, hj, hx, hne, h2⟩, h3⟩, hB⟩ hK
    obtain ⟨rfl, rfl⟩ := Prod.mk.injEq .. ▸ (HR.out.trans (lastP_some P l j hj hx hne))
    clear hx
    gi_wp2
    exact cells_end 39 _ Try.results39 w _ _ _ D ⟨by omega, by omega, by omega⟩ _ _ _ rfl rfl hK h2 h3 hB
set_option maxHeartbeats 4000000 in
set_option maxRecDepth 100000 in
theorem last43_calls (P : S51 → Bool) (gs gn : Nat) (v0 v1 : Value) (A : Option Addr) (c : Nat) (l : List S51) (v3 : Value) (a4 : Int) (v5 : Value) (a6 : Int) (v7 : Value) (a8 : Int) (a9 : ByteArray) (w : World) (hC : Kd.C k51 w A l.length l)
    (hF : ∀ X : World, Below w.heap.size w X → ∀ (x : S51) (p : Option Addr × Nat), Calls Try.prog 43 #[.agg #[.string x.f0, .int .i64 x.f1, .int .i64 x.f2, .int .u32 x.f3, .slice p.1 x.f4.length p.2], .pointer (some ⟨gs, 0, none⟩), .pointer (some ⟨gn, 0, none⟩)] X fun e w' => e = .returned (.bool (P x)) ∧ Below X.heap.size X w') :
    Calls Try.prog 39 #[.agg #[v0, v1, .slice A l.length c, v3, .int .u32 a4, v5, .int .i64 a6, v7, .int .i64 a8, .string a9], .func (.func 43) #[] #[.pointer (some ⟨gs, 0, none⟩), .pointer (some ⟨gn, 0, none⟩)]] w fun e w' => e = .returned (.tuple #[.int .i64 (lastP P l).1, .bool (lastP P l).2]) ∧ Below w.heap.size w w' := by
  refine (callsIn_wide (n := 5)).1 ?_
  have hu51 := Try.underlying51
  obtain ⟨ad, V, hA, hV, _⟩ := wordsAt_of l A w hC
  have hm := Kd.C_max hC
  have HF := Aside0.mk hF
  have HV := Aside0.mk hV
  have HA := Aside0.mk hA
  have HM := Aside0.mk hm
  obtain ⟨R, hR⟩ : ∃ R, R = lastP P l := ⟨_, rfl⟩
  rw [← hR]
  obtain ⟨r1, r2⟩ := R
  have HR := Aside0.mk hR
  clear hR hF hV hA hC hm
  refine callsIn_of_wp_marks Try.func39 rfl trivial ?_ rfl
  simp only [Try.ntmps39, List.size_toArray, List.length_cons, List.length_nil, Nat.reduceAdd, Nat.reduceSub, Array.replicate_succ, Array.replicate_zero, List.push_toArray, List.append_toArray, List.nil_append, List.cons_append]
  gi_wp2_with (refine ⟨trivial, ?_⟩; gi_at_call 70; refine (back_in _ _ _ _).mono ?_; rintro e w' ⟨rfl, rfl⟩)
  obtain ⟨W0, hW0⟩ : ∃ W0, W0 = ((((w.alloc (.cells #[v0, v1, .slice A l.length c, v3, .int .u32 a4, v5, .int .i64 a6, v7, .int .i64 a8, .string a9] 32)).alloc (.cells #[.func (.func 43) #[] #[.pointer (some ⟨gs, 0, none⟩), .pointer (some ⟨gn, 0, none⟩)]] 65)).alloc (.cells #[.int .i64 0] 3)).alloc (.cells #[.bool false] 4)).alloc (.cells #[.slice A l.length c] 26) := ⟨_, rfl⟩
  have b1 : Boxed W0 (w.heap.size + 1) 65 (.func (.func 43) #[] #[.pointer (some ⟨gs, 0, none⟩), .pointer (some ⟨gn, 0, none⟩)]) := by
    rw [hW0]
    have h := (((Boxed.new (w.alloc (.cells #[v0, v1, .slice A l.length c, v3, .int .u32 a4, v5, .int .i64 a6, v7, .int .i64 a8, .string a9] 32)) 65 (.func (.func 43) #[] #[.pointer (some ⟨gs, 0, none⟩), .pointer (some ⟨gn, 0, none⟩)])).alloc (.cells #[.int .i64 0] 3)).alloc (.cells #[.bool false] 4)).alloc (.cells #[.slice A l.length c] 26)
    rw [World.size_alloc] at h
    exact h
  have b2 : Boxed W0 (w.heap.size + 1 + 1) 3 (.int .i64 0) := by
    rw [hW0]
    have h := ((Boxed.new ((w.alloc (.cells #[v0, v1, .slice A l.length c, v3, .int .u32 a4, v5, .int .i64 a6, v7, .int .i64 a8, .string a9] 32)).alloc (.cells #[.func (.func 43) #[] #[.pointer (some ⟨gs, 0, none⟩), .pointer (some ⟨gn, 0, none⟩)]] 65)) 3 (.int .i64 0)).alloc (.cells #[.bool false] 4)).alloc (.cells #[.slice A l.length c] 26)
    rw [World.size_alloc, World.size_alloc] at h
    exact h
  have b3 : Boxed W0 (w.heap.size + 1 + 1 + 1) 4 (.bool false) := by
    rw [hW0]
    have h := (Boxed.new (((w.alloc (.cells #[v0, v1, .slice A l.length c, v3, .int .u32 a4, v5, .int .i64 a6, v7, .int .i64 a8, .string a9] 32)).alloc (.cells #[.func (.func 43) #[] #[.pointer (some ⟨gs, 0, none⟩), .pointer (some ⟨gn, 0, none⟩)]] 65)).alloc (.cells #[.int .i64 0] 3)) 4 (.bool false)).alloc (.cells #[.slice A l.length c] 26)
    rw [World.size_alloc, World.size_alloc, World.size_alloc] at h
    exact h
  have b4 : W0.heap[w.heap.size + 1 + 1 + 1 + 1]? = some (.cells #[.slice A l.length c] 26 (0, 0)) := by
    rw [hW0]
    have h := blk_new ((((w.alloc (.cells #[v0, v1, .slice A l.length c, v3, .int .u32 a4, v5, .int .i64 a6, v7, .int .i64 a8, .string a9] 32)).alloc (.cells #[.func (.func 43) #[] #[.pointer (some ⟨gs, 0, none⟩), .pointer (some ⟨gn, 0, none⟩)]] 65)).alloc (.cells #[.int .i64 0] 3)).alloc (.cells #[.bool false] 4)) (.cells #[.slice A l.length c] 26 (0, 0))
    rw [World.size_alloc, World.size_alloc, World.size_alloc, World.size_alloc] at h
    exact h
  have hB0 : Below w.heap.size w W0 := by rw [hW0]; exact below_alloc (below_alloc (below_alloc (below_alloc (below_alloc (Below.refl _ _) _) _) _) _) _
  have hs0 : W0.heap.size = w.heap.size + 5 := by rw [hW0]; simp
  rw [← hW0]
  clear hW0
  have hLl : ((List.range l.length).map (backV l V)).length = l.length := by simp
  refine wp_rangeL (by omega) (gf := 89) (lb := #[.pointer (some ⟨w.heap.size + 1 + 1 + 1 + 1, 0, none⟩)]) rfl (enters_of Try.func89 (by kernel_rfl) rfl)
    (back_seq 4 (by decide) _ A c l ad V HA.out HM.out W0 b4 (wordsAt_below HV.out hB0)) abA_keeps (fun h k => h.trans k) (fun W lp o o' hl ho hoc hwk => belowK_b (w := W0) (Nat.le_refl _) W lp o o' hl ho hoc hwk) ?hps
    (LastI P l W0) (LastX P l w) (lastI_own P l W0 _ (Nat.le_refl _)) (fun cc => lastX_own P l w cc _ (by omega)) (lastI_abs P l W0) (lastX_abs P l w)
    ⟨fun j hj => absurd hj (by omega), Below.refl _ _⟩
    (AxL l V w.heap.size (fun i b x p => #[.agg #[v0, v1, .slice A l.length c, v3, .int .u32 a4, v5, .int .i64 a6, v7, .int .i64 a8, .string a9], .func (.func 43) #[] #[.pointer (some ⟨gs, 0, none⟩), .pointer (some ⟨gn, 0, none⟩)], .pointer (some ⟨w.heap.size, 0, none⟩), .pointer (some ⟨w.heap.size + 1, 0, none⟩), .pointer (some ⟨w.heap.size + 1 + 1, 0, none⟩), .pointer (some ⟨w.heap.size + 1 + 1 + 1, 0, none⟩), .int .i64 (i : Int), .pointer (some ⟨b, 0, none⟩), .pointer (some ⟨w.heap.size, 2, none⟩), .slice A l.length c, .func (.func 89) #[] #[.pointer (some ⟨w.heap.size + 1 + 1 + 1 + 1, 0, none⟩)], .int .i64 (i : Int), .agg #[.string x.f0, .int .i64 x.f1, .int .i64 x.f2, .int .u32 x.f3, .slice p.1 x.f4.length p.2], undef, undef, undef, undef])) (fun k a' W lp o o' hl ho hc h => axL_put _ _ _ _ k a' W lp o o' ho hc h) ?assign ?body ?done ?stop
  case hps =>
    intro x hx
    obtain ⟨p, _, rfl⟩ := List.mem_map.1 hx
    rfl
  case assign =>
    intro l' k hk W K hI hK
    obtain ⟨i, hi⟩ : ∃ i, i = l.length - 1 - k := ⟨_, rfl⟩
    obtain ⟨x, hx⟩ : ∃ x, x = l.getD i z51 := ⟨_, rfl⟩
    obtain ⟨p, hp⟩ : ∃ p, p = V i := ⟨_, rfl⟩
    have e : ((List.range l.length).map (backV l V))[k] = #[.int .i64 (i : Int), .agg #[.string x.f0, .int .i64 x.f1, .int .i64 x.f2, .int .u32 x.f3, .slice p.1 x.f4.length p.2]] := by
      rw [List.getElem_map, List.getElem_range, backV, ← hi, ← hx, ← hp]
      rfl
    rw [e]
    have hab : AbA W (W.alloc (.cells #[.string x.f0, .int .i64 x.f1, .int .i64 x.f2, .int .u32 x.f3, .slice p.1 x.f4.length p.2] 51 (0, 0))) := below_alloc (Below.refl _ _) _
    have hK2 := hK { tmps := (fun i b x p => #[.agg #[v0, v1, .slice A l.length c, v3, .int .u32 a4, v5, .int .i64 a6, v7, .int .i64 a8, .string a9], .func (.func 43) #[] #[.pointer (some ⟨gs, 0, none⟩), .pointer (some ⟨gn, 0, none⟩)], .pointer (some ⟨w.heap.size, 0, none⟩), .pointer (some ⟨w.heap.size + 1, 0, none⟩), .pointer (some ⟨w.heap.size + 1 + 1, 0, none⟩), .pointer (some ⟨w.heap.size + 1 + 1 + 1, 0, none⟩), .int .i64 (i : Int), .pointer (some ⟨b, 0, none⟩), .pointer (some ⟨w.heap.size, 2, none⟩), .slice A l.length c, .func (.func 89) #[] #[.pointer (some ⟨w.heap.size + 1 + 1 + 1 + 1, 0, none⟩)], .int .i64 (i : Int), .agg #[.string x.f0, .int .i64 x.f1, .int .i64 x.f2, .int .u32 x.f3, .slice p.1 x.f4.length p.2], undef, undef, undef, undef]) i W.heap.size x p, defers := [] } (W.alloc (.cells #[.string x.f0, .int .i64 x.f1, .int .i64 x.f2, .int .u32 x.f3, .slice p.1 x.f4.length p.2] 51 (0, 0))) ⟨W.heap.size, Nat.le_trans hB0.size hI.2.size, x, p, by rw [← hi]; exact hx, by rw [← hi]; exact hp, blk_new W _, by rw [← hi]⟩ (KeepsOthers.alloc _ _) (hab.mono hI.2.size) (lastI_abs P l W0 k _ _ hI hab)
    clear e hx hK hI hi hp
    gi_wp2
    exact hK2
  case body =>
    rintro l' k a' W hk0 ⟨b, hb0, x, p, hx, hp, hbx, rfl⟩ ⟨hne, hB⟩
    have hk : k < l.length := by omega
    have h1 := boxed_below b1 hB
    have h2 := boxed_below b2 hB
    have h3 := boxed_below b3 hB
    have hBw : Below w.heap.size w W := hB0.trans (hB.mono (by omega))
    obtain ⟨i, hi⟩ : ∃ i, i = l.length - 1 - k := ⟨_, rfl⟩
    rw [← hi] at hx hp
    rw [← hi]
    have cx0 := (blk_cell hbx 0).trans rfl
    have cx1 := (blk_cell hbx 1).trans rfl
    have cx2 := (blk_cell hbx 2).trans rfl
    have cx3 := (blk_cell hbx 3).trans rfl
    have cx4 := (blk_cell hbx 4).trans rfl
    have hc1 := h1.cell
    have HC := Aside0.mk (HF.out W hBw x p)
    have HX := Aside0.mk hx
    have HI := Aside0.mk hi
    have HK := Aside0.mk hk
    cases hd : P x with
    | true =>
      rw [hd] at HC
      have HD := Aside0.mk hd
      clear hx hp hi hk0 hd hk hbx
      gi_wp2_with (refine ⟨trivial, ?_⟩; gi_at_call 43; refine (CallsIn.inRound l' (callsIn_wide.2 HC.out)).mono ?_; rintro e X ⟨rfl, hbX⟩; have g2 := boxed_below h2 hbX; have g3 := boxed_below h3 hbX; have hc2 := g2.cell; have hf2 := g2.frozen; have hc3 := g3.cell; have hf3 := g3.frozen)
      have hi := HI.out
      exact ⟨(KeepsOthers.of_grownBy (grown_of_below hbX none) (fun _ _ h => by cases h)).trans ((KeepsOthers.setCell _ _ _).trans (KeepsOthers.setCell _ _ _)), ⟨⟨rfl, k, HK.out, by rw [← hi, ← HX.out]; exact HD.out, hne, by rw [← hi]; exact (g2.set _).other (by omega) _⟩, (g3.other (by omega) _).set _⟩, below_set (below_set (below_step hBw hbX) (by omega)) (by omega)⟩
    | false =>
      rw [hd] at HC
      have HD := Aside0.mk hd
      clear hx hp hi hk0 hd hk hbx
      gi_wp2_with (refine ⟨trivial, ?_⟩; gi_at_call 43; refine (CallsIn.inRound l' (callsIn_wide.2 HC.out)).mono ?_; rintro e X ⟨rfl, hbX⟩)
      have hi := HI.out
      exact ⟨KeepsOthers.of_grownBy (grown_of_below hbX none) (fun _ _ h => by cases h), hbX.mono hB.size, ⟨fun j hj => by
        rcases Nat.lt_or_eq_of_le (Nat.le_of_lt_succ hj) with h | h
        · exact hne j h
        · rw [h, ← hi, ← HX.out]; exact HD.out, below_step hB hbX⟩⟩
  case done =>
    rintro D W hD ⟨hne, hB1⟩ hK
    have h2 := boxed_below b2 hB1
    have h3 := boxed_below b3 hB1
    have hB : Below w.heap.size w W := hB0.trans (hB1.mono (by omega))
    rw [hLl] at hne
    have hpr := lastP_none P l hne
    obtain ⟨rfl, rfl⟩ := Prod.mk.injEq .. ▸ (HR.out.trans hpr)
    have hc2 := h2.cell
    have hf2 := h2.frozen
    have hc3 := h3.cell
    have hf3 := h3.frozen
    clear hpr
    gi_wp2
    exact cells_end 39 _ Try.results39 w _ _ _ D ⟨by omega, by omega, by omega⟩ _ _ _ rfl rfl (((KeepsOthers.setCell _ _ _).trans (KeepsOthers.setCell _ _ _)).same D _ hK rfl) ((h2.set _).other (by omega) _) ((h3.other (by omega) _).set _) (below_set (below_set hB (by omega)) (by omega))
  case stop =>
    rintro D cc k W hD hkk ⟨⟨⟨rfl, j, hj, hx, hne, h2⟩, h3⟩, hB⟩ hK
    obtain ⟨rfl, rfl⟩ := Prod.mk.injEq .. ▸ (HR.out.trans (lastP_some P l j hj hx hne))
    clear hx
    gi_wp2
    exact cells_end 39 _ Try.results39 w _ _ _ D ⟨by omega, by omega, by omega⟩ _ _ _ rfl rfl hK h2 h3 hB
set_option maxHeartbeats 1000000 in
set_option maxRecDepth 100000 in
theorem find_calls (v0 v1 : Value) (A : Option Addr) (c : Nat) (l : List S51) (v3 : Value) (a4 : Int) (v5 : Value) (a6 : Int) (v7 : Value) (a8 : Int) (a9 : ByteArray) (s : ByteArray) (w : World) (hC : Kd.C k51 w A l.length l) :
    Calls Try.prog 16 #[.agg #[v0, v1, .slice A l.length c, v3, .int .u32 a4, v5, .int .i64 a6, v7, .int .i64 a8, .string a9], .string s] w fun e w' => e = .returned (.tuple #[.int .i64 (lastP (isN51 s) l).1, .bool (lastP (isN51 s) l).2]) ∧ Below w.heap.size w w' := by
  have HC := Aside0.mk hC
  obtain ⟨R, hR⟩ : ∃ R, R = lastP (isN51 s) l := ⟨_, rfl⟩
  rw [← hR]
  have HL := Aside0.mk (fun (X : World) (gb : Nat) (hX : Below w.heap.size w X) (hg : X.heap[gb]? = some (.cells #[.string s] 9 (0, 0))) => last40_calls (isN51 s) gb v0 v1 A c l v3 a4 v5 a6 v7 a8 a9 X (Kd.C_below hC hX) (fun Y hY x p => findC_calls s gb x p Y (blk_below hg hY)))
  simp only [← hR] at HL
  clear hR hC
  have hb := blk_new (w.alloc (.cells #[v0, v1, .slice A l.length c, v3, .int .u32 a4, v5, .int .i64 a6, v7, .int .i64 a8, .string a9] 32 (0, 0))) (.cells #[.string s] 9 (0, 0))
  rw [World.size_alloc] at hb
  have HBK := Aside0.mk hb
  clear hb
  go_enter Try.func16, Try.ntmps16
  go_wp2_with (go_at_call 39; refine (HL.out _ _ (below_alloc (below_alloc (Below.refl _ _) _) _) HBK.out).mono ?_; rintro e w' ⟨rfl, hb⟩; have HB := Aside0.mk (below_step (below_alloc (below_alloc (Below.refl _ _) _) _) hb); clear hb)
  go_ret2
  exact ⟨rfl, HB.out⟩
set_option maxHeartbeats 1000000 in
set_option maxRecDepth 100000 in
theorem method_calls (v0 v1 : Value) (A : Option Addr) (c : Nat) (l : List S51) (v3 : Value) (a4 : Int) (v5 : Value) (a6 : Int) (v7 : Value) (a8 : Int) (a9 : ByteArray) (n : Int) (s : ByteArray) (w : World) (hC : Kd.C k51 w A l.length l) :
    Calls Try.prog 23 #[.agg #[v0, v1, .slice A l.length c, v3, .int .u32 a4, v5, .int .i64 a6, v7, .int .i64 a8, .string a9], .int .i64 n, .string s] w fun e w' => e = .returned (.tuple #[.int .i64 (lastP (isM51 s n) l).1, .bool (lastP (isM51 s n) l).2]) ∧ Below w.heap.size w w' := by
  have HC := Aside0.mk hC
  obtain ⟨R, hR⟩ : ∃ R, R = lastP (isM51 s n) l := ⟨_, rfl⟩
  rw [← hR]
  have HL := Aside0.mk (fun (X : World) (gs gn : Nat) (hX : Below w.heap.size w X) (hn : X.heap[gn]? = some (.cells #[.int .i64 n] 3 (0, 0))) (hg : X.heap[gs]? = some (.cells #[.string s] 9 (0, 0))) => last43_calls (isM51 s n) gs gn v0 v1 A c l v3 a4 v5 a6 v7 a8 a9 X (Kd.C_below hC hX) (fun Y hY x p => methodC_calls s n gn gs x p Y (blk_below hn hY) (blk_below hg hY)))
  simp only [← hR] at HL
  clear hR hC
  have hb := blk_new ((w.alloc (.cells #[v0, v1, .slice A l.length c, v3, .int .u32 a4, v5, .int .i64 a6, v7, .int .i64 a8, .string a9] 32 (0, 0))).alloc (.cells #[.int .i64 n] 3 (0, 0))) (.cells #[.string s] 9 (0, 0))
  rw [World.size_alloc, World.size_alloc] at hb
  have hb2 := blk_alloc (blk_new (w.alloc (.cells #[v0, v1, .slice A l.length c, v3, .int .u32 a4, v5, .int .i64 a6, v7, .int .i64 a8, .string a9] 32 (0, 0))) (.cells #[.int .i64 n] 3 (0, 0))) (.cells #[.string s] 9 (0, 0))
  rw [World.size_alloc] at hb2
  have HBK := Aside0.mk hb
  have HBN := Aside0.mk hb2
  clear hb hb2
  go_enter Try.func23, Try.ntmps23
  go_wp2_with (go_at_call 39; refine (HL.out _ _ _ (below_alloc (below_alloc (below_alloc (Below.refl _ _) _) _) _) HBN.out HBK.out).mono ?_; rintro e w' ⟨rfl, hb⟩; have HB := Aside0.mk (below_step (below_alloc (below_alloc (below_alloc (Below.refl _ _) _) _) _) hb); clear hb)
  go_ret2
  exact ⟨rfl, HB.out⟩
def dict_Find.f (l0_0 : List Int) (l0_1 : List Int) (l0_2 : List (S51)) (l0_3 : List Int) (a0_4 : Int) (l0_5 : List (S91)) (a0_6 : Int) (l0_7 : List (S82)) (a0_8 : Int) (a0_9 : ByteArray) (a1 : ByteArray) : Option (Int × Bool) := some (lastP (isN51 a1) l0_2)
theorem dict_Find.calls (A0_0 : Option Addr) (c0_0 : Nat) (l0_0 : List Int) (A0_1 : Option Addr) (c0_1 : Nat) (l0_1 : List Int) (A0_2 : Option Addr) (c0_2 : Nat) (l0_2 : List (S51)) (A0_3 : Option Addr) (c0_3 : Nat) (l0_3 : List Int) (a0_4 : Int) (A0_5 : Option Addr) (c0_5 : Nat) (l0_5 : List (S91)) (a0_6 : Int) (A0_7 : Option Addr) (c0_7 : Nat) (l0_7 : List (S82)) (a0_8 : Int) (a0_9 : ByteArray) (a1 : ByteArray) (r1 : Int) (r2 : Bool) (w : World) (hr0_0 : Kd.C (Kd.int .u32) w A0_0 l0_0.length l0_0) (hc0_0 : l0_0.length ≤ c0_0) (hr0_1 : Kd.C (Kd.int .u8) w A0_1 l0_1.length l0_1) (hc0_1 : l0_1.length ≤ c0_1) (hr0_2 : Kd.C k51 w A0_2 l0_2.length l0_2) (hc0_2 : l0_2.length ≤ c0_2) (hr0_3 : Kd.C (Kd.int .i64) w A0_3 l0_3.length l0_3) (hc0_3 : l0_3.length ≤ c0_3) (hr0_5 : Kd.C k91 w A0_5 l0_5.length l0_5) (hc0_5 : l0_5.length ≤ c0_5) (hr0_7 : Kd.C k82 w A0_7 l0_7.length l0_7) (hc0_7 : l0_7.length ≤ c0_7) (h : dict_Find.f l0_0 l0_1 l0_2 l0_3 a0_4 l0_5 a0_6 l0_7 a0_8 a0_9 a1 = some (r1, r2)) :
    Calls Try.prog 16 #[.agg #[.slice A0_0 l0_0.length c0_0, .slice A0_1 l0_1.length c0_1, .slice A0_2 l0_2.length c0_2, .slice A0_3 l0_3.length c0_3, .int .u32 a0_4, .slice A0_5 l0_5.length c0_5, .int .i64 a0_6, .slice A0_7 l0_7.length c0_7, .int .i64 a0_8, .string a0_9], .string a1] w fun e w' => e = .returned (.tuple #[.int .i64 r1, .bool r2]) ∧ Below w.heap.size w w' := by
  have e := Option.some.inj h
  have h2 := find_calls (.slice A0_0 l0_0.length c0_0) (.slice A0_1 l0_1.length c0_1) A0_2 c0_2 l0_2 (.slice A0_3 l0_3.length c0_3) a0_4 (.slice A0_5 l0_5.length c0_5) a0_6 (.slice A0_7 l0_7.length c0_7) a0_8 a0_9 a1 w hr0_2
  rw [e] at h2
  exact h2
def dict_Method.f (l0_0 : List Int) (l0_1 : List Int) (l0_2 : List (S51)) (l0_3 : List Int) (a0_4 : Int) (l0_5 : List (S91)) (a0_6 : Int) (l0_7 : List (S82)) (a0_8 : Int) (a0_9 : ByteArray) (a1 : Int) (a2 : ByteArray) : Option (Int × Bool) := some (lastP (isM51 a2 a1) l0_2)
theorem dict_Method.calls (A0_0 : Option Addr) (c0_0 : Nat) (l0_0 : List Int) (A0_1 : Option Addr) (c0_1 : Nat) (l0_1 : List Int) (A0_2 : Option Addr) (c0_2 : Nat) (l0_2 : List (S51)) (A0_3 : Option Addr) (c0_3 : Nat) (l0_3 : List Int) (a0_4 : Int) (A0_5 : Option Addr) (c0_5 : Nat) (l0_5 : List (S91)) (a0_6 : Int) (A0_7 : Option Addr) (c0_7 : Nat) (l0_7 : List (S82)) (a0_8 : Int) (a0_9 : ByteArray) (a1 : Int) (a2 : ByteArray) (r1 : Int) (r2 : Bool) (w : World) (hr0_0 : Kd.C (Kd.int .u32) w A0_0 l0_0.length l0_0) (hc0_0 : l0_0.length ≤ c0_0) (hr0_1 : Kd.C (Kd.int .u8) w A0_1 l0_1.length l0_1) (hc0_1 : l0_1.length ≤ c0_1) (hr0_2 : Kd.C k51 w A0_2 l0_2.length l0_2) (hc0_2 : l0_2.length ≤ c0_2) (hr0_3 : Kd.C (Kd.int .i64) w A0_3 l0_3.length l0_3) (hc0_3 : l0_3.length ≤ c0_3) (hr0_5 : Kd.C k91 w A0_5 l0_5.length l0_5) (hc0_5 : l0_5.length ≤ c0_5) (hr0_7 : Kd.C k82 w A0_7 l0_7.length l0_7) (hc0_7 : l0_7.length ≤ c0_7) (h : dict_Method.f l0_0 l0_1 l0_2 l0_3 a0_4 l0_5 a0_6 l0_7 a0_8 a0_9 a1 a2 = some (r1, r2)) :
    Calls Try.prog 23 #[.agg #[.slice A0_0 l0_0.length c0_0, .slice A0_1 l0_1.length c0_1, .slice A0_2 l0_2.length c0_2, .slice A0_3 l0_3.length c0_3, .int .u32 a0_4, .slice A0_5 l0_5.length c0_5, .int .i64 a0_6, .slice A0_7 l0_7.length c0_7, .int .i64 a0_8, .string a0_9], .int .i64 a1, .string a2] w fun e w' => e = .returned (.tuple #[.int .i64 r1, .bool r2]) ∧ Below w.heap.size w w' := by
  have e := Option.some.inj h
  have h2 := method_calls (.slice A0_0 l0_0.length c0_0) (.slice A0_1 l0_1.length c0_1) A0_2 c0_2 l0_2 (.slice A0_3 l0_3.length c0_3) a0_4 (.slice A0_5 l0_5.length c0_5) a0_6 (.slice A0_7 l0_7.length c0_7) a0_8 a0_9 a1 a2 w hr0_2
  rw [e] at h2
  exact h2
end Go.Proofs.Ytfpkakedlapmkaa.Q
end
section
set_option linter.unusedSimpArgs false
set_option linter.unusedVariables false
namespace Go.Proofs.Ytfpkakedlapmkaa.Q
open Go.RowKit Go.Shelf Go.Proofs.YtfpkakedlapmkaaW.PrintWords Go.Proofs.YtfpkakedlapmkaaW.PrintLast
attribute [local go_sem] Oper.semAt_some
theorem store_stepN {P : Program} {ops : Array Oper} {o : Oper} {a : Act} {Q : Exit → Act → World → Prop} {Kc : Act → World → Prop} {N : Option Tmp} {W : World} (hw : Region.wanted o (yielded ops a.tmps) = true) (hN : o.dst = N) (t : TypeId) (p x : Operand) (ho : o.op = .store t p x)
    {g : Nat} {cs : Array Value} {e : TypeId} (u : Value) (seg : List Value) (haddr : a.eval p = .pointer (some ⟨g, 0, none⟩)) (hx : a.eval x = u) (hu : u.cells.toList = seg) (ht : (P.info? t).map (·.size) = some seg.length) (h1 : ∀ q ∈ seg, q.oneCell' = true)
    (hh : W.heap[g]? = some (.cells cs e (0, 0))) (hsz : cs.size = seg.length)
    (h : ∀ w1, w1.heap[g]? = some (.cells seg.toArray e (0, 0)) → W.grownBy w1 (some g) → Kc (a.put N undef) w1) : if Region.wanted o (yielded ops a.tmps) = true then Oper.wp P o a W Kc Q else Kc (a.put N undef) W := by
  have hrun := run_store_run (P := P) t u seg hh hu ht (show 0 + seg.length ≤ cs.size by omega) h1
  subst hN
  rw [if_pos hw]
  unfold Oper.wp execOp
  simp only [ho, haddr, hx, Sem.run_bind, Sem.run_pure, Result.andThen_ok, hrun]
  refine h _ ?_ ?_
  · obtain ⟨cur', h1, h2, h3⟩ := setCells_row seg 0 W cs hh (by omega)
    rw [h1]
    have : cur' = seg.toArray := by
      apply Array.toList_inj.1
      rw [h3, List.take_zero, List.nil_append, Nat.zero_add, List.drop_eq_nil_of_le (by rw [Array.length_toList]; omega), List.append_nil]
    rw [this]
  · obtain ⟨h2, h3, h4, h5⟩ := setCells_same g seg 0 W
    exact ⟨h2, h3, h4, by omega, fun k _ hk => setCells_far seg 0 k (fun e => hk (by rw [e]))⟩
def wOk (x : S51) (p : S37) : Bool := (x.f0.toList == p.f0.toList) && ((x.f1 == -1) && ((x.f2 == 1) && ((x.f3 == p.f1 % 4294967296) && decide (x.f4.length = 0))))
def WordsI (pl : List S37) (l : List S51) (W0 : World) (k : Nat) (W : World) : Prop := (∀ j, j < k → wOk (l.getD j z51) (pl.getD j z37) = true) ∧ Below W0.heap.size W0 W
def WordsX (pl : List S37) (l : List S51) (w : World) (cc : Code) (k : Nat) (W : World) : Prop :=
  (cc = .ret ∧ (∃ j : Nat, j < 111 ∧ wOk (l.getD j z51) (pl.getD j z37) = false) ∧ Boxed W (w.heap.size + 1) 4 (.bool false)) ∧ Below w.heap.size w W
theorem wordsI_own (pl : List S37) (l : List S51) (W0 : World) (B : Nat) (hB : W0.heap.size ≤ B) : OwnFrom B (WordsI pl l W0) :=
  OwnFrom.and (fun _ _ _ _ h _ _ => h) (ownFrom_below (Nat.le_refl _) hB)
theorem wordsX_own (pl : List S37) (l : List S51) (w : World) (cc : Code) (B : Nat) (hB : w.heap.size ≤ B) : OwnFrom B (WordsX pl l w cc) :=
  OwnFrom.and (fun s X Y row h hg hr => ⟨h.1, h.2.1, (Own.from (boxed_own (β := Nat) _ _ (fun _ => .bool false)) B) s X Y row h.2.2 hg hr⟩) (ownFrom_below (Nat.le_refl _) hB)
theorem wordsI_abs (pl : List S37) (l : List S51) (W0 : World) (k : Nat) (A B : World) (h : WordsI pl l W0 k A) (hab : AbA A B) : WordsI pl l W0 k B := ⟨h.1, below_ab h.2 hab⟩
theorem wordsX_abs (pl : List S37) (l : List S51) (w : World) (cc : Code) (k : Nat) (A B : World) (h : WordsX pl l w cc k A) (hab : AbA A B) : WordsX pl l w cc k B :=
  ⟨⟨h.1.1, h.1.2.1, boxed_below h.1.2.2 hab⟩, below_ab h.2 hab⟩
set_option maxRecDepth 100000 in
theorem cell_end1 (F : Func) (hres : F.results = #[.cell 2 4]) (w X : World) (B2 D : Nat) (hD : D ≠ B2 ∧ w.heap.size ≤ D) (tmps : Array Value) (bb : Bool) (ht2 : tmps.getD 2 undef = .pointer (some ⟨B2, 0, none⟩))
    (hK : X.heap[D]? = some (.deferred (some []))) (g1 : Boxed X B2 4 (.bool bb)) (hB : Below w.heap.size w X) :
    bodyPostM Fence.wide 5 Try.prog F (fun e W' => e = .returned (.bool bb) ∧ Below w.heap.size w W') Exit.ret { tmps := tmps, defers := [{ target := .collected D, args := #[] }] } X := by
  refine ⟨by simp, .inl ⟨_, _, rfl, run_takeDeferred hK, ?_⟩⟩
  have k1 : Boxed (X.putObj D (.deferred none)) B2 4 (.bool bb) := (World.putObj_heap_other (by omega)).trans g1
  have c1 := k1.cell
  refine ⟨_, ?_, rfl, hB.trans (belowK_b (w := w) (Nat.le_refl _) X D _ _ (by omega) hK rfl rfl)⟩
  rw [Array.getD_eq_getD_getElem?] at ht2
  simp [results, hres, go_sem, ht2, c1]
def wordsF (pl : List S37) (l : List S51) : Bool := (List.range 111).all fun j => wOk (l.getD j z51) (pl.getD j z37)
theorem wordsF_true (pl : List S37) (l : List S51) (h : ∀ j, j < 111 → wOk (l.getD j z51) (pl.getD j z37) = true) : wordsF pl l = true := by
  unfold wordsF
  rw [List.all_eq_true]
  exact fun j hj => h j (List.mem_range.1 hj)
theorem wordsF_false (pl : List S37) (l : List S51) (j : Nat) (hj : j < 111) (h : wOk (l.getD j z51) (pl.getD j z37) = false) : wordsF pl l = false := by
  cases hh : wordsF pl l with
  | false => rfl
  | true =>
    unfold wordsF at hh
    rw [List.all_eq_true] at hh
    have := hh j (List.mem_range.2 hj)
    rw [h] at this
    cases this
set_option maxHeartbeats 4000000 in
set_option maxRecDepth 100000 in
theorem wordsRight_calls (pl : List S37) (hlen : pl.length = 111) (HP : ∀ X, Calls Try.prog 14 #[] X fun e w' => e = .returned (.slice (some ⟨X.heap.size, 0, none⟩) 111 111) ∧ w' = X.alloc (.cells (flat37 pl).toArray 37 (0, 0)))
    (v0 v1 : Value) (ad : Addr) (c : Nat) (l : List S51) (v3 : Value) (a4 : Int) (v5 : Value) (a6 : Int) (v7 : Value) (a8 : Int) (a9 : ByteArray) (w : World) (hC : Kd.C k51 w (some ad) l.length l) (hl1 : 111 ≤ l.length) (hl2 : l.length ≤ 640) (hcl : l.length ≤ c) (tb : Bool)
    (hT : ∀ X : World, Below w.heap.size w X → X.heap[w.heap.size]? = some (.cells #[v0, v1, .slice (some ad) l.length c, v3, .int .u32 a4, v5, .int .i64 a6, v7, .int .i64 a8, .string a9] 32 (0, 0)) → Calls Try.prog 79 #[.slice (if c = 111 then some ad else some (ad.add 555)) (l.length - 111) (c - 111), .func (.func 80) #[] #[.pointer (some ⟨w.heap.size, 0, none⟩)]] X fun e w' => e = .returned (.bool tb) ∧ Below X.heap.size X w') :
    Calls Try.prog 47 #[.agg #[v0, v1, .slice (some ad) l.length c, v3, .int .u32 a4, v5, .int .i64 a6, v7, .int .i64 a8, .string a9]] w fun e w' => e = .returned (.bool (wordsF pl l && !tb)) ∧ Below w.heap.size w w' := by
  refine (callsIn_wide (n := 5)).1 ?_
  have hu32 := Try.underlying32
  have hu37 := Try.underlying37
  have hu51 := Try.underlying51
  have hu26 := Try.underlying26
  have HSq := Aside0.mk (fun W0 : World => prims_seq1 pl hlen HP 4 (by decide) W0)
  obtain ⟨ad2, V, hA, hV, _⟩ := wordsAt_of l (some ad) w hC
  have hA2 := hA (by omega)
  cases hA2
  clear hA hC HP
  have HV := Aside0.mk hV
  have HT := Aside0.mk hT
  clear hV hT
  obtain ⟨R, hR⟩ : ∃ R, R = (wordsF pl l && !tb) := ⟨_, rfl⟩
  have hRR : (wordsF pl l && !tb) = R := hR.symm
  rw [hRR]
  have HR := Aside0.mk hR
  clear hR hRR
  have hLl : (primsV pl).length = 111 := by simp [primsV, hlen]
  have d1 : decide ((640 : Int) < (l.length : Int)) = false := decide_eq_false (by omega)
  have d2 : decide ((l.length : Int) < 111) = false := decide_eq_false (by omega)
  refine callsIn_of_wp_marks Try.func47 rfl trivial ?_ rfl
  simp only [Try.ntmps47, List.size_toArray, List.length_cons, List.length_nil, Nat.reduceAdd, Nat.reduceSub, Array.replicate_succ, Array.replicate_zero, List.push_toArray, List.append_toArray, List.nil_append, List.cons_append]
  gi_wp2
  obtain ⟨W0, hW0⟩ : ∃ W0, W0 = (w.alloc (.cells #[v0, v1, .slice (some ad) l.length c, v3, .int .u32 a4, v5, .int .i64 a6, v7, .int .i64 a8, .string a9] 32)).alloc (.cells #[.bool false] 4) := ⟨_, rfl⟩
  have b0 : W0.heap[w.heap.size]? = some (.cells #[v0, v1, .slice (some ad) l.length c, v3, .int .u32 a4, v5, .int .i64 a6, v7, .int .i64 a8, .string a9] 32 (0, 0)) := by rw [hW0]; exact blk_alloc (blk_new w _) _
  have b1 : Boxed W0 (w.heap.size + 1) 4 (.bool false) := by
    rw [hW0]
    have h := Boxed.new (w.alloc (.cells #[v0, v1, .slice (some ad) l.length c, v3, .int .u32 a4, v5, .int .i64 a6, v7, .int .i64 a8, .string a9] 32)) 4 (.bool false)
    rw [World.size_alloc] at h
    exact h
  have hB0 : Below w.heap.size w W0 := by rw [hW0]; exact below_alloc (below_alloc (Below.refl _ _) _) _
  have hs0 : W0.heap.size = w.heap.size + 2 := by rw [hW0]; simp
  rw [← hW0]
  clear hW0
  refine wp_rangeL (by omega) (gf := 36) (lb := #[]) rfl (enters_of Try.func36 (by kernel_rfl) rfl)
    (HSq.out W0) abA_keeps kpB_t (fun W l o o' hl ho hoc _ => kpB_put ho hoc) ?hps
    (WordsI pl l W0) (WordsX pl l w) (wordsI_own pl l W0 _ (Nat.le_refl _)) (fun cc => wordsX_own pl l w cc _ (by omega)) (wordsI_abs pl l W0) (wordsX_abs pl l w)
    ⟨fun j hj => absurd hj (by omega), Below.refl _ _⟩
    (AxP pl w.heap.size (fun k b x => #[.agg #[v0, v1, .slice (some ad) l.length c, v3, .int .u32 a4, v5, .int .i64 a6, v7, .int .i64 a8, .string a9], .pointer (some ⟨w.heap.size, 0, none⟩), .pointer (some ⟨w.heap.size + 1, 0, none⟩), .int .i64 (k : Int), .pointer (some ⟨b, 0, none⟩), undef, undef, .pointer (some ⟨w.heap.size, 2, none⟩), .slice (some ad) l.length c, .int .i64 (l.length : Int), .bool false, .bool false, .pointer (some ⟨w.heap.size, 2, none⟩), .slice (some ad) l.length c, .int .i64 (l.length : Int), .bool false, .bool false, .int .i64 (k : Int), .agg #[.string x.f0, .int .i64 x.f1], undef, undef, undef, undef, undef, undef, undef, undef, undef, undef, undef, undef, undef, undef, undef, undef, undef, undef, undef, undef, undef, undef, undef, undef, undef, undef, undef, undef, undef, undef, undef, undef, undef, undef, undef, undef, undef, undef, undef, undef, undef, undef, undef, undef, undef])) (fun k a' W l o o' hl ho hc h => axP_put _ _ _ k a' W l o o' ho hc h) ?assign ?body ?done ?stop
  case hps =>
    intro x hx
    obtain ⟨p, _, rfl⟩ := List.mem_map.1 hx
    rfl
  case assign =>
    intro l' k hk W K hI hK
    obtain ⟨x, hx⟩ : ∃ x, x = pl.getD k z37 := ⟨_, rfl⟩
    have e : (primsV pl)[k] = #[.int .i64 k, .agg #[.string x.f0, .int .i64 x.f1]] := by rw [hx]; simp [primsV, pV]
    rw [e]
    have hab : AbA W (W.alloc (.cells #[.string x.f0, .int .i64 x.f1] 37 (0, 0))) := below_alloc (Below.refl _ _) _
    have hK2 := hK _ (W.alloc (.cells #[.string x.f0, .int .i64 x.f1] 37 (0, 0))) ⟨W.heap.size, Nat.le_trans hB0.size hI.2.size, by rw [← hx]; exact blk_new W _, rfl⟩ (KeepsOthers.alloc _ _) (kpB_below hab) (wordsI_abs pl l W0 k _ _ hI hab)
    rw [← hx] at hK2
    clear e hx hK hI
    gi_wp2
    exact hK2
  case body =>
    rintro l' k a' W hk0 ⟨b, hb0, hbx, rfl⟩ ⟨hne, hB⟩
    have hk : k < 111 := by omega
    have hBw : Below w.heap.size w W := hB0.trans (hB.mono (by omega))
    obtain ⟨x, hx⟩ : ∃ x, x = pl.getD k z37 := ⟨_, rfl⟩
    rw [← hx] at hbx
    simp only [← hx]
    obtain ⟨y, hy⟩ : ∃ y, y = l.getD k z51 := ⟨_, rfl⟩
    obtain ⟨p, hp⟩ : ∃ p, p = V k := ⟨_, rfl⟩
    obtain ⟨g0, g1, g2, g3, g4⟩ := wordsAt_below HV.out hBw k (by omega)
    rw [← hy] at g0 g1 g2 g3 g4
    rw [← hp] at g4
    have HX := Aside0.mk hx
    have HY := Aside0.mk hy
    have HK := Aside0.mk hk
    have q1 : (0 ≤ (k : Int)) = True := eq_true (by omega)
    have q2 : ((k : Int) < (l.length : Int)) = True := eq_true (by omega)
    have q3 : ((k : Int)).toNat = k := by omega
    have b0W := blk_below b0 hB
    have HS := Aside0.mk (show ∀ Y : World, Below W.heap.size W Y → (Y.cell? ⟨w.heap.size, 2, none⟩ = some (.slice (some ad) l.length c)) ∧ (Y.cell? ⟨b, 0, none⟩ = some (.string x.f0) ∧ Y.cell? ⟨b, 1, none⟩ = some (.int .i64 x.f1)) ∧ Y.cell? (ad.add (k * 5)) = some (.string y.f0) ∧ Y.cell? ⟨(ad.add (k * 5)).block, (ad.add (k * 5)).off + 1, none⟩ = some (.int .i64 y.f1) ∧ Y.cell? ⟨(ad.add (k * 5)).block, (ad.add (k * 5)).off + 2, none⟩ = some (.int .i64 y.f2) ∧ Y.cell? ⟨(ad.add (k * 5)).block, (ad.add (k * 5)).off + 3, none⟩ = some (.int .u32 y.f3) ∧ Y.cell? ⟨(ad.add (k * 5)).block, (ad.add (k * 5)).off + 4, none⟩ = some (.slice p.1 y.f4.length p.2) from fun Y hY => ⟨(blk_cell (blk_below b0W hY) 2).trans rfl, ⟨(blk_cell (blk_below hbx hY) 0).trans rfl, (blk_cell (blk_below hbx hY) 1).trans rfl⟩, pw_cell_below hY g0, pw_cell_below hY g1, pw_cell_below hY g2, pw_cell_below hY g3, pw_cell_below hY g4⟩)
    have hHeld0 := below_drew1 (Below.refl W.heap.size W)
    clear hx hy hp g0 g1 g2 g3 g4 hbx
    gi_wp2
    refine start_in (m := 11) (S := fun w' => Below W.heap.size W w') (ds := [9, 10]) #[false, false, false, false, false, false, false, false, false, false, false] (by kernel_rfl) rfl rfl hHeld0 (by kernel_rfl) (fun ⟨_, _, h⟩ => h) (fun hHeld => ?_)
    refine pure_ (i := 0) (N := some 19) (v := ?_) (a' := ?_) #[true, false, false, false, false, false, false, false, false, false, false] rfl rfl (by kernel_rfl) (fun _ _ _ h => h) (Or.inl ⟨by rfl, ?_⟩) ?_ ?_
    rotate_left
    · intro w'
      go_simp
      with_reducible rfl
    rotate_left
    · simp only [Act.put, List.setIfInBounds_toArray, List.set_cons_zero, List.set_cons_succ]
      rfl
    refine take_ (i := 1) (N := some 20) (v := .slice (some ad) l.length c) (a' := ?_) #[true, true, false, false, false, false, false, false, false, false, false] rfl rfl (by kernel_rfl) (fun _ _ _ h => h) (Or.inl ⟨by rfl, ?_⟩) hHeld ?_ ?_
    rotate_left
    rotate_left
    · simp only [Act.put, List.setIfInBounds_toArray, List.set_cons_zero, List.set_cons_succ]
      rfl
    rotate_left
    · rintro w' s0
      have y := (HS.out _ s0).1
      go_simp
    refine pure_ (i := 2) (N := some 21) (v := ?_) (a' := ?_) #[true, true, true, false, false, false, false, false, false, false, false] rfl rfl (by kernel_rfl) (fun _ _ _ h => h) (Or.inl ⟨by rfl, ?_⟩) ?_ ?_
    rotate_left
    · intro w'
      go_simp
      with_reducible rfl
    rotate_left
    · simp only [Act.put, List.setIfInBounds_toArray, List.set_cons_zero, List.set_cons_succ]
      rfl
    refine pure_ (i := 3) (N := some 22) (v := ?_) (a' := ?_) #[true, true, true, true, false, false, false, false, false, false, false] rfl rfl (by kernel_rfl) (fun _ _ _ h => h) (Or.inl ⟨by rfl, ?_⟩) ?_ ?_
    rotate_left
    · intro w'
      go_simp
      with_reducible rfl
    rotate_left
    · simp only [Act.put, List.setIfInBounds_toArray, List.set_cons_zero, List.set_cons_succ]
      rfl
    refine take_ (i := 4) (N := some 23) (v := .agg #[.string y.f0, .int .i64 y.f1, .int .i64 y.f2, .int .u32 y.f3, .slice p.1 y.f4.length p.2]) (a' := ?_) #[true, true, true, true, true, false, false, false, false, false, false] rfl rfl (by kernel_rfl) (fun _ _ _ h => h) (Or.inl ⟨by rfl, ?_⟩) hHeld ?_ ?_
    rotate_left
    rotate_left
    · simp only [Act.put, List.setIfInBounds_toArray, List.set_cons_zero, List.set_cons_succ]
      rfl
    rotate_left
    · rintro w' s0
      obtain ⟨_, _, z0, z1, z2, z3, z4⟩ := HS.out _ s0
      go_simp
    refine take_ (i := 5) (N := some 24) (v := .agg #[.string x.f0, .int .i64 x.f1]) (a' := ?_) #[true, true, true, true, true, true, false, false, false, false, false] rfl rfl (by kernel_rfl) (fun _ _ _ h => h) (Or.inl ⟨by rfl, ?_⟩) hHeld ?_ ?_
    rotate_left
    rotate_left
    · simp only [Act.put, List.setIfInBounds_toArray, List.set_cons_zero, List.set_cons_succ]
      rfl
    rotate_left
    · rintro w' s0
      obtain ⟨_, ⟨z0, z1⟩, _⟩ := HS.out _ s0
      go_simp
    refine join_ (σ := Nat × Nat) 2 #[true, true, true, true, true, true, true, true, true, false, false] (fun s_ => [(25, .agg #[.string x.f0, .int .i64 (-1), .int .i64 1, .int .u32 (x.f1 % 4294967296), .slice none 0 0]), (5, .pointer (some ⟨s_.1, 0, none⟩)), (6, .pointer (some ⟨s_.2, 0, none⟩))]) (fun s_ w' => Below W.heap.size W w' ∧ (w'.heap[s_.1]? = some (.cells #[.string ⟨#[]⟩, .int .i64 0, .int .i64 0, .int .u32 0, .slice none 0 0] 51 (0, 0)) ∧ W.heap.size ≤ s_.1) ∧ (w'.heap[s_.2]? = some (.cells #[.string ⟨#[]⟩, .int .i64 0, .int .i64 0, .int .u32 0, .slice none 0 0] 51 (0, 0)) ∧ W.heap.size ≤ s_.2) ∧ s_.1 ≠ s_.2) ?_ ?_
    rotate_left
    · intro hCont
      refine three_ (i := 6) (j := 7) (k := 8) (Ni := some 25) (Nj := some 5) (Nk := some 6) #[true, true, true, true, true, true, true, false, false, false, false] #[true, true, true, true, true, true, false, true, false, false, false] #[true, true, true, true, true, true, false, false, true, false, false] rfl rfl rfl rfl rfl rfl (by kernel_rfl) (by decide) (by decide) (by decide) (fun K hK => ?_) (fun K hK => ?_) (fun K hK => ?_)
      · skip
        refine goes_ Try.func37 (by kernel_rfl) rfl #[.agg #[.string x.f0, .int .i64 x.f1]] (by rfl) rfl rfl (by first | rfl | (simp only [List.map_toArray, List.map_cons, List.map_nil]; rfl)) ?_
        refine (word_exact x.f0 x.f1 _).mono ?_
        rintro e X1 ⟨rfl, hb1⟩
        refine ⟨_, rfl, ?_⟩
        have s1 : Below W.heap.size W X1 := below_step hHeld hb1
        refine hK.out _ _ s1 (fun hHeld => ?_)
        clear hK K
        refine norm_ (a' := ?_) ?_ ?_
        rotate_left
        · show Act.put _ (some 25) _ = _
          simp only [Act.put, List.setIfInBounds_toArray, List.set_cons_zero, List.set_cons_succ]
          rfl
        refine two_ (i := 7) (j := 8) (Ni := some 5) (Nj := some 6) #[true, true, true, true, true, true, true, true, false, false, false] #[true, true, true, true, true, true, true, false, true, false, false] rfl rfl rfl rfl (by kernel_rfl) (by decide) (by decide) (fun K hK => ?_) (fun K hK => ?_)
        · skip
          refine box_step ?hg (N := 5) ?hd (cs := #[.string ⟨#[]⟩, .int .i64 0, .int .i64 0, .int .u32 0, .slice none 0 0]) (t := 51) ?hr ?_
          (case hd => rfl)
          (case hg => rfl)
          (case hr => first | (go_simp; done) | (go_simp; rfl))
          intro g5 hg2 X2 hbox2 hb2
          have s2 : Below W.heap.size W X2 := below_step s1 hb2
          have le5_2 : W.heap.size ≤ g5 := by rw [hg2]; exact s1.size
          refine hK.out _ _ s2 (fun hHeld => ?_)
          clear hK K
          refine norm_ (a' := ?_) ?_ ?_
          rotate_left
          · show Act.put _ (some 5) _ = _
            simp only [Act.put, List.setIfInBounds_toArray, List.set_cons_zero, List.set_cons_succ]
            rfl
          refine one_ (i := 8) (N := some 6) #[true, true, true, true, true, true, true, true, true, false, false] rfl rfl (by kernel_rfl) (by decide) (fun K hK => ?_)
          refine box_step ?hg (N := 6) ?hd (cs := #[.string ⟨#[]⟩, .int .i64 0, .int .i64 0, .int .u32 0, .slice none 0 0]) (t := 51) ?hr ?_
          (case hd => rfl)
          (case hg => rfl)
          (case hr => first | (go_simp; done) | (go_simp; rfl))
          intro g6 hg3 X3 hbox3 hb3
          have s3 : Below W.heap.size W X3 := below_step s2 hb3
          have f5_3 := blk_below hbox2 hb3
          have le6_3 : W.heap.size ≤ g6 := by rw [hg3]; exact s2.size
          have ne_3 : g5 ≠ g6 := by have := blk_lt hbox2; rw [hg3]; omega
          refine hK.out _ _ s3 (fun hHeld => ?_)
          clear hK K
          refine norm_ (a' := ?_) ?_ ?_
          rotate_left
          · show Act.put _ (some 6) _ = _
            simp only [Act.put, List.setIfInBounds_toArray, List.set_cons_zero, List.set_cons_succ]
            rfl
          exact norm_ (by simp only [putAll, Act.put, List.setIfInBounds_toArray, List.set_cons_zero, List.set_cons_succ]) (hCont (g5, g6) _ ⟨s3, ⟨f5_3, le5_2⟩, ⟨hbox3, le6_3⟩, ne_3⟩)
        · skip
          refine box_step ?hg (N := 6) ?hd (cs := #[.string ⟨#[]⟩, .int .i64 0, .int .i64 0, .int .u32 0, .slice none 0 0]) (t := 51) ?hr ?_
          (case hd => rfl)
          (case hg => rfl)
          (case hr => first | (go_simp; done) | (go_simp; rfl))
          intro g6 hg2 X2 hbox2 hb2
          have s2 : Below W.heap.size W X2 := below_step s1 hb2
          have le6_2 : W.heap.size ≤ g6 := by rw [hg2]; exact s1.size
          refine hK.out _ _ s2 (fun hHeld => ?_)
          clear hK K
          refine norm_ (a' := ?_) ?_ ?_
          rotate_left
          · show Act.put _ (some 6) _ = _
            simp only [Act.put, List.setIfInBounds_toArray, List.set_cons_zero, List.set_cons_succ]
            rfl
          refine one_ (i := 7) (N := some 5) #[true, true, true, true, true, true, true, true, true, false, false] rfl rfl (by kernel_rfl) (by decide) (fun K hK => ?_)
          refine box_step ?hg (N := 5) ?hd (cs := #[.string ⟨#[]⟩, .int .i64 0, .int .i64 0, .int .u32 0, .slice none 0 0]) (t := 51) ?hr ?_
          (case hd => rfl)
          (case hg => rfl)
          (case hr => first | (go_simp; done) | (go_simp; rfl))
          intro g5 hg3 X3 hbox3 hb3
          have s3 : Below W.heap.size W X3 := below_step s2 hb3
          have f6_3 := blk_below hbox2 hb3
          have le5_3 : W.heap.size ≤ g5 := by rw [hg3]; exact s2.size
          have ne_3 : g6 ≠ g5 := by have := blk_lt hbox2; rw [hg3]; omega
          refine hK.out _ _ s3 (fun hHeld => ?_)
          clear hK K
          refine norm_ (a' := ?_) ?_ ?_
          rotate_left
          · show Act.put _ (some 5) _ = _
            simp only [Act.put, List.setIfInBounds_toArray, List.set_cons_zero, List.set_cons_succ]
            rfl
          exact norm_ (by simp only [putAll, Act.put, List.setIfInBounds_toArray, List.set_cons_zero, List.set_cons_succ]) (hCont (g5, g6) _ ⟨s3, ⟨hbox3, le5_3⟩, ⟨f6_3, le6_2⟩, (Ne.symm ne_3)⟩)
      · skip
        refine box_step ?hg (N := 5) ?hd (cs := #[.string ⟨#[]⟩, .int .i64 0, .int .i64 0, .int .u32 0, .slice none 0 0]) (t := 51) ?hr ?_
        (case hd => rfl)
        (case hg => rfl)
        (case hr => first | (go_simp; done) | (go_simp; rfl))
        intro g5 hg1 X1 hbox1 hb1
        have s1 : Below W.heap.size W X1 := below_step hHeld hb1
        have le5_1 : W.heap.size ≤ g5 := by rw [hg1]; exact hHeld.size
        refine hK.out _ _ s1 (fun hHeld => ?_)
        clear hK K
        refine norm_ (a' := ?_) ?_ ?_
        rotate_left
        · show Act.put _ (some 5) _ = _
          simp only [Act.put, List.setIfInBounds_toArray, List.set_cons_zero, List.set_cons_succ]
          rfl
        refine two_ (i := 6) (j := 8) (Ni := some 25) (Nj := some 6) #[true, true, true, true, true, true, true, true, false, false, false] #[true, true, true, true, true, true, false, true, true, false, false] rfl rfl rfl rfl (by kernel_rfl) (by decide) (by decide) (fun K hK => ?_) (fun K hK => ?_)
        · skip
          refine goes_ Try.func37 (by kernel_rfl) rfl #[.agg #[.string x.f0, .int .i64 x.f1]] (by rfl) rfl rfl (by first | rfl | (simp only [List.map_toArray, List.map_cons, List.map_nil]; rfl)) ?_
          refine (word_exact x.f0 x.f1 _).mono ?_
          rintro e X2 ⟨rfl, hb2⟩
          refine ⟨_, rfl, ?_⟩
          have s2 : Below W.heap.size W X2 := below_step s1 hb2
          have f5_2 := blk_below hbox1 hb2
          refine hK.out _ _ s2 (fun hHeld => ?_)
          clear hK K
          refine norm_ (a' := ?_) ?_ ?_
          rotate_left
          · show Act.put _ (some 25) _ = _
            simp only [Act.put, List.setIfInBounds_toArray, List.set_cons_zero, List.set_cons_succ]
            rfl
          refine one_ (i := 8) (N := some 6) #[true, true, true, true, true, true, true, true, true, false, false] rfl rfl (by kernel_rfl) (by decide) (fun K hK => ?_)
          refine box_step ?hg (N := 6) ?hd (cs := #[.string ⟨#[]⟩, .int .i64 0, .int .i64 0, .int .u32 0, .slice none 0 0]) (t := 51) ?hr ?_
          (case hd => rfl)
          (case hg => rfl)
          (case hr => first | (go_simp; done) | (go_simp; rfl))
          intro g6 hg3 X3 hbox3 hb3
          have s3 : Below W.heap.size W X3 := below_step s2 hb3
          have f5_3 := blk_below f5_2 hb3
          have le6_3 : W.heap.size ≤ g6 := by rw [hg3]; exact s2.size
          have ne_3 : g5 ≠ g6 := by have := blk_lt f5_2; rw [hg3]; omega
          refine hK.out _ _ s3 (fun hHeld => ?_)
          clear hK K
          refine norm_ (a' := ?_) ?_ ?_
          rotate_left
          · show Act.put _ (some 6) _ = _
            simp only [Act.put, List.setIfInBounds_toArray, List.set_cons_zero, List.set_cons_succ]
            rfl
          exact norm_ (by simp only [putAll, Act.put, List.setIfInBounds_toArray, List.set_cons_zero, List.set_cons_succ]) (hCont (g5, g6) _ ⟨s3, ⟨f5_3, le5_1⟩, ⟨hbox3, le6_3⟩, ne_3⟩)
        · skip
          refine box_step ?hg (N := 6) ?hd (cs := #[.string ⟨#[]⟩, .int .i64 0, .int .i64 0, .int .u32 0, .slice none 0 0]) (t := 51) ?hr ?_
          (case hd => rfl)
          (case hg => rfl)
          (case hr => first | (go_simp; done) | (go_simp; rfl))
          intro g6 hg2 X2 hbox2 hb2
          have s2 : Below W.heap.size W X2 := below_step s1 hb2
          have f5_2 := blk_below hbox1 hb2
          have le6_2 : W.heap.size ≤ g6 := by rw [hg2]; exact s1.size
          have ne_2 : g5 ≠ g6 := by have := blk_lt hbox1; rw [hg2]; omega
          refine hK.out _ _ s2 (fun hHeld => ?_)
          clear hK K
          refine norm_ (a' := ?_) ?_ ?_
          rotate_left
          · show Act.put _ (some 6) _ = _
            simp only [Act.put, List.setIfInBounds_toArray, List.set_cons_zero, List.set_cons_succ]
            rfl
          refine one_ (i := 6) (N := some 25) #[true, true, true, true, true, true, true, true, true, false, false] rfl rfl (by kernel_rfl) (by decide) (fun K hK => ?_)
          refine goes_ Try.func37 (by kernel_rfl) rfl #[.agg #[.string x.f0, .int .i64 x.f1]] (by rfl) rfl rfl (by first | rfl | (simp only [List.map_toArray, List.map_cons, List.map_nil]; rfl)) ?_
          refine (word_exact x.f0 x.f1 _).mono ?_
          rintro e X3 ⟨rfl, hb3⟩
          refine ⟨_, rfl, ?_⟩
          have s3 : Below W.heap.size W X3 := below_step s2 hb3
          have f5_3 := blk_below f5_2 hb3
          have f6_3 := blk_below hbox2 hb3
          refine hK.out _ _ s3 (fun hHeld => ?_)
          clear hK K
          refine norm_ (a' := ?_) ?_ ?_
          rotate_left
          · show Act.put _ (some 25) _ = _
            simp only [Act.put, List.setIfInBounds_toArray, List.set_cons_zero, List.set_cons_succ]
            rfl
          exact norm_ (by simp only [putAll, Act.put, List.setIfInBounds_toArray, List.set_cons_zero, List.set_cons_succ]) (hCont (g5, g6) _ ⟨s3, ⟨f5_3, le5_1⟩, ⟨f6_3, le6_2⟩, ne_2⟩)
      · skip
        refine box_step ?hg (N := 6) ?hd (cs := #[.string ⟨#[]⟩, .int .i64 0, .int .i64 0, .int .u32 0, .slice none 0 0]) (t := 51) ?hr ?_
        (case hd => rfl)
        (case hg => rfl)
        (case hr => first | (go_simp; done) | (go_simp; rfl))
        intro g6 hg1 X1 hbox1 hb1
        have s1 : Below W.heap.size W X1 := below_step hHeld hb1
        have le6_1 : W.heap.size ≤ g6 := by rw [hg1]; exact hHeld.size
        refine hK.out _ _ s1 (fun hHeld => ?_)
        clear hK K
        refine norm_ (a' := ?_) ?_ ?_
        rotate_left
        · show Act.put _ (some 6) _ = _
          simp only [Act.put, List.setIfInBounds_toArray, List.set_cons_zero, List.set_cons_succ]
          rfl
        refine two_ (i := 6) (j := 7) (Ni := some 25) (Nj := some 5) #[true, true, true, true, true, true, true, false, true, false, false] #[true, true, true, true, true, true, false, true, true, false, false] rfl rfl rfl rfl (by kernel_rfl) (by decide) (by decide) (fun K hK => ?_) (fun K hK => ?_)
        · skip
          refine goes_ Try.func37 (by kernel_rfl) rfl #[.agg #[.string x.f0, .int .i64 x.f1]] (by rfl) rfl rfl (by first | rfl | (simp only [List.map_toArray, List.map_cons, List.map_nil]; rfl)) ?_
          refine (word_exact x.f0 x.f1 _).mono ?_
          rintro e X2 ⟨rfl, hb2⟩
          refine ⟨_, rfl, ?_⟩
          have s2 : Below W.heap.size W X2 := below_step s1 hb2
          have f6_2 := blk_below hbox1 hb2
          refine hK.out _ _ s2 (fun hHeld => ?_)
          clear hK K
          refine norm_ (a' := ?_) ?_ ?_
          rotate_left
          · show Act.put _ (some 25) _ = _
            simp only [Act.put, List.setIfInBounds_toArray, List.set_cons_zero, List.set_cons_succ]
            rfl
          refine one_ (i := 7) (N := some 5) #[true, true, true, true, true, true, true, true, true, false, false] rfl rfl (by kernel_rfl) (by decide) (fun K hK => ?_)
          refine box_step ?hg (N := 5) ?hd (cs := #[.string ⟨#[]⟩, .int .i64 0, .int .i64 0, .int .u32 0, .slice none 0 0]) (t := 51) ?hr ?_
          (case hd => rfl)
          (case hg => rfl)
          (case hr => first | (go_simp; done) | (go_simp; rfl))
          intro g5 hg3 X3 hbox3 hb3
          have s3 : Below W.heap.size W X3 := below_step s2 hb3
          have f6_3 := blk_below f6_2 hb3
          have le5_3 : W.heap.size ≤ g5 := by rw [hg3]; exact s2.size
          have ne_3 : g6 ≠ g5 := by have := blk_lt f6_2; rw [hg3]; omega
          refine hK.out _ _ s3 (fun hHeld => ?_)
          clear hK K
          refine norm_ (a' := ?_) ?_ ?_
          rotate_left
          · show Act.put _ (some 5) _ = _
            simp only [Act.put, List.setIfInBounds_toArray, List.set_cons_zero, List.set_cons_succ]
            rfl
          exact norm_ (by simp only [putAll, Act.put, List.setIfInBounds_toArray, List.set_cons_zero, List.set_cons_succ]) (hCont (g5, g6) _ ⟨s3, ⟨hbox3, le5_3⟩, ⟨f6_3, le6_1⟩, (Ne.symm ne_3)⟩)
        · skip
          refine box_step ?hg (N := 5) ?hd (cs := #[.string ⟨#[]⟩, .int .i64 0, .int .i64 0, .int .u32 0, .slice none 0 0]) (t := 51) ?hr ?_
          (case hd => rfl)
          (case hg => rfl)
          (case hr => first | (go_simp; done) | (go_simp; rfl))
          intro g5 hg2 X2 hbox2 hb2
          have s2 : Below W.heap.size W X2 := below_step s1 hb2
          have f6_2 := blk_below hbox1 hb2
          have le5_2 : W.heap.size ≤ g5 := by rw [hg2]; exact s1.size
          have ne_2 : g6 ≠ g5 := by have := blk_lt hbox1; rw [hg2]; omega
          refine hK.out _ _ s2 (fun hHeld => ?_)
          clear hK K
          refine norm_ (a' := ?_) ?_ ?_
          rotate_left
          · show Act.put _ (some 5) _ = _
            simp only [Act.put, List.setIfInBounds_toArray, List.set_cons_zero, List.set_cons_succ]
            rfl
          refine one_ (i := 6) (N := some 25) #[true, true, true, true, true, true, true, true, true, false, false] rfl rfl (by kernel_rfl) (by decide) (fun K hK => ?_)
          refine goes_ Try.func37 (by kernel_rfl) rfl #[.agg #[.string x.f0, .int .i64 x.f1]] (by rfl) rfl rfl (by first | rfl | (simp only [List.map_toArray, List.map_cons, List.map_nil]; rfl)) ?_
          refine (word_exact x.f0 x.f1 _).mono ?_
          rintro e X3 ⟨rfl, hb3⟩
          refine ⟨_, rfl, ?_⟩
          have s3 : Below W.heap.size W X3 := below_step s2 hb3
          have f6_3 := blk_below f6_2 hb3
          have f5_3 := blk_below hbox2 hb3
          refine hK.out _ _ s3 (fun hHeld => ?_)
          clear hK K
          refine norm_ (a' := ?_) ?_ ?_
          rotate_left
          · show Act.put _ (some 25) _ = _
            simp only [Act.put, List.setIfInBounds_toArray, List.set_cons_zero, List.set_cons_succ]
            rfl
          exact norm_ (by simp only [putAll, Act.put, List.setIfInBounds_toArray, List.set_cons_zero, List.set_cons_succ]) (hCont (g5, g6) _ ⟨s3, ⟨f5_3, le5_2⟩, ⟨f6_3, le6_1⟩, (Ne.symm ne_2)⟩)
    rintro ⟨g5, g6⟩ Y ⟨hSY, ⟨f5, le5⟩, ⟨f6, le6⟩, hne56⟩
    simp only [putAll, Act.put, List.setIfInBounds_toArray, List.set_cons_zero, List.set_cons_succ]
    dsimp only at f5 le5 f6 le6 hne56
    refine last_ (i := 9) (N := none) #[true, true, true, true, true, true, true, true, true, true, false] rfl rfl (by kernel_rfl) (by decide) (fun K hK => ?_)
    refine store_stepN (by rfl) rfl 51 (.tmp 5) (.tmp 23) rfl (.agg #[.string y.f0, .int .i64 y.f1, .int .i64 y.f2, .int .u32 y.f3, .slice p.1 y.f4.length p.2]) [.string y.f0, .int .i64 y.f1, .int .i64 y.f2, .int .u32 y.f3, .slice p.1 y.f4.length p.2] rfl rfl rfl rfl (by intro q hq; simp at hq; rcases hq with rfl | rfl | rfl | rfl | rfl <;> rfl) f5 rfl ?_
    intro Y1 e5 gr1
    refine hK.out _ _ ?_
    clear hK K
    have f6 := blk_grown f6 gr1 (fun e => hne56 (Option.some.inj e).symm)
    refine last_ (i := 10) (N := none) #[true, true, true, true, true, true, true, true, true, true, true] rfl rfl (by kernel_rfl) (by decide) (fun K hK => ?_)
    refine store_stepN (by rfl) rfl 51 (.tmp 6) (.tmp 25) rfl (.agg #[.string x.f0, .int .i64 (-1), .int .i64 1, .int .u32 (x.f1 % 4294967296), .slice none 0 0]) [.string x.f0, .int .i64 (-1), .int .i64 1, .int .u32 (x.f1 % 4294967296), .slice none 0 0] rfl rfl rfl rfl (by intro q hq; simp at hq; rcases hq with rfl | rfl | rfl | rfl | rfl <;> rfl) f6 rfl ?_
    intro Y2 e6 gr2
    refine hK.out _ _ ?_
    clear hK K
    have e5 := blk_grown e5 gr2 (fun e => hne56 (Option.some.inj e))
    refine done_ (n := 0) (by kernel_rfl) ?_
    have hW2 : Below W.heap.size W Y2 := (hSY.grown gr1 hSY.size (fun k e => by cases e; exact le5)).grown gr2 (Nat.le_trans hSY.size gr1.size) (fun k e => by cases e; exact le6)
    have hKO : KeepsOthers W Y2 := KeepsOthers.of_grownBy (grown_of_below hW2 none) (fun _ _ h => by cases h)
    have a0 := (blk_cell e5 0).trans rfl
    have a1 := (blk_cell e5 1).trans rfl
    have a2 := (blk_cell e5 2).trans rfl
    have a3 := (blk_cell e5 3).trans rfl
    have a4' := (blk_cell e5 4).trans rfl
    have c0 := (blk_cell e6 0).trans rfl
    have c1 := (blk_cell e6 1).trans rfl
    have c2 := (blk_cell e6 2).trans rfl
    have c3 := (blk_cell e6 3).trans rfl
    simp only [Act.put]
    have hY1 := boxed_below (boxed_below b1 hB) hW2
    have hcr := hY1.cell
    have hfr := hY1.frozen
    have HW2 := Aside0.mk hW2
    have HKO := Aside0.mk hKO
    have HB1 := Aside0.mk hY1
    have HBW := Aside0.mk hBw
    clear hSY hW2 hKO hY1 gr1 gr2 hne56 le5 le6 f5 f6 e5 e6
    by_cases h0 : y.f0.toList = x.f0.toList
    · have t0 : (y.f0.toList != x.f0.toList) = false := by simp [h0]
      have s0 : (y.f0.toList == x.f0.toList) = true := by simp [h0]
      by_cases h1 : y.f1 = -1
      · have t1 : (y.f1 != -1) = false := by simp [h1]
        have s1 : (y.f1 == -1) = true := by simp [h1]
        by_cases h2 : y.f2 = 1
        · have t2 : (y.f2 != 1) = false := by simp [h2]
          have s2 : (y.f2 == 1) = true := by simp [h2]
          by_cases h3 : y.f3 = x.f1 % 4294967296
          · have t3 : (y.f3 != x.f1 % 4294967296) = false := by simp [h3]
            have s3 : (y.f3 == x.f1 % 4294967296) = true := by simp [h3]
            by_cases h4 : y.f4.length = 0
            · have t4 : decide ((0 : Int) < (y.f4.length : Int)) = false := by simp [h4]
              have s4 : decide (0 < y.f4.length) = false := by simp [h4]
              have hwk : wOk y x = true := by unfold wOk; simp [h0, h1, h2, h3, h4]
              have HWK := Aside0.mk hwk
              clear h0 h1 h2 h3 h4 hwk
              gi_wp2
              refine ⟨HKO.out, kpB_below HW2.out, fun j hj => ?_, below_step hB HW2.out⟩
              rcases Nat.lt_or_eq_of_le (Nat.le_of_lt_succ hj) with h | h
              · exact hne j h
              · rw [h, ← HX.out, ← HY.out]; exact HWK.out
            · have t4 : decide ((0 : Int) < (y.f4.length : Int)) = true := by simp; omega
              have s4 : decide (0 < y.f4.length) = true := by simp; omega
              have hwk : wOk y x = false := by unfold wOk; simp [h0, h1, h2, h3, h4]
              have HWK := Aside0.mk hwk
              clear h0 h1 h2 h3 h4 hwk
              gi_wp2
              exact ⟨HKO.out.trans (KeepsOthers.setCell _ _ _), ⟨rfl, ⟨k, HK.out, by rw [← HX.out, ← HY.out]; exact HWK.out⟩, HB1.out.set _⟩, below_set (below_step HBW.out HW2.out) (by omega)⟩
          · have t3 : (y.f3 != x.f1 % 4294967296) = true := by simp [h3]
            have s3 : (y.f3 == x.f1 % 4294967296) = false := by simp [h3]
            have hwk : wOk y x = false := by unfold wOk; simp [h0, h1, h2, h3]
            have HWK := Aside0.mk hwk
            clear h0 h1 h2 h3 hwk
            gi_wp2
            exact ⟨HKO.out.trans (KeepsOthers.setCell _ _ _), ⟨rfl, ⟨k, HK.out, by rw [← HX.out, ← HY.out]; exact HWK.out⟩, HB1.out.set _⟩, below_set (below_step HBW.out HW2.out) (by omega)⟩
        · have t2 : (y.f2 != 1) = true := by simp [h2]
          have s2 : (y.f2 == 1) = false := by simp [h2]
          have hwk : wOk y x = false := by unfold wOk; simp [h0, h1, h2]
          have HWK := Aside0.mk hwk
          clear h0 h1 h2 hwk
          gi_wp2
          exact ⟨HKO.out.trans (KeepsOthers.setCell _ _ _), ⟨rfl, ⟨k, HK.out, by rw [← HX.out, ← HY.out]; exact HWK.out⟩, HB1.out.set _⟩, below_set (below_step HBW.out HW2.out) (by omega)⟩
      · have t1 : (y.f1 != -1) = true := by simp [h1]
        have s1 : (y.f1 == -1) = false := by simp [h1]
        have hwk : wOk y x = false := by unfold wOk; simp [h0, h1]
        have HWK := Aside0.mk hwk
        clear h0 h1 hwk
        gi_wp2
        exact ⟨HKO.out.trans (KeepsOthers.setCell _ _ _), ⟨rfl, ⟨k, HK.out, by rw [← HX.out, ← HY.out]; exact HWK.out⟩, HB1.out.set _⟩, below_set (below_step HBW.out HW2.out) (by omega)⟩
    · have t0 : (y.f0.toList != x.f0.toList) = true := by simp [h0]
      have s0 : (y.f0.toList == x.f0.toList) = false := by simp [h0]
      have hwk : wOk y x = false := by unfold wOk; simp [h0]
      have HWK := Aside0.mk hwk
      clear h0 hwk
      gi_wp2
      exact ⟨HKO.out.trans (KeepsOthers.setCell _ _ _), ⟨rfl, ⟨k, HK.out, by rw [← HX.out, ← HY.out]; exact HWK.out⟩, HB1.out.set _⟩, below_set (below_step HBW.out HW2.out) (by omega)⟩
  case done =>
    rintro D W hD ⟨hne, hB1⟩ hK
    have h2 := boxed_below b1 hB1
    have hc2 := h2.cell
    have hf2 := h2.frozen
    have hB : Below w.heap.size w W := hB0.trans (hB1.mono (by omega))
    have b0W := blk_below b0 hB1
    have hcm : W.cell? ⟨w.heap.size, 2, none⟩ = some (.slice (some ad) l.length c) := (blk_cell b0W 2).trans rfl
    rw [hLl] at hne
    have hr := HR.out
    rw [wordsF_true pl l hne, Bool.true_and] at hr
    subst hr
    have HT2 := Aside0.mk (HT.out W hB b0W)
    obtain ⟨i0, hi, hz0, hz1, hz2⟩ := info_parts info51
    have hcut : ∀ X : World, (Instr.slice 26 (.slice (some ad) l.length c) (some (.int .i64 111)) none none).run Try.prog X = .ok (.slice (if c = 111 then some ad else some (ad.add 555)) (l.length - 111) (c - 111)) X := fun X => by
      have h := cut_from (P := Try.prog) 26 51 .i64 Try.underlying26 hi 5 hz1 (some ad) l.length c 111 (by omega) (by omega) X
      rw [h]
      by_cases h9 : c = 111 <;> simp [h9]
    obtain ⟨A2, hA2⟩ : ∃ A2, A2 = (if c = 111 then some ad else some (ad.add 555)) := ⟨_, rfl⟩
    rw [← hA2] at hcut HT2
    clear hi hz0 hz1 hz2 i0 hA2
    clear hne
    gi_wp2_with (refine ⟨trivial, ?_⟩; gi_at_call 79; refine (callsIn_wide.2 HT2.out).mono ?_; rintro e X ⟨rfl, hbX⟩; have g2 := boxed_below h2 hbX; have hc3 := g2.cell; have hf3 := g2.frozen)
    exact cell_end1 _ Try.results47 w _ _ D ⟨by omega, by omega⟩ _ _ rfl ((KeepsOthers.setCell _ _ _).same D _ (abA_keeps hbX hK rfl) rfl) (g2.set _) (below_set (below_step hB hbX) (by omega))
  case stop =>
    rintro D cc k W hD hkk ⟨⟨rfl, ⟨j, hj, hx⟩, h2⟩, hB⟩ hK
    have hr := HR.out
    rw [wordsF_false pl l j hj hx] at hr
    simp only [Bool.false_and] at hr
    subst hr
    gi_wp2
    exact cell_end1 _ Try.results47 w _ _ D ⟨by omega, by omega⟩ _ _ rfl hK h2 hB
end Go.Proofs.Ytfpkakedlapmkaa.Q
end
section
set_option linter.unusedSimpArgs false
set_option linter.unusedVariables false
namespace Go.Proofs.Ytfpkakedlapmkaa.Q
open Go.RowKit Go.Proofs.YtfpkakedlapmkaaW.PrintWords Go.Proofs.YtfpkakedlapmkaaW.PrintLast
set_option maxHeartbeats 4000000 in
set_option maxRecDepth 100000 in
theorem wordsShort_calls (v0 v1 : Value) (A : Option Addr) (c n : Nat) (v3 : Value) (a4 : Int) (v5 : Value) (a6 : Int) (v7 : Value) (a8 : Int) (a9 : ByteArray) (w : World) (hn : 640 < n ∨ n < 111) :
    Calls Try.prog 47 #[.agg #[v0, v1, .slice A n c, v3, .int .u32 a4, v5, .int .i64 a6, v7, .int .i64 a8, .string a9]] w fun e w' => e = .returned (.bool false) ∧ Below w.heap.size w w' := by
  have HB := Aside0.mk (Below.refl w.heap.size w)
  have hu32 := Try.underlying32
  by_cases h1 : 640 < n
  · have d1 : decide ((640 : Int) < (n : Int)) = true := decide_eq_true (by omega)
    clear hn h1
    go_enter Try.func47, Try.ntmps47
    go_wp2
    refine bodyPost_ret (v := .bool false) ?_ rfl ⟨rfl, by repeat (first | exact HB.out | apply below_alloc | refine below_set ?_ (by simp))⟩
    simp [results, Try.results47, go_sem]
  · have d1 : decide ((640 : Int) < (n : Int)) = false := decide_eq_false (by omega)
    have d2 : decide ((n : Int) < 111) = true := decide_eq_true (by omega)
    clear hn h1
    go_enter Try.func47, Try.ntmps47
    go_wp2
    refine bodyPost_ret (v := .bool false) ?_ rfl ⟨rfl, by repeat (first | exact HB.out | apply below_alloc | refine below_set ?_ (by simp))⟩
    simp [results, Try.results47, go_sem]
end Go.Proofs.Ytfpkakedlapmkaa.Q
end
section
set_option linter.unusedVariables false
namespace Go.Proofs.Ytfpkakedlapmkaa.Q
open Go.RowKit Go.Proofs.YtfpkakedlapmkaaW.PrintWords Go.Proofs.YtfpkakedlapmkaaW.PrintLast
def idxP {α : Type} (P : α → Bool) : List α → Int
  | [] => -1
  | x :: r => if P x = true then 0 else if idxP P r < 0 then -1 else idxP P r + 1
theorem idxP_range {α : Type} (P : α → Bool) : ∀ l : List α, -1 ≤ idxP P l ∧ idxP P l < l.length
  | [] => ⟨Int.le_refl _, by simp [idxP]⟩
  | x :: r => by
    have ih := idxP_range P r
    unfold idxP
    rw [List.length_cons]
    split
    · omega
    · split <;> omega
theorem idxP_drop {α : Type} (P : α → Bool) (z : α) : ∀ (l : List α) (i : Nat), (∀ j, j < i → P (l.getD j z) = false) → idxP P l = if idxP P (l.drop i) < 0 then -1 else idxP P (l.drop i) + i
  | l, 0, _ => by
    have := idxP_range P l
    rw [List.drop_zero]
    split <;> omega
  | [], i + 1, _ => by simp [idxP]
  | x :: r, i + 1, h => by
    have ih := idxP_drop P z r i (fun j hj => by
      have := h (j + 1) (by omega)
      rwa [List.getD_cons_succ] at this)
    have h0 : ¬ P x = true := by
      have := h 0 (by omega)
      rw [List.getD_cons_zero] at this
      rw [this]
      exact Bool.false_ne_true
    have hr := idxP_range P (r.drop i)
    rw [List.drop_succ_cons, idxP, if_neg h0, ih]
    by_cases hq : idxP P (List.drop i r) < 0
    · rw [if_pos hq, if_pos (by decide), if_pos hq]
    · rw [if_neg hq, if_neg (by omega)]
      omega
theorem idxP_here {α : Type} (P : α → Bool) (z : α) (l : List α) (i : Nat) (h : ∀ j, j < i → P (l.getD j z) = false) (hi : i < l.length) (hp : P (l.getD i z) = true) : idxP P l = i := by
  rw [idxP_drop P z l i h, List.drop_eq_getElem_cons hi, idxP]
  rw [List.getD_eq_getElem?_getD, List.getElem?_eq_getElem hi, Option.getD_some] at hp
  rw [if_pos hp, if_neg (by decide)]
  omega
theorem idxP_any {α : Type} (P : α → Bool) : ∀ l : List α, decide (0 ≤ idxP P l) = l.any P
  | [] => rfl
  | x :: r => by
    have ih := idxP_any P r
    have hr := idxP_range P r
    rw [idxP, List.any_cons, ← ih]
    by_cases hp : P x = true
    · rw [if_pos hp, hp]; rfl
    · rw [if_neg hp, Bool.eq_false_iff.2 hp, Bool.false_or]
      by_cases hq : idxP P r < 0
      · rw [if_pos hq]
        exact decide_eq_decide.2 (by omega)
      · rw [if_neg hq]
        exact decide_eq_decide.2 (by omega)
end Go.Proofs.Ytfpkakedlapmkaa.Q
end
section
namespace Go.Proofs.Ytfpkakedlapmkaa.Q
open Go.RowKit Go.Proofs.YtfpkakedlapmkaaW.PrintWords Go.Proofs.YtfpkakedlapmkaaW.PrintLast Go.Proofs.YtfpkakedlapmkaaW.PrintMore
set_option linter.unusedVariables false
set_option linter.unusedSimpArgs false

attribute [local go_sem] max2_int min2_int max_two min_two max_three min_three max_four min_four
/-! ### tinderref09_Sound: function 20 -/
mutual
def tinderref09_Sound.l0 : Nat → List (S69) → Int → Int → Option (Bool)
  | 0, _, _, _ => none
  | k + 1, x0, x1, x5 => if x5 < (x0.length : Int) then (if 0 ≤ x5 then (if ((rd_T69 x0 x5).f0) = 1 then (tinderref09_Sound.l0 k x0 x1 (wrap64 (x5 + 1))) else (if ((rd_T69 x0 x5).f0) = 2 then (tinderref09_Sound.j1 k x0 x1 x5 (wrap64 ((rd_T69 x0 x5).f1)) ((rd_T69 x0 x5).f0) (((rd_T69 x0 x5).f0) == 2)) else (tinderref09_Sound.j1 k x0 x1 x5 (wrap64 ((rd_T69 x0 x5).f1)) ((rd_T69 x0 x5).f0) (((rd_T69 x0 x5).f0) == 13)))) else (none)) else (some true)
def tinderref09_Sound.j1 : Nat → List (S69) → Int → Int → Int → Int → Bool → Option (Bool)
  | 0, _, _, _, _, _, _ => none
  | k + 1, x0, x1, x5, x6, x26, x29 => if x29 = true then (if x6 ≥ x1 then (some false) else (tinderref09_Sound.l0 k x0 x1 (wrap64 (x5 + 1)))) else (if x26 = 11 then (tinderref09_Sound.j2 k x0 x1 x5 x6 x26 (x26 == 11)) else (tinderref09_Sound.j2 k x0 x1 x5 x6 x26 (x26 == 12)))
def tinderref09_Sound.j2 : Nat → List (S69) → Int → Int → Int → Int → Bool → Option (Bool)
  | 0, _, _, _, _, _, _ => none
  | k + 1, x0, x1, x5, x6, x26, x35 => if x35 = true then (if x6 = 0 then (tinderref09_Sound.l0 k x0 x1 (wrap64 (x5 + 1))) else (some false)) else (if x26 = 3 then (tinderref09_Sound.j3 k x0 x1 x5 x6 (x26 == 3)) else (if x26 = 4 then (tinderref09_Sound.j3 k x0 x1 x5 x6 (x26 == 4)) else (if x26 = 5 then (tinderref09_Sound.j3 k x0 x1 x5 x6 (x26 == 5)) else (if x26 = 6 then (tinderref09_Sound.j3 k x0 x1 x5 x6 (x26 == 6)) else (if x26 = 7 then (tinderref09_Sound.j3 k x0 x1 x5 x6 (x26 == 7)) else (if x26 = 8 then (tinderref09_Sound.j3 k x0 x1 x5 x6 (x26 == 8)) else (if x26 = 9 then (tinderref09_Sound.j3 k x0 x1 x5 x6 (x26 == 9)) else (tinderref09_Sound.j3 k x0 x1 x5 x6 (x26 == 10)))))))))
def tinderref09_Sound.j3 : Nat → List (S69) → Int → Int → Int → Bool → Option (Bool)
  | 0, _, _, _, _, _ => none
  | k + 1, x0, x1, x5, x6, x40 => if x40 = true then (if x6 > (x0.length : Int) then (some false) else (tinderref09_Sound.l0 k x0 x1 (wrap64 (x5 + 1)))) else (some false)
end
def tinderref09_Sound.f (k : Nat) (l0 : List (S69)) (a1 : Int) : Option (Bool) := if (l0.length : Int) > 256 then (some false) else (tinderref09_Sound.l0 k l0 a1 0)

end Go.Proofs.Ytfpkakedlapmkaa.Q
end
section
namespace Go.Proofs.Ytfpkakedlapmkaa.Q
open Go.RowKit Go.Proofs.YtfpkakedlapmkaaW.PrintWords Go.Proofs.YtfpkakedlapmkaaW.PrintLast Go.Proofs.YtfpkakedlapmkaaW.PrintMore
set_option linter.unusedVariables false
set_option linter.unusedSimpArgs false

attribute [local go_sem] max2_int min2_int max_two min_two max_three min_three max_four min_four
/-! ### tinderref09_Named: function 21 -/
def tinderref09_Named.l0 : Nat → ByteArray → Int → Option (Bool)
  | 0, _, _ => none
  | k + 1, x0, x3 => if x3 < (x0.size : Int) then (if 0 ≤ x3 then (if (bt x0 x3) < 33 then (some false) else (if (bt x0 x3) > 126 then (some false) else (if (bt x0 x3) ≥ 65 then (if (bt x0 x3) ≤ 90 then (some false) else (tinderref09_Named.l0 k x0 (wrap64 (x3 + 1)))) else (tinderref09_Named.l0 k x0 (wrap64 (x3 + 1)))))) else (none)) else (if (x0.size : Int) ≥ 1 then (some (decide ((x0.size : Int) ≤ 31))) else (some false))
def tinderref09_Named.f (k : Nat) (a0 : ByteArray) : Option (Bool) := tinderref09_Named.l0 k a0 0

end Go.Proofs.Ytfpkakedlapmkaa.Q
end
section
set_option linter.unusedSimpArgs false
set_option linter.unusedVariables false
namespace Go.Proofs.Ytfpkakedlapmkaa.Q
open Go.RowKit Go.Proofs.YtfpkakedlapmkaaW.PrintWords Go.Proofs.YtfpkakedlapmkaaW.PrintLast
/-- Is an instruction sound, among so many and so many words? -/
def opB (len words : Int) (x : S69) : Bool :=
  if x.f0 = 1 then true else if x.f0 = 2 ∨ x.f0 = 13 then decide (wrap64 x.f1 < words) else if x.f0 = 11 ∨ x.f0 = 12 then decide (wrap64 x.f1 = 0)
  else if x.f0 = 3 ∨ x.f0 = 4 ∨ x.f0 = 5 ∨ x.f0 = 6 ∨ x.f0 = 7 ∨ x.f0 = 8 ∨ x.f0 = 9 ∨ x.f0 = 10 then decide (wrap64 x.f1 ≤ len) else false
def soundF (l : List S69) (words : Int) : Bool := !decide (256 < (l.length : Int)) && l.all (opB l.length words)
theorem all_at {α : Type} (P : α → Bool) (z : α) (l : List α) (i : Int) (h0 : 0 ≤ i) (h1 : i < l.length) : (l.drop i.toNat).all P = (P (l.getD i.toNat z) && (l.drop (i + 1).toNat).all P) := by
  rw [List.drop_eq_getElem_cons (show i.toNat < l.length by omega), show (i + 1).toNat = i.toNat + 1 by omega, List.all_cons]
  simp [List.getD_eq_getElem?_getD, List.getElem?_eq_getElem (show i.toNat < l.length by omega)]
theorem ite_some_and (p : Prop) [Decidable p] (R : Bool) : (if p then some R else some false) = some (decide p && R) := by
  by_cases h : p
  · rw [if_pos h, decide_eq_true h]; rfl
  · rw [if_neg h, decide_eq_false h]; rfl
theorem dsound_go (l : List S69) (words : Int) (hl : l.length ≤ 256) : ∀ (d k : Nat) (i : Int), 0 ≤ i → i + d = l.length → 4 * d + 4 ≤ k → dict_Sound.l0 k l words l (l.length : Int) i = some ((l.drop i.toNat).all (opB l.length words))
  | 0, k, i, h0, h1, hk => by
    obtain ⟨k, rfl⟩ : ∃ m, k = m + 1 := ⟨k - 1, by omega⟩
    rw [dict_Sound.l0, if_neg (by omega), List.drop_eq_nil_of_le (by omega)]
    rfl
  | d + 1, k, i, h0, h1, hk => by
    obtain ⟨k, rfl⟩ : ∃ m, k = m + 4 := ⟨k - 4, by omega⟩
    have hw : wrap64 (i + 1) = i + 1 := by unfold wrap64; omega
    have ih := fun (k' : Nat) (h : 4 * d + 4 ≤ k') => dsound_go l words hl d k' (i + 1) (by omega) (by omega) h
    rw [all_at (opB l.length words) z69 l i h0 (by omega)]
    generalize hR : (l.drop (i + 1).toNat).all (opB l.length words) = R at ih ⊢
    rw [show l.getD i.toNat z69 = rd_T69 l i from rfl]
    generalize hx : rd_T69 l i = x
    rw [dict_Sound.l0, if_pos (by omega), if_pos h0, if_pos (by omega), hw, hx]
    unfold opB
    by_cases e1 : x.f0 = 1
    · rw [if_pos e1, if_pos e1, ih _ (by omega)]; rfl
    rw [if_neg e1, if_neg e1]
    by_cases e2 : x.f0 = 2
    · rw [if_pos e2, if_pos (.inl e2), beq_iff_eq.2 e2, dict_Sound.j1, if_pos rfl, hw, ih _ (by omega), ite_some_and]
    rw [if_neg e2]
    by_cases e3 : x.f0 = 13
    · rw [if_pos (.inr e3), beq_iff_eq.2 e3, dict_Sound.j1, if_pos rfl, hw, ih _ (by omega), ite_some_and]
    rw [if_neg (by omega), beq_eq_false_iff_ne.2 e3, dict_Sound.j1, if_neg (by simp)]
    by_cases e4 : x.f0 = 11
    · rw [if_pos e4, if_pos (.inl e4), beq_iff_eq.2 e4, dict_Sound.j2, if_pos rfl, hw, ih _ (by omega), ite_some_and]
    rw [if_neg e4]
    by_cases e5 : x.f0 = 12
    · rw [if_pos (.inr e5), beq_iff_eq.2 e5, dict_Sound.j2, if_pos rfl, hw, ih _ (by omega), ite_some_and]
    rw [if_neg (by omega), beq_eq_false_iff_ne.2 e5, dict_Sound.j2, if_neg (by simp)]
    by_cases f3 : x.f0 = 3
    · rw [if_pos f3, if_pos (by omega), beq_iff_eq.2 f3, dict_Sound.j3, if_pos rfl, hw, ih _ (by omega), ite_some_and]
    rw [if_neg f3]
    by_cases f4 : x.f0 = 4
    · rw [if_pos f4, if_pos (by omega), beq_iff_eq.2 f4, dict_Sound.j3, if_pos rfl, hw, ih _ (by omega), ite_some_and]
    rw [if_neg f4]
    by_cases f5 : x.f0 = 5
    · rw [if_pos f5, if_pos (by omega), beq_iff_eq.2 f5, dict_Sound.j3, if_pos rfl, hw, ih _ (by omega), ite_some_and]
    rw [if_neg f5]
    by_cases f6 : x.f0 = 6
    · rw [if_pos f6, if_pos (by omega), beq_iff_eq.2 f6, dict_Sound.j3, if_pos rfl, hw, ih _ (by omega), ite_some_and]
    rw [if_neg f6]
    by_cases f7 : x.f0 = 7
    · rw [if_pos f7, if_pos (by omega), beq_iff_eq.2 f7, dict_Sound.j3, if_pos rfl, hw, ih _ (by omega), ite_some_and]
    rw [if_neg f7]
    by_cases f8 : x.f0 = 8
    · rw [if_pos f8, if_pos (by omega), beq_iff_eq.2 f8, dict_Sound.j3, if_pos rfl, hw, ih _ (by omega), ite_some_and]
    rw [if_neg f8]
    by_cases f9 : x.f0 = 9
    · rw [if_pos f9, if_pos (by omega), beq_iff_eq.2 f9, dict_Sound.j3, if_pos rfl, hw, ih _ (by omega), ite_some_and]
    rw [if_neg f9]
    by_cases f10 : x.f0 = 10
    · rw [if_pos (by omega), beq_iff_eq.2 f10, dict_Sound.j3, if_pos rfl, hw, ih _ (by omega), ite_some_and]
    rw [if_neg (by omega), beq_eq_false_iff_ne.2 f10, dict_Sound.j3, if_neg (by simp), if_neg (by simp)]
    rfl
theorem dsound_eq (l : List S69) (words : Int) (k : Nat) (hk : 2000 ≤ k) : dict_Sound.f k l words = some (soundF l words) := by
  unfold dict_Sound.f soundF
  by_cases h : (l.length : Int) > 256
  · rw [if_pos h, decide_eq_true (show 256 < (l.length : Int) from h)]; rfl
  · rw [if_neg h, decide_eq_false (show ¬ 256 < (l.length : Int) from h), dsound_go l words (by omega) l.length k 0 (Int.le_refl _) (by omega) (by omega)]
    rfl
end Go.Proofs.Ytfpkakedlapmkaa.Q
end
section
set_option linter.unusedSimpArgs false
set_option linter.unusedVariables false
namespace Go.Proofs.Ytfpkakedlapmkaa.Q
open Go.RowKit Go.Proofs.YtfpkakedlapmkaaW.PrintWords Go.Proofs.YtfpkakedlapmkaaW.PrintLast Go.Proofs.YtfpkakedlapmkaaW.PrintMore
attribute [local go_sem] max2_int min2_int max_two min_two max_three min_three max_four min_four
def kindB (words : Int) (t : List S91) (x : S51) : Bool :=
  if x.f2 = 2 then (x.f3 == 0) && soundF x.f4 words else if x.f2 = 6 then ((x.f4.length : Int) == 0) && decide (wrap64 x.f3 < words)
  else if x.f2 = 7 then ((x.f4.length : Int) == 0) && (decide (0 ≤ x.f1) && decide (wrap64 x.f3 < ((rd_T91 t x.f1).f4.length : Int)))
  else if x.f2 = 3 ∨ x.f2 = 4 ∨ x.f2 = 5 then ((x.f4.length : Int) == 0) else false
def rightB (words : Int) (t : List S91) (x : S51) : Bool := ((x.f0.toList == ([] : List UInt8)) || dNamed x.f0) && (decide (-1 ≤ x.f1) && (decide (x.f1 < (t.length : Int)) && kindB words t x))
theorem rightj_eq (words : Int) (t : List S91) (x : S51) (b : Bool) (hb : b = false → -1 ≤ x.f1 ∧ x.f1 < (t.length : Int)) (k : Nat) (hk : 2001 ≤ k) : dict_right.j0 k words t b x.f0 x.f1 x.f2 x.f3 x.f4 = some (!b && kindB words t x) := by
  obtain ⟨k, rfl⟩ : ∃ m, k = m + 1 := ⟨k - 1, by omega⟩
  rw [dict_right.j0]
  cases b with
  | true => rfl
  | false =>
    obtain ⟨h1, h2⟩ := hb rfl
    rw [if_neg (by simp)]
    unfold kindB
    by_cases e2 : x.f2 = 2
    · rw [if_pos e2, if_pos e2, dsound_eq _ _ _ (by omega), Option.bind_some]
      by_cases h : x.f3 = 0
      · rw [if_pos h, beq_iff_eq.2 h]; rfl
      · rw [if_neg h, beq_eq_false_iff_ne.2 h]; rfl
    rw [if_neg e2, if_neg e2]
    by_cases e6 : x.f2 = 6
    · rw [if_pos e6, if_pos e6]
      by_cases h : (x.f4.length : Int) = 0
      · rw [if_pos h, beq_iff_eq.2 h]; rfl
      · rw [if_neg h, beq_eq_false_iff_ne.2 h]; rfl
    rw [if_neg e6, if_neg e6]
    by_cases e7 : x.f2 = 7
    · rw [if_pos e7, if_pos e7]
      by_cases h : (x.f4.length : Int) = 0
      · rw [if_pos h, beq_iff_eq.2 h]
        by_cases h0 : 0 ≤ x.f1
        · rw [if_pos h0, if_pos h0, if_pos h2, decide_eq_true h0]; rfl
        · rw [if_neg h0, decide_eq_false h0]; rfl
      · rw [if_neg h, beq_eq_false_iff_ne.2 h]; rfl
    rw [if_neg e7, if_neg e7]
    by_cases e3 : x.f2 = 3
    · rw [if_pos e3, if_pos (.inl e3)]; rfl
    rw [if_neg e3]
    by_cases e4 : x.f2 = 4
    · rw [if_pos e4, if_pos (.inr (.inl e4))]; rfl
    rw [if_neg e4]
    by_cases e5 : x.f2 = 5
    · rw [if_pos e5, if_pos (.inr (.inr e5))]; rfl
    rw [if_neg e5, if_neg (by omega)]
    rfl
theorem right_eq (words : Int) (t : List S91) (x : S51) (k : Nat) (hk : 2001 ≤ k) : dict_right.f k x.f0 x.f1 x.f2 x.f3 x.f4 words t = some (rightB words t x) := by
  have hj := fun (b : Bool) (h : b = false → -1 ≤ x.f1 ∧ x.f1 < (t.length : Int)) => rightj_eq words t x b h k hk
  have main : (if x.f1 < -1 then dict_right.j0 k words t true x.f0 x.f1 x.f2 x.f3 x.f4 else dict_right.j0 k words t (decide (x.f1 ≥ (t.length : Int))) x.f0 x.f1 x.f2 x.f3 x.f4) = some (decide (-1 ≤ x.f1) && (decide (x.f1 < (t.length : Int)) && kindB words t x)) := by
    by_cases h1 : x.f1 < -1
    · rw [if_pos h1, hj true (fun h => by cases h), decide_eq_false (by omega : ¬ -1 ≤ x.f1)]; rfl
    · rw [if_neg h1, decide_eq_true (by omega : -1 ≤ x.f1), hj _ (fun h => ⟨by omega, by have := of_decide_eq_false h; omega⟩)]
      by_cases h2 : x.f1 < (t.length : Int)
      · rw [decide_eq_true h2, decide_eq_false (by omega)]; rfl
      · rw [decide_eq_false h2, decide_eq_true (by omega)]; rfl
  unfold dict_right.f rightB
  by_cases h0 : x.f0.toList = ([] : List UInt8)
  · rw [if_pos h0, main, beq_iff_eq.2 h0]; rfl
  · rw [if_neg h0, show dict_Named.f x.f0 = some (dNamed x.f0) from rfl, Option.bind_some, beq_eq_false_iff_ne.2 h0, Bool.false_or]
    cases dNamed x.f0 with
    | true => rw [if_pos rfl, main]; rfl
    | false => rw [if_neg (by simp), hj true (fun h => by cases h)]; rfl
def badW (words : Int) (t : List S91) (x : S51) : Bool := !rightB words t x
set_option maxHeartbeats 2000000 in
set_option maxRecDepth 100000 in
theorem rightC_calls (x : S51) (A4 : Option Addr) (c4 : Nat) (gb : Nat) (v0 v1 : Value) (A2 : Option Addr) (n2 c2 : Nat) (v3 : Value) (a4 : Int) (A5 : Option Addr) (t : List S91) (c5 : Nat) (a6 : Int) (v7 : Value) (a8 : Int) (a9 : ByteArray) (w : World) (hh : w.heap[gb]? = some (.cells #[v0, v1, .slice A2 n2 c2, v3, .int .u32 a4, .slice A5 t.length c5, .int .i64 a6, v7, .int .i64 a8, .string a9] 32 (0, 0)))
    (hx : Kd.C k69 w A4 x.f4.length x.f4) (hxc : x.f4.length ≤ c4) (ht : Kd.C k91 w A5 t.length t) (htc : t.length ≤ c5) :
    Calls Try.prog 80 #[.agg #[.string x.f0, .int .i64 x.f1, .int .i64 x.f2, .int .u32 x.f3, .slice A4 x.f4.length c4], .pointer (some ⟨gb, 0, none⟩)] w fun e w' => e = .returned (.bool (badW n2 t x)) ∧ Below w.heap.size w w' := by
  have hu32 := Try.underlying32
  have hu51 := Try.underlying51
  have HH := Aside0.mk hh
  have HLT := Aside0.mk (blk_lt hh)
  have HRT := Aside0.mk (fun (W : World) (hb : Below w.heap.size w W) => dict_right.calls 2001 x.f0 x.f1 x.f2 x.f3 A4 c4 x.f4 n2 A5 c5 t (rightB n2 t x) W (Kd.C_below hx hb) hxc (Kd.C_below ht hb) htc (right_eq n2 t x _ (Nat.le_refl _)))
  clear hh hx hxc ht htc
  unfold badW
  generalize rightB n2 t x = rb at HRT ⊢
  go_enter Try.func80, Try.ntmps80
  go_wp2_with (first
    | ((with_reducible refine gate_dst (N := 2) rfl ?_); refine box_event ?hg (N := 2) ?hd (cs := #[.string x.f0, .int .i64 x.f1, .int .i64 x.f2, .int .u32 x.f3, .slice A4 x.f4.length c4]) (t := 51) ?hr ?_; (case hd => rfl); (case hg => rfl); (case hr => first | (go_simp; done) | (go_simp; rfl)); intro ga hga w1 hbox hb; have BK := Aside0.mk hbox; have hz0 := (blk_cell BK.out 0).trans rfl; have hf0 := blk_frozen BK.out 0; have hz1 := (blk_cell BK.out 1).trans rfl; have hf1 := blk_frozen BK.out 1; have hz2 := (blk_cell BK.out 2).trans rfl; have hf2 := blk_frozen BK.out 2; have hz3 := (blk_cell BK.out 3).trans rfl; have hf3 := blk_frozen BK.out 3; have hz4 := (blk_cell BK.out 4).trans rfl; have hf4 := blk_frozen BK.out 4; have hs2 : w1.cell? ⟨gb, 2, none⟩ = some (.slice A2 n2 c2) := (hb.cell (p := ⟨gb, 2, none⟩) HLT.out).trans ((blk_cell HH.out 2).trans rfl); have hs5 : w1.cell? ⟨gb, 5, none⟩ = some (.slice A5 t.length c5) := (hb.cell (p := ⟨gb, 5, none⟩) HLT.out).trans ((blk_cell HH.out 5).trans rfl); have HB := Aside0.mk hb; clear hbox hb hga)
    | (go_at_call 65; (with_reducible refine (HRT.out _ HB.out).mono ?_); rintro e w2 ⟨rfl, hb⟩; have HB2 := Aside0.mk (below_step HB.out hb); clear hb))
  go_ret
  exact ⟨rfl, HB2.out⟩
set_option maxHeartbeats 2000000 in
set_option maxRecDepth 100000 in
theorem indexWord_calls (gb : Nat) (v0 v1 : Value) (A2 : Option Addr) (n2 c2 : Nat) (v3 : Value) (a4 : Int) (A5 : Option Addr) (t : List S91) (c5 : Nat) (a6 : Int) (v7 : Value) (a8 : Int) (a9 : ByteArray) (A : Option Addr) (c : Nat) (l : List S51) (w : World) (hC : Kd.C k51 w A l.length l) (hh : w.heap[gb]? = some (.cells #[v0, v1, .slice A2 n2 c2, v3, .int .u32 a4, .slice A5 t.length c5, .int .i64 a6, v7, .int .i64 a8, .string a9] 32 (0, 0))) (ht : Kd.C k91 w A5 t.length t) (htc : t.length ≤ c5) :
    Calls Try.prog 97 #[.slice A l.length c, .func (.func 80) #[] #[.pointer (some ⟨gb, 0, none⟩)]] w fun e w' => e = .returned (.int .i64 (idxP (badW n2 t) l)) ∧ Below w.heap.size w w' := by
  have hu51 := Try.underlying51
  have t1 := blk_lt hh
  have HC := Aside0.mk hC
  have HF := Aside0.mk (fun (x : S51) (A4 : Option Addr) (c4 : Nat) (W : World) (hb : Below w.heap.size w W) (hx : Kd.C k69 W A4 x.f4.length x.f4) (hxc : x.f4.length ≤ c4) => rightC_calls x A4 c4 gb v0 v1 A2 n2 c2 v3 a4 A5 t c5 a6 v7 a8 a9 W (by rw [hb.block gb t1]; exact hh) hx hxc (Kd.C_below ht hb) htc)
  clear hC hh ht htc
  go_enter Try.func97, Try.ntmps97
  go_wp2
  go_loopg [8] l.length (fun kq v8 w' => ∃ i : Int, v8 = .int .i64 i ∧ Aside0 (0 ≤ i ∧ i + kq = l.length) ∧ Aside0 (∀ j : Nat, j < i.toNat → (badW n2 t) (l.getD j z51) = false) ∧ Aside0 (Below w.heap.size w w'))
  case atStart => exact ⟨0, rfl, ⟨by omega, by omega⟩, ⟨fun j hj => absurd hj (by simp)⟩, ⟨Below.refl _ _⟩⟩
  case round =>
    obtain ⟨i, rfl, HI, HZ, HB⟩ := hrel
    cases gk with
    | zero =>
      have hlt : decide (i < (l.length : Int)) = false := decide_eq_false (by have := HI.out; omega)
      go_wp2
      go_ret
      have hz := HZ.out
      have hi := HI.out
      refine ⟨?_, HB.out⟩
      rw [idxP_drop (badW n2 t) z51 l i.toNat hz, List.drop_eq_nil_of_le (by omega)]
      rfl
    | succ k1 =>
      have hi := HI.out
      have hm := Kd.C_max HC.out
      have hlt : decide (i < (l.length : Int)) = true := decide_eq_true (by omega)
      have p1 : (0 ≤ i) = True := eq_true (by omega)
      have p2 : (i < (l.length : Int)) = True := eq_true (by omega)
      obtain ⟨ad, A4, c4, eA, hx0, hx1, hx2, hx3, hx4, hl4, hg4⟩ := at_T51 (Kd.C_below HC.out HB.out) i (by omega) (by omega)
      cases eA
      have HGD := Aside0.mk (show rd_T51 l i = l.getD i.toNat z51 from rfl)
      have HIN := Aside0.mk (show (badW n2 t) (rd_T51 l i) = true → idxP (badW n2 t) l = i from fun h => by
        rw [idxP_here (badW n2 t) z51 l i.toNat HZ.out (by omega) h]
        omega)
      have hwr : IntKind.i64.wrap (i + 1) = i + 1 := (i64_w _).trans (by unfold wrap64; omega)
      have hwr2 : wrap64 (i + 1) = i + 1 := by unfold wrap64; omega
      have HG1 := Aside0.mk hg4; have HL1 := Aside0.mk hl4; clear hl4 hg4
      clear hi hm
      obtain ⟨b, hb0⟩ : ∃ b, b = (badW n2 t) (rd_T51 l i) := ⟨_, rfl⟩
      have HBP := Aside0.mk hb0
      cases b with
      | true =>
        clear hb0
        go_wp2_with (first
          | (go_at_call 80; (with_reducible refine (HF.out (rd_T51 l i) A4 c4 _ HB.out HG1.out HL1.out).mono ?_); rintro e w2 ⟨rfl, hb⟩; rw [← HBP.out]; have HB2 := Aside0.mk (below_step HB.out hb); clear hb))
        go_ret
        exact ⟨by rw [HIN.out HBP.out.symm]; rfl, HB2.out⟩
      | false =>
        clear hb0
        go_wp2_with (first
          | (go_at_call 80; (with_reducible refine (HF.out (rd_T51 l i) A4 c4 _ HB.out HG1.out HL1.out).mono ?_); rintro e w2 ⟨rfl, hb⟩; rw [← HBP.out]; have HB2 := Aside0.mk (below_step HB.out hb); clear hb))
        go_roundg k1
        case measure => omega
        case rel =>
          have hi := HI.out
          refine ⟨i + 1, rfl, ⟨by omega, by omega⟩, ⟨fun j hj => ?_⟩, HB2⟩
          by_cases hji : j = i.toNat
          · subst hji
            rw [← HGD.out]
            exact HBP.out.symm
          · exact HZ.out j (by omega)
theorem containsWord_calls (gb : Nat) (v0 v1 : Value) (A2 : Option Addr) (n2 c2 : Nat) (v3 : Value) (a4 : Int) (A5 : Option Addr) (t : List S91) (c5 : Nat) (a6 : Int) (v7 : Value) (a8 : Int) (a9 : ByteArray) (A : Option Addr) (c : Nat) (l : List S51) (w : World) (hC : Kd.C k51 w A l.length l) (hh : w.heap[gb]? = some (.cells #[v0, v1, .slice A2 n2 c2, v3, .int .u32 a4, .slice A5 t.length c5, .int .i64 a6, v7, .int .i64 a8, .string a9] 32 (0, 0))) (ht : Kd.C k91 w A5 t.length t) (htc : t.length ≤ c5) :
    Calls Try.prog 79 #[.slice A l.length c, .func (.func 80) #[] #[.pointer (some ⟨gb, 0, none⟩)]] w fun e w' => e = .returned (.bool (l.any (badW n2 t))) ∧ Below w.heap.size w w' := by
  have HIX := Aside0.mk (indexWord_calls gb v0 v1 A2 n2 c2 v3 a4 A5 t c5 a6 v7 a8 a9 A c l w hC hh ht htc)
  have HAN := Aside0.mk (idxP_any (badW n2 t) l)
  clear hC hh ht htc
  go_enter Try.func79, Try.ntmps79
  go_wp2_with (go_at_call 97; refine HIX.out.mono ?_; rintro e w1 ⟨rfl, hb⟩; have HB := Aside0.mk hb; clear hb)
  go_ret
  exact ⟨by rw [← HAN.out]; rfl, HB.out⟩
def wildB (n : Nat) (x : Int) : Bool := decide (x < -1) || decide ((n : Int) ≤ x)
set_option maxHeartbeats 2000000 in
set_option maxRecDepth 100000 in
theorem wildC_calls (x : Int) (gb : Nat) (v0 v1 : Value) (A2 : Option Addr) (n2 c2 : Nat) (v3 : Value) (a4 : Int) (A5 : Option Addr) (t : List S91) (c5 : Nat) (a6 : Int) (v7 : Value) (a8 : Int) (a9 : ByteArray) (w : World) (hh : w.heap[gb]? = some (.cells #[v0, v1, .slice A2 n2 c2, v3, .int .u32 a4, .slice A5 t.length c5, .int .i64 a6, v7, .int .i64 a8, .string a9] 32 (0, 0))) :
    Calls Try.prog 45 #[.int .i64 x, .pointer (some ⟨gb, 0, none⟩)] w fun e w' => e = .returned (.bool (wildB n2 x)) ∧ Below w.heap.size w w' := by
  have hu32 := Try.underlying32
  have hs2 : w.cell? ⟨gb, 2, none⟩ = some (.slice A2 n2 c2) := (blk_cell hh 2).trans rfl
  have hf2 := blk_frozen hh 2
  clear hh
  unfold wildB
  cases d : decide (x < -1)
  all_goals (
    go_enter Try.func45, Try.ntmps45
    go_wp2
    go_ret
    exact ⟨by simp, Below.refl _ _⟩)
set_option maxHeartbeats 2000000 in
set_option maxRecDepth 100000 in
theorem indexInt_calls (gb : Nat) (v0 v1 : Value) (A2 : Option Addr) (n2 c2 : Nat) (v3 : Value) (a4 : Int) (A5 : Option Addr) (t : List S91) (c5 : Nat) (a6 : Int) (v7 : Value) (a8 : Int) (a9 : ByteArray) (A : Option Addr) (c : Nat) (l : List Int) (w : World) (hC : Kd.C (Kd.int .i64) w A l.length l) (hh : w.heap[gb]? = some (.cells #[v0, v1, .slice A2 n2 c2, v3, .int .u32 a4, .slice A5 t.length c5, .int .i64 a6, v7, .int .i64 a8, .string a9] 32 (0, 0))) :
    Calls Try.prog 81 #[.slice A l.length c, .func (.func 45) #[] #[.pointer (some ⟨gb, 0, none⟩)]] w fun e w' => e = .returned (.int .i64 (idxP (wildB n2) l)) ∧ Below w.heap.size w w' := by
  have t1 := blk_lt hh
  have HC := Aside0.mk hC
  have HF := Aside0.mk (fun (x : Int)  (W : World) (hb : Below w.heap.size w W)  => wildC_calls x gb v0 v1 A2 n2 c2 v3 a4 A5 t c5 a6 v7 a8 a9 W (by rw [hb.block gb t1]; exact hh))
  clear hC hh
  go_enter Try.func81, Try.ntmps81
  go_wp2
  go_loopg [8] l.length (fun kq v8 w' => ∃ i : Int, v8 = .int .i64 i ∧ Aside0 (0 ≤ i ∧ i + kq = l.length) ∧ Aside0 (∀ j : Nat, j < i.toNat → (wildB n2) (l.getD j (0 : Int)) = false) ∧ Aside0 (Below w.heap.size w w'))
  case atStart => exact ⟨0, rfl, ⟨by omega, by omega⟩, ⟨fun j hj => absurd hj (by simp)⟩, ⟨Below.refl _ _⟩⟩
  case round =>
    obtain ⟨i, rfl, HI, HZ, HB⟩ := hrel
    cases gk with
    | zero =>
      have hlt : decide (i < (l.length : Int)) = false := decide_eq_false (by have := HI.out; omega)
      go_wp2
      go_ret
      have hz := HZ.out
      have hi := HI.out
      refine ⟨?_, HB.out⟩
      rw [idxP_drop (wildB n2) (0 : Int) l i.toNat hz, List.drop_eq_nil_of_le (by omega)]
      rfl
    | succ k1 =>
      have hi := HI.out
      have hm := Kd.C_max HC.out
      have hlt : decide (i < (l.length : Int)) = true := decide_eq_true (by omega)
      have p1 : (0 ≤ i) = True := eq_true (by omega)
      have p2 : (i < (l.length : Int)) = True := eq_true (by omega)
      obtain ⟨ad, eA, hx0⟩ := Kd.at_int (Kd.C_below HC.out HB.out) i (by omega) (by omega)
      cases eA
      have HGD := Aside0.mk (show rd l i = l.getD i.toNat (0 : Int) from rfl)
      have HIN := Aside0.mk (show (wildB n2) (rd l i) = true → idxP (wildB n2) l = i from fun h => by
        rw [idxP_here (wildB n2) (0 : Int) l i.toNat HZ.out (by omega) h]
        omega)
      have hwr : IntKind.i64.wrap (i + 1) = i + 1 := (i64_w _).trans (by unfold wrap64; omega)
      have hwr2 : wrap64 (i + 1) = i + 1 := by unfold wrap64; omega
      skip
      clear hi hm
      obtain ⟨b, hb0⟩ : ∃ b, b = (wildB n2) (rd l i) := ⟨_, rfl⟩
      have HBP := Aside0.mk hb0
      cases b with
      | true =>
        clear hb0
        go_wp2_with (first
          | (go_at_call 45; (with_reducible refine (HF.out (rd l i)  _ HB.out ).mono ?_); rintro e w2 ⟨rfl, hb⟩; rw [← HBP.out]; have HB2 := Aside0.mk (below_step HB.out hb); clear hb))
        go_ret
        exact ⟨by rw [HIN.out HBP.out.symm]; rfl, HB2.out⟩
      | false =>
        clear hb0
        go_wp2_with (first
          | (go_at_call 45; (with_reducible refine (HF.out (rd l i)  _ HB.out ).mono ?_); rintro e w2 ⟨rfl, hb⟩; rw [← HBP.out]; have HB2 := Aside0.mk (below_step HB.out hb); clear hb))
        go_roundg k1
        case measure => omega
        case rel =>
          have hi := HI.out
          refine ⟨i + 1, rfl, ⟨by omega, by omega⟩, ⟨fun j hj => ?_⟩, HB2⟩
          by_cases hji : j = i.toNat
          · subst hji
            rw [← HGD.out]
            exact HBP.out.symm
          · exact HZ.out j (by omega)
theorem containsInt_calls (gb : Nat) (v0 v1 : Value) (A2 : Option Addr) (n2 c2 : Nat) (v3 : Value) (a4 : Int) (A5 : Option Addr) (t : List S91) (c5 : Nat) (a6 : Int) (v7 : Value) (a8 : Int) (a9 : ByteArray) (A : Option Addr) (c : Nat) (l : List Int) (w : World) (hC : Kd.C (Kd.int .i64) w A l.length l) (hh : w.heap[gb]? = some (.cells #[v0, v1, .slice A2 n2 c2, v3, .int .u32 a4, .slice A5 t.length c5, .int .i64 a6, v7, .int .i64 a8, .string a9] 32 (0, 0))) :
    Calls Try.prog 48 #[.slice A l.length c, .func (.func 45) #[] #[.pointer (some ⟨gb, 0, none⟩)]] w fun e w' => e = .returned (.bool (l.any (wildB n2))) ∧ Below w.heap.size w w' := by
  have HIX := Aside0.mk (indexInt_calls gb v0 v1 A2 n2 c2 v3 a4 A5 t c5 a6 v7 a8 a9 A c l w hC hh)
  have HAN := Aside0.mk (idxP_any (wildB n2) l)
  clear hC hh
  go_enter Try.func48, Try.ntmps48
  go_wp2_with (go_at_call 81; refine HIX.out.mono ?_; rintro e w1 ⟨rfl, hb⟩; have HB := Aside0.mk hb; clear hb)
  go_ret
  exact ⟨by rw [← HAN.out]; rfl, HB.out⟩
end Go.Proofs.Ytfpkakedlapmkaa.Q
end
section
set_option linter.unusedSimpArgs false
set_option linter.unusedVariables false
namespace Go.Proofs.Ytfpkakedlapmkaa.Q
open Go.RowKit Go.Shelf Go.Proofs.YtfpkakedlapmkaaW.PrintWords Go.Proofs.YtfpkakedlapmkaaW.PrintLast
attribute [local go_sem] Oper.semAt_some
set_option maxRecDepth 100000 in
def primsL : List S37 := [(⟨(⟨#[105]⟩ : ByteArray), 25⟩ : S37), (⟨(⟨#[106]⟩ : ByteArray), 26⟩ : S37), (⟨(⟨#[101, 120, 101, 99, 117, 116, 101]⟩ : ByteArray), 29⟩ : S37), (⟨(⟨#[43]⟩ : ByteArray), 30⟩ : S37), (⟨(⟨#[45]⟩ : ByteArray), 31⟩ : S37), (⟨(⟨#[42]⟩ : ByteArray), 32⟩ : S37), (⟨(⟨#[47]⟩ : ByteArray), 33⟩ : S37), (⟨(⟨#[109, 111, 100]⟩ : ByteArray), 34⟩ : S37), (⟨(⟨#[97, 110, 100]⟩ : ByteArray), 35⟩ : S37), (⟨(⟨#[111, 114]⟩ : ByteArray), 36⟩ : S37), (⟨(⟨#[120, 111, 114]⟩ : ByteArray), 37⟩ : S37), (⟨(⟨#[105, 110, 118, 101, 114, 116]⟩ : ByteArray), 38⟩ : S37), (⟨(⟨#[108, 115, 104, 105, 102, 116]⟩ : ByteArray), 39⟩ : S37), (⟨(⟨#[114, 115, 104, 105, 102, 116]⟩ : ByteArray), 40⟩ : S37), (⟨(⟨#[62, 62, 97]⟩ : ByteArray), 41⟩ : S37), (⟨(⟨#[47, 109, 111, 100]⟩ : ByteArray), 42⟩ : S37), (⟨(⟨#[117, 47, 109, 111, 100]⟩ : ByteArray), 43⟩ : S37), (⟨(⟨#[110, 101, 103, 97, 116, 101]⟩ : ByteArray), 44⟩ : S37), (⟨(⟨#[97, 98, 115]⟩ : ByteArray), 45⟩ : S37), (⟨(⟨#[109, 105, 110]⟩ : ByteArray), 46⟩ : S37), (⟨(⟨#[109, 97, 120]⟩ : ByteArray), 47⟩ : S37), (⟨(⟨#[62, 114]⟩ : ByteArray), 48⟩ : S37), (⟨(⟨#[114, 62]⟩ : ByteArray), 49⟩ : S37), (⟨(⟨#[114, 64]⟩ : ByteArray), 50⟩ : S37), (⟨(⟨#[48, 61]⟩ : ByteArray), 52⟩ : S37), (⟨(⟨#[48, 60, 62]⟩ : ByteArray), 53⟩ : S37), (⟨(⟨#[48, 60]⟩ : ByteArray), 54⟩ : S37), (⟨(⟨#[48, 60, 61]⟩ : ByteArray), 55⟩ : S37), (⟨(⟨#[48, 62]⟩ : ByteArray), 56⟩ : S37), (⟨(⟨#[48, 62, 61]⟩ : ByteArray), 57⟩ : S37), (⟨(⟨#[60]⟩ : ByteArray), 58⟩ : S37), (⟨(⟨#[62]⟩ : ByteArray), 59⟩ : S37), (⟨(⟨#[61]⟩ : ByteArray), 60⟩ : S37), (⟨(⟨#[60, 62]⟩ : ByteArray), 61⟩ : S37), (⟨(⟨#[117, 62]⟩ : ByteArray), 62⟩ : S37), (⟨(⟨#[117, 60, 61]⟩ : ByteArray), 63⟩ : S37), (⟨(⟨#[117, 60]⟩ : ByteArray), 64⟩ : S37), (⟨(⟨#[117, 62, 61]⟩ : ByteArray), 65⟩ : S37), (⟨(⟨#[62, 61]⟩ : ByteArray), 66⟩ : S37), (⟨(⟨#[60, 61]⟩ : ByteArray), 67⟩ : S37), (⟨(⟨#[100, 114, 111, 112]⟩ : ByteArray), 70⟩ : S37), (⟨(⟨#[100, 117, 112]⟩ : ByteArray), 71⟩ : S37), (⟨(⟨#[111, 118, 101, 114]⟩ : ByteArray), 72⟩ : S37), (⟨(⟨#[115, 119, 97, 112]⟩ : ByteArray), 73⟩ : S37), (⟨(⟨#[114, 111, 116]⟩ : ByteArray), 74⟩ : S37), (⟨(⟨#[45, 114, 111, 116]⟩ : ByteArray), 75⟩ : S37), (⟨(⟨#[116, 117, 99, 107]⟩ : ByteArray), 76⟩ : S37), (⟨(⟨#[110, 105, 112]⟩ : ByteArray), 77⟩ : S37), (⟨(⟨#[112, 105, 99, 107]⟩ : ByteArray), 78⟩ : S37), (⟨(⟨#[114, 111, 108, 108]⟩ : ByteArray), 79⟩ : S37), (⟨(⟨#[63, 100, 117, 112]⟩ : ByteArray), 80⟩ : S37), (⟨(⟨#[100, 101, 112, 116, 104]⟩ : ByteArray), 81⟩ : S37), (⟨(⟨#[50, 100, 114, 111, 112]⟩ : ByteArray), 82⟩ : S37), (⟨(⟨#[50, 100, 117, 112]⟩ : ByteArray), 83⟩ : S37), (⟨(⟨#[50, 111, 118, 101, 114]⟩ : ByteArray), 84⟩ : S37), (⟨(⟨#[50, 115, 119, 97, 112]⟩ : ByteArray), 85⟩ : S37), (⟨(⟨#[50, 114, 111, 116]⟩ : ByteArray), 86⟩ : S37), (⟨(⟨#[50, 47]⟩ : ByteArray), 87⟩ : S37), (⟨(⟨#[117, 50, 47]⟩ : ByteArray), 88⟩ : S37), (⟨(⟨#[50, 42]⟩ : ByteArray), 89⟩ : S37), (⟨(⟨#[43, 33]⟩ : ByteArray), 108⟩ : S37), (⟨(⟨#[64]⟩ : ByteArray), 109⟩ : S37), (⟨(⟨#[119, 64]⟩ : ByteArray), 111⟩ : S37), (⟨(⟨#[99, 64]⟩ : ByteArray), 113⟩ : S37), (⟨(⟨#[33]⟩ : ByteArray), 114⟩ : S37), (⟨(⟨#[119, 33]⟩ : ByteArray), 116⟩ : S37), (⟨(⟨#[99, 33]⟩ : ByteArray), 117⟩ : S37), (⟨(⟨#[109, 111, 118, 101]⟩ : ByteArray), 120⟩ : S37), (⟨(⟨#[102, 105, 108, 108]⟩ : ByteArray), 121⟩ : S37), (⟨(⟨#[99, 111, 109, 112]⟩ : ByteArray), 122⟩ : S37), (⟨(⟨#[108, 98, 115, 112, 108, 105, 116]⟩ : ByteArray), 126⟩ : S37), (⟨(⟨#[98, 108, 106, 111, 105, 110]⟩ : ByteArray), 127⟩ : S37), (⟨(⟨#[119, 98, 102, 108, 105, 112]⟩ : ByteArray), 128⟩ : S37), (⟨(⟨#[117, 112, 99]⟩ : ByteArray), 129⟩ : S37), (⟨(⟨#[108, 99, 99]⟩ : ByteArray), 130⟩ : S37), (⟨(⟨#[117, 110, 108, 111, 111, 112]⟩ : ByteArray), 137⟩ : S37), (⟨(⟨#[97, 108, 108, 111, 99, 45, 109, 101, 109]⟩ : ByteArray), 139⟩ : S37), (⟨(⟨#[101, 109, 105, 116]⟩ : ByteArray), 143⟩ : S37), (⟨(⟨#[116, 121, 112, 101]⟩ : ByteArray), 144⟩ : S37), (⟨(⟨#[99, 114]⟩ : ByteArray), 146⟩ : S37), (⟨(⟨#[117, 46]⟩ : ByteArray), 155⟩ : S37), (⟨(⟨#[46]⟩ : ByteArray), 157⟩ : S37), (⟨(⟨#[98, 97, 115, 101, 33]⟩ : ByteArray), 160⟩ : S37), (⟨(⟨#[45, 49]⟩ : ByteArray), 164⟩ : S37), (⟨(⟨#[48]⟩ : ByteArray), 165⟩ : S37), (⟨(⟨#[49]⟩ : ByteArray), 166⟩ : S37), (⟨(⟨#[50]⟩ : ByteArray), 167⟩ : S37), (⟨(⟨#[51]⟩ : ByteArray), 168⟩ : S37), (⟨(⟨#[98, 108]⟩ : ByteArray), 169⟩ : S37), (⟨(⟨#[104, 101, 114, 101]⟩ : ByteArray), 173⟩ : S37), (⟨(⟨#[117, 109, 42]⟩ : ByteArray), 212⟩ : S37), (⟨(⟨#[117, 109, 47, 109, 111, 100]⟩ : ByteArray), 213⟩ : S37), (⟨(⟨#[100, 43]⟩ : ByteArray), 216⟩ : S37), (⟨(⟨#[100, 45]⟩ : ByteArray), 217⟩ : S37), (⟨(⟨#[112, 114, 111, 112, 101, 114, 116, 121]⟩ : ByteArray), 272⟩ : S37), (⟨(⟨#[101, 110, 99, 111, 100, 101, 45, 105, 110, 116]⟩ : ByteArray), 273⟩ : S37), (⟨(⟨#[101, 110, 99, 111, 100, 101, 43]⟩ : ByteArray), 274⟩ : S37), (⟨(⟨#[101, 110, 99, 111, 100, 101, 45, 115, 116, 114, 105, 110, 103]⟩ : ByteArray), 276⟩ : S37), (⟨(⟨#[110, 101, 119, 45, 100, 101, 118, 105, 99, 101]⟩ : ByteArray), 287⟩ : S37), (⟨(⟨#[102, 105, 110, 105, 115, 104, 45, 100, 101, 118, 105, 99, 101]⟩ : ByteArray), 295⟩ : S37), (⟨(⟨#[115, 109, 47, 114, 101, 109]⟩ : ByteArray), 469⟩ : S37), (⟨(⟨#[109, 121, 45, 115, 101, 108, 102]⟩ : ByteArray), 515⟩ : S37), (⟨(⟨#[109, 121, 45, 112, 97, 114, 101, 110, 116]⟩ : ByteArray), 522⟩ : S37), (⟨(⟨#[36, 99, 97, 108, 108, 45, 109, 101, 116, 104, 111, 100]⟩ : ByteArray), 526⟩ : S37), (⟨(⟨#[99, 97, 116, 99, 104]⟩ : ByteArray), 535⟩ : S37), (⟨(⟨#[116, 104, 114, 111, 119]⟩ : ByteArray), 536⟩ : S37), (⟨(⟨#[103, 101, 116, 45, 109, 121, 45, 112, 114, 111, 112, 101, 114, 116, 121]⟩ : ByteArray), 538⟩ : S37), (⟨(⟨#[100, 101, 99, 111, 100, 101, 45, 105, 110, 116]⟩ : ByteArray), 539⟩ : S37), (⟨(⟨#[100, 101, 99, 111, 100, 101, 45, 115, 116, 114, 105, 110, 103]⟩ : ByteArray), 540⟩ : S37), (⟨(⟨#[100, 101, 108, 101, 116, 101, 45, 112, 114, 111, 112, 101, 114, 116, 121]⟩ : ByteArray), 542⟩ : S37), (⟨(⟨#[102, 109, 47, 109, 111, 100]⟩ : ByteArray), 725⟩ : S37)]
set_option maxRecDepth 100000 in
def primCells : List Value := [.string (⟨#[105]⟩ : ByteArray), .int .i64 25, .string (⟨#[106]⟩ : ByteArray), .int .i64 26, .string (⟨#[101, 120, 101, 99, 117, 116, 101]⟩ : ByteArray), .int .i64 29, .string (⟨#[43]⟩ : ByteArray), .int .i64 30, .string (⟨#[45]⟩ : ByteArray), .int .i64 31, .string (⟨#[42]⟩ : ByteArray), .int .i64 32, .string (⟨#[47]⟩ : ByteArray), .int .i64 33, .string (⟨#[109, 111, 100]⟩ : ByteArray), .int .i64 34, .string (⟨#[97, 110, 100]⟩ : ByteArray), .int .i64 35, .string (⟨#[111, 114]⟩ : ByteArray), .int .i64 36, .string (⟨#[120, 111, 114]⟩ : ByteArray), .int .i64 37, .string (⟨#[105, 110, 118, 101, 114, 116]⟩ : ByteArray), .int .i64 38, .string (⟨#[108, 115, 104, 105, 102, 116]⟩ : ByteArray), .int .i64 39, .string (⟨#[114, 115, 104, 105, 102, 116]⟩ : ByteArray), .int .i64 40, .string (⟨#[62, 62, 97]⟩ : ByteArray), .int .i64 41, .string (⟨#[47, 109, 111, 100]⟩ : ByteArray), .int .i64 42, .string (⟨#[117, 47, 109, 111, 100]⟩ : ByteArray), .int .i64 43, .string (⟨#[110, 101, 103, 97, 116, 101]⟩ : ByteArray), .int .i64 44, .string (⟨#[97, 98, 115]⟩ : ByteArray), .int .i64 45, .string (⟨#[109, 105, 110]⟩ : ByteArray), .int .i64 46, .string (⟨#[109, 97, 120]⟩ : ByteArray), .int .i64 47, .string (⟨#[62, 114]⟩ : ByteArray), .int .i64 48, .string (⟨#[114, 62]⟩ : ByteArray), .int .i64 49, .string (⟨#[114, 64]⟩ : ByteArray), .int .i64 50, .string (⟨#[48, 61]⟩ : ByteArray), .int .i64 52, .string (⟨#[48, 60, 62]⟩ : ByteArray), .int .i64 53, .string (⟨#[48, 60]⟩ : ByteArray), .int .i64 54, .string (⟨#[48, 60, 61]⟩ : ByteArray), .int .i64 55, .string (⟨#[48, 62]⟩ : ByteArray), .int .i64 56, .string (⟨#[48, 62, 61]⟩ : ByteArray), .int .i64 57, .string (⟨#[60]⟩ : ByteArray), .int .i64 58, .string (⟨#[62]⟩ : ByteArray), .int .i64 59, .string (⟨#[61]⟩ : ByteArray), .int .i64 60, .string (⟨#[60, 62]⟩ : ByteArray), .int .i64 61, .string (⟨#[117, 62]⟩ : ByteArray), .int .i64 62, .string (⟨#[117, 60, 61]⟩ : ByteArray), .int .i64 63, .string (⟨#[117, 60]⟩ : ByteArray), .int .i64 64, .string (⟨#[117, 62, 61]⟩ : ByteArray), .int .i64 65, .string (⟨#[62, 61]⟩ : ByteArray), .int .i64 66, .string (⟨#[60, 61]⟩ : ByteArray), .int .i64 67, .string (⟨#[100, 114, 111, 112]⟩ : ByteArray), .int .i64 70, .string (⟨#[100, 117, 112]⟩ : ByteArray), .int .i64 71, .string (⟨#[111, 118, 101, 114]⟩ : ByteArray), .int .i64 72, .string (⟨#[115, 119, 97, 112]⟩ : ByteArray), .int .i64 73, .string (⟨#[114, 111, 116]⟩ : ByteArray), .int .i64 74, .string (⟨#[45, 114, 111, 116]⟩ : ByteArray), .int .i64 75, .string (⟨#[116, 117, 99, 107]⟩ : ByteArray), .int .i64 76, .string (⟨#[110, 105, 112]⟩ : ByteArray), .int .i64 77, .string (⟨#[112, 105, 99, 107]⟩ : ByteArray), .int .i64 78, .string (⟨#[114, 111, 108, 108]⟩ : ByteArray), .int .i64 79, .string (⟨#[63, 100, 117, 112]⟩ : ByteArray), .int .i64 80, .string (⟨#[100, 101, 112, 116, 104]⟩ : ByteArray), .int .i64 81, .string (⟨#[50, 100, 114, 111, 112]⟩ : ByteArray), .int .i64 82, .string (⟨#[50, 100, 117, 112]⟩ : ByteArray), .int .i64 83, .string (⟨#[50, 111, 118, 101, 114]⟩ : ByteArray), .int .i64 84, .string (⟨#[50, 115, 119, 97, 112]⟩ : ByteArray), .int .i64 85, .string (⟨#[50, 114, 111, 116]⟩ : ByteArray), .int .i64 86, .string (⟨#[50, 47]⟩ : ByteArray), .int .i64 87, .string (⟨#[117, 50, 47]⟩ : ByteArray), .int .i64 88, .string (⟨#[50, 42]⟩ : ByteArray), .int .i64 89, .string (⟨#[43, 33]⟩ : ByteArray), .int .i64 108, .string (⟨#[64]⟩ : ByteArray), .int .i64 109, .string (⟨#[119, 64]⟩ : ByteArray), .int .i64 111, .string (⟨#[99, 64]⟩ : ByteArray), .int .i64 113, .string (⟨#[33]⟩ : ByteArray), .int .i64 114, .string (⟨#[119, 33]⟩ : ByteArray), .int .i64 116, .string (⟨#[99, 33]⟩ : ByteArray), .int .i64 117, .string (⟨#[109, 111, 118, 101]⟩ : ByteArray), .int .i64 120, .string (⟨#[102, 105, 108, 108]⟩ : ByteArray), .int .i64 121, .string (⟨#[99, 111, 109, 112]⟩ : ByteArray), .int .i64 122, .string (⟨#[108, 98, 115, 112, 108, 105, 116]⟩ : ByteArray), .int .i64 126, .string (⟨#[98, 108, 106, 111, 105, 110]⟩ : ByteArray), .int .i64 127, .string (⟨#[119, 98, 102, 108, 105, 112]⟩ : ByteArray), .int .i64 128, .string (⟨#[117, 112, 99]⟩ : ByteArray), .int .i64 129, .string (⟨#[108, 99, 99]⟩ : ByteArray), .int .i64 130, .string (⟨#[117, 110, 108, 111, 111, 112]⟩ : ByteArray), .int .i64 137, .string (⟨#[97, 108, 108, 111, 99, 45, 109, 101, 109]⟩ : ByteArray), .int .i64 139, .string (⟨#[101, 109, 105, 116]⟩ : ByteArray), .int .i64 143, .string (⟨#[116, 121, 112, 101]⟩ : ByteArray), .int .i64 144, .string (⟨#[99, 114]⟩ : ByteArray), .int .i64 146, .string (⟨#[117, 46]⟩ : ByteArray), .int .i64 155, .string (⟨#[46]⟩ : ByteArray), .int .i64 157, .string (⟨#[98, 97, 115, 101, 33]⟩ : ByteArray), .int .i64 160, .string (⟨#[45, 49]⟩ : ByteArray), .int .i64 164, .string (⟨#[48]⟩ : ByteArray), .int .i64 165, .string (⟨#[49]⟩ : ByteArray), .int .i64 166, .string (⟨#[50]⟩ : ByteArray), .int .i64 167, .string (⟨#[51]⟩ : ByteArray), .int .i64 168, .string (⟨#[98, 108]⟩ : ByteArray), .int .i64 169, .string (⟨#[104, 101, 114, 101]⟩ : ByteArray), .int .i64 173, .string (⟨#[117, 109, 42]⟩ : ByteArray), .int .i64 212, .string (⟨#[117, 109, 47, 109, 111, 100]⟩ : ByteArray), .int .i64 213, .string (⟨#[100, 43]⟩ : ByteArray), .int .i64 216, .string (⟨#[100, 45]⟩ : ByteArray), .int .i64 217, .string (⟨#[112, 114, 111, 112, 101, 114, 116, 121]⟩ : ByteArray), .int .i64 272, .string (⟨#[101, 110, 99, 111, 100, 101, 45, 105, 110, 116]⟩ : ByteArray), .int .i64 273, .string (⟨#[101, 110, 99, 111, 100, 101, 43]⟩ : ByteArray), .int .i64 274, .string (⟨#[101, 110, 99, 111, 100, 101, 45, 115, 116, 114, 105, 110, 103]⟩ : ByteArray), .int .i64 276, .string (⟨#[110, 101, 119, 45, 100, 101, 118, 105, 99, 101]⟩ : ByteArray), .int .i64 287, .string (⟨#[102, 105, 110, 105, 115, 104, 45, 100, 101, 118, 105, 99, 101]⟩ : ByteArray), .int .i64 295, .string (⟨#[115, 109, 47, 114, 101, 109]⟩ : ByteArray), .int .i64 469, .string (⟨#[109, 121, 45, 115, 101, 108, 102]⟩ : ByteArray), .int .i64 515, .string (⟨#[109, 121, 45, 112, 97, 114, 101, 110, 116]⟩ : ByteArray), .int .i64 522, .string (⟨#[36, 99, 97, 108, 108, 45, 109, 101, 116, 104, 111, 100]⟩ : ByteArray), .int .i64 526, .string (⟨#[99, 97, 116, 99, 104]⟩ : ByteArray), .int .i64 535, .string (⟨#[116, 104, 114, 111, 119]⟩ : ByteArray), .int .i64 536, .string (⟨#[103, 101, 116, 45, 109, 121, 45, 112, 114, 111, 112, 101, 114, 116, 121]⟩ : ByteArray), .int .i64 538, .string (⟨#[100, 101, 99, 111, 100, 101, 45, 105, 110, 116]⟩ : ByteArray), .int .i64 539, .string (⟨#[100, 101, 99, 111, 100, 101, 45, 115, 116, 114, 105, 110, 103]⟩ : ByteArray), .int .i64 540, .string (⟨#[100, 101, 108, 101, 116, 101, 45, 112, 114, 111, 112, 101, 114, 116, 121]⟩ : ByteArray), .int .i64 542, .string (⟨#[102, 109, 47, 109, 111, 100]⟩ : ByteArray), .int .i64 725]
set_option maxRecDepth 100000 in
theorem primCells_eq : primCells = flat37 primsL := by rfl
theorem primsL_len : primsL.length = 111 := by rfl
set_option maxHeartbeats 8000000 in
set_option maxRecDepth 100000 in
theorem prims_exact (w : World) :
    Calls Try.prog 14 #[] w fun e w' => e = .returned (.slice (some ⟨w.heap.size, 0, none⟩) 111 111) ∧ w' = w.alloc (.cells (flat37 primsL).toArray 37 (0, 0)) := by
  have hu37 := Try.underlying37
  rw [← primCells_eq]
  go_enter Try.func14, Try.ntmps14
  go_wp2_with (((with_reducible refine gate_dst (N := 112) rfl ?_); refine Kd.event_run ?hg (w1 := w.alloc (.cells primCells.toArray 37 (0, 0))) (v := .slice (some ⟨w.heap.size, 0, none⟩) 111 111) ?hr ?_; (case hg => rfl); (case hr => kernel_rfl)))
  go_ret
  exact ⟨rfl, rfl⟩
end Go.Proofs.Ytfpkakedlapmkaa.Q
end
section
namespace Go.Proofs.Ytfpkakedlapmkaa.Q
open Go.RowKit Go.Proofs.YtfpkakedlapmkaaW.PrintWords Go.Proofs.YtfpkakedlapmkaaW.PrintLast Go.Proofs.YtfpkakedlapmkaaW.PrintMore
set_option linter.unusedVariables false
set_option linter.unusedSimpArgs false

attribute [local go_sem] max2_int min2_int max_two min_two max_three min_three max_four min_four
/-! ### dict_ends: function 78 -/
def dict_ends.l0 : Nat → List (S82) → Int → Int → Int → Option (Bool)
  | 0, _, _, _, _ => none
  | k + 1, x0, x1, x7, x8 => if x8 < x7 then (if x1 = (-1) then (some true) else (if 0 ≤ x1 then (if x1 < (x0.length : Int) then (dict_ends.l0 k x0 ((rd_T82 x0 x1).f1) x7 (wrap64 (x8 + 1))) else (none)) else (none))) else (some false)
def dict_ends.f (k : Nat) (l0 : List (S82)) (a1 : Int) : Option (Bool) := dict_ends.l0 k l0 a1 (wrap64 ((l0.length : Int) + 1)) 0
set_option maxHeartbeats 8000000 in
set_option maxRecDepth 100000 in
theorem dict_ends.calls (k : Nat) (A0 : Option Addr) (c0 : Nat) (l0 : List (S82)) (a1 : Int) (r : Bool) (w : World) (hr0 : Kd.C k82 w A0 l0.length l0) (hc0 : l0.length ≤ c0) (h : dict_ends.f k l0 a1 = some r) :
    Calls Try.prog 78 #[.slice A0 l0.length c0, .int .i64 a1] w fun e w' => e = .returned (.bool r) ∧ Drawn0 w w' := by
  have HR0 := Aside0.mk hr0
  have HC0 := Aside0.mk hc0
  clear hr0 hc0
  have H : (dict_ends.l0 k l0 a1 (wrap64 ((l0.length : Int) + 1)) 0) = some r := h
  clear h
  have H' := Aside0.mk H
  clear H
  go_enter Try.func78, Try.ntmps78
  go_wp2
  go_loopg [1, 8] k (fun kq v1 v8 w' => ∃ (x1_1 : Int) (x8_1 : Int), v1 = .int .i64 x1_1 ∧ v8 = .int .i64 x8_1 ∧ Aside0 (dict_ends.l0 kq l0 x1_1 (wrap64 ((l0.length : Int) + 1)) x8_1 = some r) ∧ Aside0 (kq ≤ k) ∧ Drawn0 w w')
  case atStart => exact ⟨(a1), (0), (by first | rfl | (simp; done) | (simp [*]; done)), (by first | rfl | (simp; done) | (simp [*]; done)), H', ⟨Nat.le_refl _⟩, by repeat (first | exact Drawn0.refl _ | apply Drawn0.step)⟩
  case round =>
    clear H'
    try clear p2
    obtain ⟨x1_1, x8_1, rfl, rfl, HA, HK1, ⟨m1, rfl⟩⟩ := hrel
    cases gk with
    | zero => exact absurd HA.out (by simp [dict_ends.l0])
    | succ k1 =>
      have H := HA.out
      clear HA
      simp only [dict_ends.l0] at H
      by_cases c3 : x8_1 < (wrap64 ((l0.length : Int) + 1))
      · rw [if_pos c3] at H
        have c3b0 : decide (x8_1 < (wrap64 ((l0.length : Int) + 1))) = true := decide_eq_true c3
        clear c3
        by_cases c4 : x1_1 = (-1)
        · rw [if_pos c4] at H
          have c4b0 : (x1_1 == (-1)) = true := beq_iff_eq.mpr c4
          have c4b1 : (x1_1 != (-1)) = false := bne_eq_false_iff_eq.mpr c4
          clear c4
          obtain rfl := Option.some.inj H
          go_wp2
          go_ret
          exact ⟨by first | rfl | (simp; done) | (simp [*]; done), by repeat (first | exact Drawn0.refl _ | apply Drawn0.step)⟩
        · rw [if_neg c4] at H
          have c4b0 : (x1_1 == (-1)) = false := beq_eq_false_iff_ne.mpr c4
          have c4b1 : (x1_1 != (-1)) = true := bne_iff_ne.mpr c4
          by_cases c5 : 0 ≤ x1_1
          · rw [if_pos c5] at H
            have c5b0 : decide (0 ≤ x1_1) = true := decide_eq_true c5
            clear c5
            by_cases c6 : x1_1 < (l0.length : Int)
            · rw [if_pos c6] at H
              have c6b0 : decide (x1_1 < (l0.length : Int)) = true := decide_eq_true c6
              clear c6
              have H' := Aside0.mk H
              clear H
              have p79001 : 0 ≤ (x1_1 : Int) := of_decide_eq_true (by first | (with_reducible assumption) | assumption)
              have q79001 : x1_1 < (l0.length : Int) := of_decide_eq_true (by first | (with_reducible assumption) | assumption)
              obtain ⟨ad79001, A79001_3, c79001_3, e79001, hx79001_0, hx79001_1, hx79001_2, hx79001_3, hl79001_3, hi79001_3⟩ := at_T82 HR0.out x1_1 p79001 q79001
              cases e79001
              have HR79001_3 := Aside0.mk hi79001_3
              have HC79001_3 := Aside0.mk hl79001_3
              clear hi79001_3 hl79001_3
              replace p79001 := eq_true p79001
              replace q79001 := eq_true q79001
              go_wp2
              go_roundg k1
              case measure => have := HK1.out; omega
              case rel => exact ⟨((rd_T82 l0 x1_1).f1), (wrap64 (x8_1 + 1)), (by first | rfl | (simp; done) | (simp [*]; done)), (by first | rfl | (simp; done) | (simp [*]; done)), H', ⟨by have := HK1.out; omega⟩, by repeat (first | exact Drawn0.refl _ | apply Drawn0.step)⟩
            · rw [if_neg c6] at H
              exact absurd H (by simp)
          · rw [if_neg c5] at H
            exact absurd H (by simp)
      · rw [if_neg c3] at H
        have c3b0 : decide (x8_1 < (wrap64 ((l0.length : Int) + 1))) = false := decide_eq_false c3
        clear c3
        obtain rfl := Option.some.inj H
        go_wp2
        go_ret
        exact ⟨by first | rfl | (simp; done) | (simp [*]; done), by repeat (first | exact Drawn0.refl _ | apply Drawn0.step)⟩

end Go.Proofs.Ytfpkakedlapmkaa.Q
end
section
namespace Go.Proofs.Ytfpkakedlapmkaa.Q
open Go.RowKit Go.Proofs.YtfpkakedlapmkaaW.PrintWords Go.Proofs.YtfpkakedlapmkaaW.PrintLast Go.Proofs.YtfpkakedlapmkaaW.PrintMore
set_option linter.unusedVariables false
set_option linter.unusedSimpArgs false

attribute [local go_sem] max2_int min2_int max_two min_two max_three min_three max_four min_four
/-! ### dict_living: function 76 -/
def dict_living.f (l0 : List (S82)) (a1 : Int) : Option (Bool) := if a1 ≥ 0 then (if a1 < (l0.length : Int) then (if 0 ≤ a1 then (some (((rd_T82 l0 a1).f0) != (-1))) else (none)) else (some false)) else (some false)
set_option maxHeartbeats 8000000 in
set_option maxRecDepth 100000 in
theorem dict_living.calls (A0 : Option Addr) (c0 : Nat) (l0 : List (S82)) (a1 : Int) (r : Bool) (w : World) (hr0 : Kd.C k82 w A0 l0.length l0) (hc0 : l0.length ≤ c0) (h : dict_living.f l0 a1 = some r) :
    Calls Try.prog 76 #[.slice A0 l0.length c0, .int .i64 a1] w fun e w' => e = .returned (.bool r) ∧ Drawn0 w w' := by
  have HR0 := Aside0.mk hr0
  have HC0 := Aside0.mk hc0
  clear hr0 hc0
  have H : (if a1 ≥ 0 then (if a1 < (l0.length : Int) then (if 0 ≤ a1 then (some (((rd_T82 l0 a1).f0) != (-1))) else (none)) else (some false)) else (some false)) = some r := h
  clear h
  by_cases c3 : a1 ≥ 0
  · rw [if_pos c3] at H
    have c3b0 : decide (0 ≤ a1) = true := decide_eq_true c3
    clear c3
    by_cases c4 : a1 < (l0.length : Int)
    · rw [if_pos c4] at H
      have c4b0 : decide (a1 < (l0.length : Int)) = true := decide_eq_true c4
      clear c4
      by_cases c5 : 0 ≤ a1
      · rw [if_pos c5] at H
        have c5b0 : decide (0 ≤ a1) = true := decide_eq_true c5
        clear c5
        obtain rfl := Option.some.inj H
        have p77001 : 0 ≤ (a1 : Int) := of_decide_eq_true (by first | (with_reducible assumption) | assumption)
        have q77001 : a1 < (l0.length : Int) := of_decide_eq_true (by first | (with_reducible assumption) | assumption)
        obtain ⟨ad77001, A77001_3, c77001_3, e77001, hx77001_0, hx77001_1, hx77001_2, hx77001_3, hl77001_3, hi77001_3⟩ := at_T82 HR0.out a1 p77001 q77001
        cases e77001
        have HR77001_3 := Aside0.mk hi77001_3
        have HC77001_3 := Aside0.mk hl77001_3
        clear hi77001_3 hl77001_3
        replace p77001 := eq_true p77001
        replace q77001 := eq_true q77001
        go_enter Try.func76, Try.ntmps76
        go_wp2
        go_ret
        exact ⟨by first | rfl | (simp; done) | (simp [*]; done), by repeat (first | exact Drawn0.refl _ | apply Drawn0.step)⟩
      · rw [if_neg c5] at H
        exact absurd H (by simp)
    · rw [if_neg c4] at H
      have c4b0 : decide (a1 < (l0.length : Int)) = false := decide_eq_false c4
      clear c4
      obtain rfl := Option.some.inj H
      go_enter Try.func76, Try.ntmps76
      go_wp2
      go_ret
      exact ⟨by first | rfl | (simp; done) | (simp [*]; done), by repeat (first | exact Drawn0.refl _ | apply Drawn0.step)⟩
  · rw [if_neg c3] at H
    have c3b0 : decide (0 ≤ a1) = false := decide_eq_false c3
    clear c3
    obtain rfl := Option.some.inj H
    go_enter Try.func76, Try.ntmps76
    go_wp2
    go_ret
    exact ⟨by first | rfl | (simp; done) | (simp [*]; done), by repeat (first | exact Drawn0.refl _ | apply Drawn0.step)⟩

end Go.Proofs.Ytfpkakedlapmkaa.Q
end
section
namespace Go.Proofs
open Go.Shelf
def Try.lays137_ren : Go.Shelf.Ren := ⟨fun | 137 => 92 | 217 => 100 | 266 => 102 | n => n, fun | 9 => 9 | 5 => 5 | 3 => 3 | n => n, fun | n => n⟩
theorem Try.lays137 : Go.Proofs.Lays.n137 Try.prog Try.lays137_ren := {
  mixed := by kernel_rfl
  f137 := Try.func92.trans (congrArg some (by kernel_rfl))
  f217 := Try.func100.trans (congrArg some (by kernel_rfl))
  f266 := Try.func102.trans (congrArg some (by kernel_rfl))
  t3 := Try.underlying3
  a3 := Try.isAgg3
  z3 := Try.sizeOf3
  v3 := Try.zeroValue3
  t5 := Try.underlying5
  a5 := Try.isAgg5
  z5 := Try.sizeOf5
  v5 := Try.zeroValue5
  t9 := Try.underlying9
  a9 := Try.isAgg9
  z9 := Try.sizeOf9
  v9 := Try.zeroValue9 }
open Go.RowKit in
/-- strings.IndexByte: "IndexByte returns the index of the first instance of c in s, or -1 if c is not present in s.": IT RETURNS 'Lib.indexByte s c'; the world is as it was. (LAID: no walk: one application.) -/
theorem Try.strings_IndexByte (s : ByteArray) (c : Int) (w : World) :
    Calls Try.prog 92 #[.string s, .int .u8 c] w fun e w' => e = .returned (.int .i64 (Lib.indexByte s.data.toList c.toNat.toUInt8)) ∧ w' = w := Any.strings_IndexByte Try.lays137 s c w
def Try.lays144_ren : Go.Shelf.Ren := ⟨fun | 144 => 96 | 143 => 101 | 219 => 103 | 217 => 100 | 225 => 104 | 224 => 105 | 267 => 106 | 266 => 102 | 314 => 107 | n => n, fun | 9 => 9 | 4 => 4 | 3 => 3 | 5 => 5 | 46 => 123 | 146 => 124 | 51 => 28 | n => n, fun | 1 => 0 | n => n⟩
theorem Try.lays144 : Go.Proofs.Lays.n144 Try.prog Try.lays144_ren := {
  mixed := by kernel_rfl
  f143 := Try.func101.trans (congrArg some (by kernel_rfl))
  f144 := Try.func96.trans (congrArg some (by kernel_rfl))
  f217 := Try.func100.trans (congrArg some (by kernel_rfl))
  f219 := Try.func103.trans (congrArg some (by kernel_rfl))
  f224 := Try.func105.trans (congrArg some (by kernel_rfl))
  f225 := Try.func104.trans (congrArg some (by kernel_rfl))
  f266 := Try.func102.trans (congrArg some (by kernel_rfl))
  f267 := Try.func106.trans (congrArg some (by kernel_rfl))
  f314 := Try.func107.trans (congrArg some (by kernel_rfl))
  t3 := Try.underlying3
  a3 := Try.isAgg3
  z3 := Try.sizeOf3
  v3 := Try.zeroValue3
  t4 := Try.underlying4
  a4 := Try.isAgg4
  z4 := Try.sizeOf4
  v4 := Try.zeroValue4
  t5 := Try.underlying5
  a5 := Try.isAgg5
  z5 := Try.sizeOf5
  v5 := Try.zeroValue5
  t9 := Try.underlying9
  a9 := Try.isAgg9
  z9 := Try.sizeOf9
  v9 := Try.zeroValue9
  t46 := Try.underlying123
  a46 := Try.isAgg123
  z46 := Try.sizeOf123
  v46 := Try.zeroValue123
  t51 := Try.underlying28
  a51 := Try.isAgg28
  z51 := Try.sizeOf28
  v51 := Try.zeroValue28
  t146 := Try.underlying124
  a146 := Try.isAgg124
  z146 := Try.sizeOf124
  v146 := Try.zeroValue124
  g1 := by kernel_rfl }
open Go.RowKit Go.Lib in
/-- strings.Contains: "Contains reports whether substr is within s.": AT A substr OF ONE BYTE c: IT RETURNS 'decide (0 ≤ Lib.indexByte s c)'; the world is as it was. (LAID: no walk: one application.) -/
theorem Try.strings_Contains_one (s : ByteArray) (c : UInt8) (w : World) :
    Calls Try.prog 96 #[.string s, .string ⟨#[c]⟩] w fun e w' => e = .returned (.bool (decide (0 ≤ Lib.indexByte s.data.toList c))) ∧ w' = w := Any.strings_Contains_one Try.lays144 s c w
end Go.Proofs
end
section
namespace Go.Proofs.Ytfpkakedlapmkaa.Q
open Go.RowKit Go.Proofs.YtfpkakedlapmkaaW.PrintWords Go.Proofs.YtfpkakedlapmkaaW.PrintLast
def strings_IndexByte.f (a0 : ByteArray) (a1 : Int) : Option Int := some (Lib.indexByte a0.data.toList a1.toNat.toUInt8)
theorem strings_IndexByte.calls (a0 : ByteArray) (a1 : Int) (r : Int) (w : World) (h : strings_IndexByte.f a0 a1 = some r) : Calls Try.prog 92 #[.string a0, .int .u8 a1] w fun e w' => e = .returned (.int .i64 r) ∧ Below w.heap.size w w' := by
  obtain rfl := Option.some.inj h
  refine (Try.strings_IndexByte a0 a1 w).mono ?_
  rintro e w' ⟨rfl, rfl⟩
  exact ⟨rfl, Below.refl _ _⟩
def strings_Contains.f (a0 a1 : ByteArray) : Option Bool := if a1.data = #[47] then some (decide (0 ≤ Lib.indexByte a0.data.toList 47)) else none
end Go.Proofs.Ytfpkakedlapmkaa.Q
end
section
set_option linter.unusedSimpArgs false
set_option linter.unusedVariables false
namespace Go.Proofs.Ytfpkakedlapmkaa.Q
open Go.RowKit Go.Proofs.YtfpkakedlapmkaaW.PrintWords Go.Proofs.YtfpkakedlapmkaaW.PrintLast Go.Proofs.YtfpkakedlapmkaaW.PrintMore
attribute [local go_sem] max2_int min2_int max_two min_two max_three min_three max_four min_four
def livingB (l : List S82) (n : Int) : Bool := decide (0 ≤ n) && (decide (n < (l.length : Int)) && ((rd_T82 l n).f0 != -1))
theorem living_eq (l : List S82) (n : Int) : dict_living.f l n = some (livingB l n) := by
  unfold dict_living.f livingB
  by_cases h0 : 0 ≤ n
  · rw [if_pos h0, decide_eq_true h0]
    by_cases h1 : n < (l.length : Int)
    · rw [if_pos h1, if_pos h0, decide_eq_true h1]; rfl
    · rw [if_neg h1, decide_eq_false h1]; rfl
  · rw [if_neg h0, decide_eq_false h0]; rfl
def hasSlash (s : ByteArray) : Bool := decide (0 ≤ Lib.indexByte s.data.toList 47)
def instOk (l : List S82) (a b : Int) (s : ByteArray) (cs : List Int) (t : List S91) : Bool :=
  if (a == -1) = true then (b == -1) && ((s.toList == ([] : List UInt8)) && ((cs.length : Int) == 0))
  else decide (0 ≤ a) && (decide (a < (t.length : Int)) && (((cs.length : Int) == ((rd_T91 t a).f4.length : Int)) && (decide ((s.size : Int) ≤ 256) && (!hasSlash s && ((b == -1) || livingB l b)))))
set_option maxHeartbeats 4000000 in
set_option maxRecDepth 100000 in
theorem instRight_calls (HCON : ∀ (s : ByteArray) (W : World), Calls Try.prog 96 #[.string s, .string ⟨#[47]⟩] W fun e w' => e = .returned (.bool (hasSlash s)) ∧ w' = W)
    (A0 : Option Addr) (c0 : Nat) (l : List S82) (a b : Int) (s : ByteArray) (A3 : Option Addr) (c3 : Nat) (cs : List Int) (A2 : Option Addr) (c2 : Nat) (t : List S91) (w : World) (hr0 : Kd.C k82 w A0 l.length l) (hc0 : l.length ≤ c0) (hr2 : Kd.C k91 w A2 t.length t) :
    Calls Try.prog 77 #[.slice A0 l.length c0, .agg #[.int .i64 a, .int .i64 b, .string s, .slice A3 cs.length c3], .slice A2 t.length c2] w fun e w' => e = .returned (.bool (instOk l a b s cs t)) ∧ Below w.heap.size w w' := by
  have hu82 := Try.underlying82
  have hu91 := Try.underlying91
  have HR0 := Aside0.mk hr0
  have HR2 := Aside0.mk hr2
  have HLV := Aside0.mk (show ∀ (W : World), Below w.heap.size w W → Calls Try.prog 76 #[.slice A0 l.length c0, .int .i64 b] W fun e w' => e = .returned (.bool (livingB l b)) ∧ ∃ m, w' = W.drewN m from fun W hb => (dict_living.calls A0 c0 l b (livingB l b) W (Kd.C_below hr0 hb) hc0 (living_eq l b)).mono fun _ _ h => ⟨h.1, h.2.out⟩)
  have HCN := Aside0.mk HCON
  clear hr0 hr2 hc0 HCON
  obtain ⟨r, hr⟩ : ∃ r, r = instOk l a b s cs t := ⟨_, rfl⟩
  rw [← hr]
  have HR := Aside0.mk hr
  clear hr
  have HI := HR.out
  clear HR
  unfold instOk at HI
  cases g0 : (a == -1) with
  | true =>
    simp only [g0, if_true, if_false, Bool.true_and, Bool.false_and, Bool.not_true, Bool.not_false, Bool.true_or, Bool.false_or, Bool.false_eq_true] at HI
    cases h1 : (b == -1) with
    | true =>
      simp only [h1, if_true, if_false, Bool.true_and, Bool.false_and, Bool.not_true, Bool.not_false, Bool.true_or, Bool.false_or, Bool.false_eq_true] at HI
      cases h2 : (s.toList == ([] : List UInt8)) with
      | true =>
        simp only [h2, if_true, if_false, Bool.true_and, Bool.false_and, Bool.not_true, Bool.not_false, Bool.true_or, Bool.false_or, Bool.false_eq_true] at HI
        cases h3 : ((cs.length : Int) == 0) with
        | true =>
          simp only [h3, if_true, if_false, Bool.true_and, Bool.false_and, Bool.not_true, Bool.not_false, Bool.true_or, Bool.false_or, Bool.false_eq_true] at HI
          subst HI
          go_enter Try.func77, Try.ntmps77
          go_wp2_with ((with_reducible refine gate_dst (N := 4) rfl ?_); refine box_event ?hg (N := 4) ?hd (cs := #[.int .i64 a, .int .i64 b, .string s, .slice A3 cs.length c3]) (t := 82) ?hr ?_; (case hd => rfl); (case hg => rfl); (case hr => first | (go_simp; done) | (go_simp; rfl)); intro ga hga w1 hbox hb; have BK := Aside0.mk hbox; have hz0 := (blk_cell BK.out 0).trans rfl; have hz1 := (blk_cell BK.out 1).trans rfl; have hz2 := (blk_cell BK.out 2).trans rfl; have hz3 := (blk_cell BK.out 3).trans rfl; have hf0 := blk_frozen BK.out 0; have hf1 := blk_frozen BK.out 1; have hf2 := blk_frozen BK.out 2; have hf3 := blk_frozen BK.out 3; have HB := Aside0.mk hb; clear hbox hb hga)
          go_ret
          exact ⟨rfl, by first | exact HB.out | exact pw_below_drewN HB.out _ | exact below_drew1 HB.out⟩
        | false =>
          simp only [h3, if_true, if_false, Bool.true_and, Bool.false_and, Bool.not_true, Bool.not_false, Bool.true_or, Bool.false_or, Bool.false_eq_true] at HI
          subst HI
          go_enter Try.func77, Try.ntmps77
          go_wp2_with ((with_reducible refine gate_dst (N := 4) rfl ?_); refine box_event ?hg (N := 4) ?hd (cs := #[.int .i64 a, .int .i64 b, .string s, .slice A3 cs.length c3]) (t := 82) ?hr ?_; (case hd => rfl); (case hg => rfl); (case hr => first | (go_simp; done) | (go_simp; rfl)); intro ga hga w1 hbox hb; have BK := Aside0.mk hbox; have hz0 := (blk_cell BK.out 0).trans rfl; have hz1 := (blk_cell BK.out 1).trans rfl; have hz2 := (blk_cell BK.out 2).trans rfl; have hz3 := (blk_cell BK.out 3).trans rfl; have hf0 := blk_frozen BK.out 0; have hf1 := blk_frozen BK.out 1; have hf2 := blk_frozen BK.out 2; have hf3 := blk_frozen BK.out 3; have HB := Aside0.mk hb; clear hbox hb hga)
          go_ret
          exact ⟨rfl, by first | exact HB.out | exact pw_below_drewN HB.out _ | exact below_drew1 HB.out⟩
      | false =>
        simp only [h2, if_true, if_false, Bool.true_and, Bool.false_and, Bool.not_true, Bool.not_false, Bool.true_or, Bool.false_or, Bool.false_eq_true] at HI
        subst HI
        go_enter Try.func77, Try.ntmps77
        go_wp2_with ((with_reducible refine gate_dst (N := 4) rfl ?_); refine box_event ?hg (N := 4) ?hd (cs := #[.int .i64 a, .int .i64 b, .string s, .slice A3 cs.length c3]) (t := 82) ?hr ?_; (case hd => rfl); (case hg => rfl); (case hr => first | (go_simp; done) | (go_simp; rfl)); intro ga hga w1 hbox hb; have BK := Aside0.mk hbox; have hz0 := (blk_cell BK.out 0).trans rfl; have hz1 := (blk_cell BK.out 1).trans rfl; have hz2 := (blk_cell BK.out 2).trans rfl; have hz3 := (blk_cell BK.out 3).trans rfl; have hf0 := blk_frozen BK.out 0; have hf1 := blk_frozen BK.out 1; have hf2 := blk_frozen BK.out 2; have hf3 := blk_frozen BK.out 3; have HB := Aside0.mk hb; clear hbox hb hga)
        go_ret
        exact ⟨rfl, by first | exact HB.out | exact pw_below_drewN HB.out _ | exact below_drew1 HB.out⟩
    | false =>
      simp only [h1, if_true, if_false, Bool.true_and, Bool.false_and, Bool.not_true, Bool.not_false, Bool.true_or, Bool.false_or, Bool.false_eq_true] at HI
      subst HI
      go_enter Try.func77, Try.ntmps77
      go_wp2_with ((with_reducible refine gate_dst (N := 4) rfl ?_); refine box_event ?hg (N := 4) ?hd (cs := #[.int .i64 a, .int .i64 b, .string s, .slice A3 cs.length c3]) (t := 82) ?hr ?_; (case hd => rfl); (case hg => rfl); (case hr => first | (go_simp; done) | (go_simp; rfl)); intro ga hga w1 hbox hb; have BK := Aside0.mk hbox; have hz0 := (blk_cell BK.out 0).trans rfl; have hz1 := (blk_cell BK.out 1).trans rfl; have hz2 := (blk_cell BK.out 2).trans rfl; have hz3 := (blk_cell BK.out 3).trans rfl; have hf0 := blk_frozen BK.out 0; have hf1 := blk_frozen BK.out 1; have hf2 := blk_frozen BK.out 2; have hf3 := blk_frozen BK.out 3; have HB := Aside0.mk hb; clear hbox hb hga)
      go_ret
      exact ⟨rfl, by first | exact HB.out | exact pw_below_drewN HB.out _ | exact below_drew1 HB.out⟩
  | false =>
    simp only [g0, if_true, if_false, Bool.true_and, Bool.false_and, Bool.not_true, Bool.not_false, Bool.true_or, Bool.false_or, Bool.false_eq_true] at HI
    cases g1 : decide (0 ≤ a) with
    | true =>
      simp only [g1, if_true, if_false, Bool.true_and, Bool.false_and, Bool.not_true, Bool.not_false, Bool.true_or, Bool.false_or, Bool.false_eq_true] at HI
      cases g2 : decide (a < (t.length : Int)) with
      | true =>
        simp only [g2, if_true, if_false, Bool.true_and, Bool.false_and, Bool.not_true, Bool.not_false, Bool.true_or, Bool.false_or, Bool.false_eq_true] at HI
        cases g3 : ((cs.length : Int) == ((rd_T91 t a).f4.length : Int)) with
        | true =>
          simp only [g3, if_true, if_false, Bool.true_and, Bool.false_and, Bool.not_true, Bool.not_false, Bool.true_or, Bool.false_or, Bool.false_eq_true] at HI
          cases g4 : decide ((s.size : Int) ≤ 256) with
          | true =>
            simp only [g4, if_true, if_false, Bool.true_and, Bool.false_and, Bool.not_true, Bool.not_false, Bool.true_or, Bool.false_or, Bool.false_eq_true] at HI
            cases g5 : hasSlash s with
            | true =>
              simp only [g5, if_true, if_false, Bool.true_and, Bool.false_and, Bool.not_true, Bool.not_false, Bool.true_or, Bool.false_or, Bool.false_eq_true] at HI
              subst HI
              go_enter Try.func77, Try.ntmps77
              go_wp2_with ((with_reducible refine gate_dst (N := 4) rfl ?_); refine box_event ?hg (N := 4) ?hd (cs := #[.int .i64 a, .int .i64 b, .string s, .slice A3 cs.length c3]) (t := 82) ?hr ?_; (case hd => rfl); (case hg => rfl); (case hr => first | (go_simp; done) | (go_simp; rfl)); intro ga hga w1 hbox hb; have BK := Aside0.mk hbox; have hz0 := (blk_cell BK.out 0).trans rfl; have hz1 := (blk_cell BK.out 1).trans rfl; have hz2 := (blk_cell BK.out 2).trans rfl; have hz3 := (blk_cell BK.out 3).trans rfl; have hf0 := blk_frozen BK.out 0; have hf1 := blk_frozen BK.out 1; have hf2 := blk_frozen BK.out 2; have hf3 := blk_frozen BK.out 3; have HB := Aside0.mk hb; clear hbox hb hga; obtain ⟨ad, B1, d1, B3, d3, B4, d4, eA, hx0, hx1, hx2, hx3, hx4, hl1, hg1, hl3, hg3, hl4, hg4⟩ := at_T91 (Kd.C_below HR2.out HB.out) a (of_decide_eq_true g1) (of_decide_eq_true g2); cases eA; have p1 : (0 ≤ a) = True := eq_true (of_decide_eq_true g1); have p2 : (a < (t.length : Int)) = True := eq_true (of_decide_eq_true g2); clear hl1 hg1 hl3 hg3 hl4 hg4)
              go_quiet (first
                | (go_at_call 96; have q := HCN.out s; rw [g5] at q; exact Calls.quiet_of_same (q _)))
              go_wp2
              go_ret
              exact ⟨rfl, by first | exact HB.out | exact pw_below_drewN HB.out _ | exact below_drew1 HB.out⟩
            | false =>
              simp only [g5, if_true, if_false, Bool.true_and, Bool.false_and, Bool.not_true, Bool.not_false, Bool.true_or, Bool.false_or, Bool.false_eq_true] at HI
              cases g6 : (b == -1) with
              | true =>
                simp only [g6, if_true, if_false, Bool.true_and, Bool.false_and, Bool.not_true, Bool.not_false, Bool.true_or, Bool.false_or, Bool.false_eq_true] at HI
                subst HI
                go_enter Try.func77, Try.ntmps77
                go_wp2_with ((with_reducible refine gate_dst (N := 4) rfl ?_); refine box_event ?hg (N := 4) ?hd (cs := #[.int .i64 a, .int .i64 b, .string s, .slice A3 cs.length c3]) (t := 82) ?hr ?_; (case hd => rfl); (case hg => rfl); (case hr => first | (go_simp; done) | (go_simp; rfl)); intro ga hga w1 hbox hb; have BK := Aside0.mk hbox; have hz0 := (blk_cell BK.out 0).trans rfl; have hz1 := (blk_cell BK.out 1).trans rfl; have hz2 := (blk_cell BK.out 2).trans rfl; have hz3 := (blk_cell BK.out 3).trans rfl; have hf0 := blk_frozen BK.out 0; have hf1 := blk_frozen BK.out 1; have hf2 := blk_frozen BK.out 2; have hf3 := blk_frozen BK.out 3; have HB := Aside0.mk hb; clear hbox hb hga; obtain ⟨ad, B1, d1, B3, d3, B4, d4, eA, hx0, hx1, hx2, hx3, hx4, hl1, hg1, hl3, hg3, hl4, hg4⟩ := at_T91 (Kd.C_below HR2.out HB.out) a (of_decide_eq_true g1) (of_decide_eq_true g2); cases eA; have p1 : (0 ≤ a) = True := eq_true (of_decide_eq_true g1); have p2 : (a < (t.length : Int)) = True := eq_true (of_decide_eq_true g2); clear hl1 hg1 hl3 hg3 hl4 hg4)
                go_quiet (first
                  | (go_at_call 96; have q := HCN.out s; rw [g5] at q; exact Calls.quiet_of_same (q _)))
                go_wp2
                go_ret
                exact ⟨rfl, by first | exact HB.out | exact pw_below_drewN HB.out _ | exact below_drew1 HB.out⟩
              | false =>
                simp only [g6, if_true, if_false, Bool.true_and, Bool.false_and, Bool.not_true, Bool.not_false, Bool.true_or, Bool.false_or, Bool.false_eq_true] at HI
                cases g7 : livingB l b with
                | true =>
                  simp only [g7, if_true, if_false, Bool.true_and, Bool.false_and, Bool.not_true, Bool.not_false, Bool.true_or, Bool.false_or, Bool.false_eq_true] at HI
                  subst HI
                  go_enter Try.func77, Try.ntmps77
                  go_wp2_with ((with_reducible refine gate_dst (N := 4) rfl ?_); refine box_event ?hg (N := 4) ?hd (cs := #[.int .i64 a, .int .i64 b, .string s, .slice A3 cs.length c3]) (t := 82) ?hr ?_; (case hd => rfl); (case hg => rfl); (case hr => first | (go_simp; done) | (go_simp; rfl)); intro ga hga w1 hbox hb; have BK := Aside0.mk hbox; have hz0 := (blk_cell BK.out 0).trans rfl; have hz1 := (blk_cell BK.out 1).trans rfl; have hz2 := (blk_cell BK.out 2).trans rfl; have hz3 := (blk_cell BK.out 3).trans rfl; have hf0 := blk_frozen BK.out 0; have hf1 := blk_frozen BK.out 1; have hf2 := blk_frozen BK.out 2; have hf3 := blk_frozen BK.out 3; have HB := Aside0.mk hb; clear hbox hb hga; obtain ⟨ad, B1, d1, B3, d3, B4, d4, eA, hx0, hx1, hx2, hx3, hx4, hl1, hg1, hl3, hg3, hl4, hg4⟩ := at_T91 (Kd.C_below HR2.out HB.out) a (of_decide_eq_true g1) (of_decide_eq_true g2); cases eA; have p1 : (0 ≤ a) = True := eq_true (of_decide_eq_true g1); have p2 : (a < (t.length : Int)) = True := eq_true (of_decide_eq_true g2); clear hl1 hg1 hl3 hg3 hl4 hg4)
                  go_quiet (first
                    | (go_at_call 96; have q := HCN.out s; rw [g5] at q; exact Calls.quiet_of_same (q _))
                    | (go_at_call 76; have q := HLV.out; rw [g7] at q; exact Calls.quiet_of (q _ (pw_below_drewN HB.out _))))
                  go_wp2
                  go_ret
                  exact ⟨rfl, by first | exact HB.out | exact pw_below_drewN HB.out _ | exact below_drew1 HB.out⟩
                | false =>
                  simp only [g7, if_true, if_false, Bool.true_and, Bool.false_and, Bool.not_true, Bool.not_false, Bool.true_or, Bool.false_or, Bool.false_eq_true] at HI
                  subst HI
                  go_enter Try.func77, Try.ntmps77
                  go_wp2_with ((with_reducible refine gate_dst (N := 4) rfl ?_); refine box_event ?hg (N := 4) ?hd (cs := #[.int .i64 a, .int .i64 b, .string s, .slice A3 cs.length c3]) (t := 82) ?hr ?_; (case hd => rfl); (case hg => rfl); (case hr => first | (go_simp; done) | (go_simp; rfl)); intro ga hga w1 hbox hb; have BK := Aside0.mk hbox; have hz0 := (blk_cell BK.out 0).trans rfl; have hz1 := (blk_cell BK.out 1).trans rfl; have hz2 := (blk_cell BK.out 2).trans rfl; have hz3 := (blk_cell BK.out 3).trans rfl; have hf0 := blk_frozen BK.out 0; have hf1 := blk_frozen BK.out 1; have hf2 := blk_frozen BK.out 2; have hf3 := blk_frozen BK.out 3; have HB := Aside0.mk hb; clear hbox hb hga; obtain ⟨ad, B1, d1, B3, d3, B4, d4, eA, hx0, hx1, hx2, hx3, hx4, hl1, hg1, hl3, hg3, hl4, hg4⟩ := at_T91 (Kd.C_below HR2.out HB.out) a (of_decide_eq_true g1) (of_decide_eq_true g2); cases eA; have p1 : (0 ≤ a) = True := eq_true (of_decide_eq_true g1); have p2 : (a < (t.length : Int)) = True := eq_true (of_decide_eq_true g2); clear hl1 hg1 hl3 hg3 hl4 hg4)
                  go_quiet (first
                    | (go_at_call 96; have q := HCN.out s; rw [g5] at q; exact Calls.quiet_of_same (q _))
                    | (go_at_call 76; have q := HLV.out; rw [g7] at q; exact Calls.quiet_of (q _ (pw_below_drewN HB.out _))))
                  go_wp2
                  go_ret
                  exact ⟨rfl, by first | exact HB.out | exact pw_below_drewN HB.out _ | exact below_drew1 HB.out⟩
          | false =>
            simp only [g4, if_true, if_false, Bool.true_and, Bool.false_and, Bool.not_true, Bool.not_false, Bool.true_or, Bool.false_or, Bool.false_eq_true] at HI
            subst HI
            go_enter Try.func77, Try.ntmps77
            go_wp2_with ((with_reducible refine gate_dst (N := 4) rfl ?_); refine box_event ?hg (N := 4) ?hd (cs := #[.int .i64 a, .int .i64 b, .string s, .slice A3 cs.length c3]) (t := 82) ?hr ?_; (case hd => rfl); (case hg => rfl); (case hr => first | (go_simp; done) | (go_simp; rfl)); intro ga hga w1 hbox hb; have BK := Aside0.mk hbox; have hz0 := (blk_cell BK.out 0).trans rfl; have hz1 := (blk_cell BK.out 1).trans rfl; have hz2 := (blk_cell BK.out 2).trans rfl; have hz3 := (blk_cell BK.out 3).trans rfl; have hf0 := blk_frozen BK.out 0; have hf1 := blk_frozen BK.out 1; have hf2 := blk_frozen BK.out 2; have hf3 := blk_frozen BK.out 3; have HB := Aside0.mk hb; clear hbox hb hga; obtain ⟨ad, B1, d1, B3, d3, B4, d4, eA, hx0, hx1, hx2, hx3, hx4, hl1, hg1, hl3, hg3, hl4, hg4⟩ := at_T91 (Kd.C_below HR2.out HB.out) a (of_decide_eq_true g1) (of_decide_eq_true g2); cases eA; have p1 : (0 ≤ a) = True := eq_true (of_decide_eq_true g1); have p2 : (a < (t.length : Int)) = True := eq_true (of_decide_eq_true g2); clear hl1 hg1 hl3 hg3 hl4 hg4)
            go_quiet (fail)
            go_wp2
            go_ret
            exact ⟨rfl, by first | exact HB.out | exact pw_below_drewN HB.out _ | exact below_drew1 HB.out⟩
        | false =>
          simp only [g3, if_true, if_false, Bool.true_and, Bool.false_and, Bool.not_true, Bool.not_false, Bool.true_or, Bool.false_or, Bool.false_eq_true] at HI
          subst HI
          go_enter Try.func77, Try.ntmps77
          go_wp2_with ((with_reducible refine gate_dst (N := 4) rfl ?_); refine box_event ?hg (N := 4) ?hd (cs := #[.int .i64 a, .int .i64 b, .string s, .slice A3 cs.length c3]) (t := 82) ?hr ?_; (case hd => rfl); (case hg => rfl); (case hr => first | (go_simp; done) | (go_simp; rfl)); intro ga hga w1 hbox hb; have BK := Aside0.mk hbox; have hz0 := (blk_cell BK.out 0).trans rfl; have hz1 := (blk_cell BK.out 1).trans rfl; have hz2 := (blk_cell BK.out 2).trans rfl; have hz3 := (blk_cell BK.out 3).trans rfl; have hf0 := blk_frozen BK.out 0; have hf1 := blk_frozen BK.out 1; have hf2 := blk_frozen BK.out 2; have hf3 := blk_frozen BK.out 3; have HB := Aside0.mk hb; clear hbox hb hga; obtain ⟨ad, B1, d1, B3, d3, B4, d4, eA, hx0, hx1, hx2, hx3, hx4, hl1, hg1, hl3, hg3, hl4, hg4⟩ := at_T91 (Kd.C_below HR2.out HB.out) a (of_decide_eq_true g1) (of_decide_eq_true g2); cases eA; have p1 : (0 ≤ a) = True := eq_true (of_decide_eq_true g1); have p2 : (a < (t.length : Int)) = True := eq_true (of_decide_eq_true g2); clear hl1 hg1 hl3 hg3 hl4 hg4)
          go_quiet (fail)
          go_wp2
          go_ret
          exact ⟨rfl, by first | exact HB.out | exact pw_below_drewN HB.out _ | exact below_drew1 HB.out⟩
      | false =>
        simp only [g2, if_true, if_false, Bool.true_and, Bool.false_and, Bool.not_true, Bool.not_false, Bool.true_or, Bool.false_or, Bool.false_eq_true] at HI
        subst HI
        go_enter Try.func77, Try.ntmps77
        go_wp2_with ((with_reducible refine gate_dst (N := 4) rfl ?_); refine box_event ?hg (N := 4) ?hd (cs := #[.int .i64 a, .int .i64 b, .string s, .slice A3 cs.length c3]) (t := 82) ?hr ?_; (case hd => rfl); (case hg => rfl); (case hr => first | (go_simp; done) | (go_simp; rfl)); intro ga hga w1 hbox hb; have BK := Aside0.mk hbox; have hz0 := (blk_cell BK.out 0).trans rfl; have hz1 := (blk_cell BK.out 1).trans rfl; have hz2 := (blk_cell BK.out 2).trans rfl; have hz3 := (blk_cell BK.out 3).trans rfl; have hf0 := blk_frozen BK.out 0; have hf1 := blk_frozen BK.out 1; have hf2 := blk_frozen BK.out 2; have hf3 := blk_frozen BK.out 3; have HB := Aside0.mk hb; clear hbox hb hga)
        go_quiet (fail)
        go_wp2
        go_ret
        exact ⟨rfl, by first | exact HB.out | exact pw_below_drewN HB.out _ | exact below_drew1 HB.out⟩
    | false =>
      simp only [g1, if_true, if_false, Bool.true_and, Bool.false_and, Bool.not_true, Bool.not_false, Bool.true_or, Bool.false_or, Bool.false_eq_true] at HI
      subst HI
      go_enter Try.func77, Try.ntmps77
      go_wp2_with ((with_reducible refine gate_dst (N := 4) rfl ?_); refine box_event ?hg (N := 4) ?hd (cs := #[.int .i64 a, .int .i64 b, .string s, .slice A3 cs.length c3]) (t := 82) ?hr ?_; (case hd => rfl); (case hg => rfl); (case hr => first | (go_simp; done) | (go_simp; rfl)); intro ga hga w1 hbox hb; have BK := Aside0.mk hbox; have hz0 := (blk_cell BK.out 0).trans rfl; have hz1 := (blk_cell BK.out 1).trans rfl; have hz2 := (blk_cell BK.out 2).trans rfl; have hz3 := (blk_cell BK.out 3).trans rfl; have hf0 := blk_frozen BK.out 0; have hf1 := blk_frozen BK.out 1; have hf2 := blk_frozen BK.out 2; have hf3 := blk_frozen BK.out 3; have HB := Aside0.mk hb; clear hbox hb hga)
      go_quiet (fail)
      go_wp2
      go_ret
      exact ⟨rfl, by first | exact HB.out | exact pw_below_drewN HB.out _ | exact below_drew1 HB.out⟩
end Go.Proofs.Ytfpkakedlapmkaa.Q
end
section
set_option linter.unusedVariables false
namespace Go.Proofs.Ytfpkakedlapmkaa.Q
open Go.RowKit Go.Proofs.YtfpkakedlapmkaaW.PrintWords Go.Proofs.YtfpkakedlapmkaaW.PrintLast
theorem contains_slash (s : ByteArray) (W : World) : Calls Try.prog 96 #[.string s, .string ⟨#[47]⟩] W fun e w' => e = .returned (.bool (hasSlash s)) ∧ w' = W := Try.strings_Contains_one s 47 W
def dict_instRight.f (l0 : List (S82)) (a1_0 : Int) (a1_1 : Int) (a1_2 : ByteArray) (l1_3 : List Int) (l2 : List (S91)) : Option (Bool) := some (instOk l0 a1_0 a1_1 a1_2 l1_3 l2)
theorem dict_instRight.calls (A0 : Option Addr) (c0 : Nat) (l0 : List (S82)) (a1_0 : Int) (a1_1 : Int) (a1_2 : ByteArray) (A1_3 : Option Addr) (c1_3 : Nat) (l1_3 : List Int) (A2 : Option Addr) (c2 : Nat) (l2 : List (S91)) (r : Bool) (w : World) (hr0 : Kd.C k82 w A0 l0.length l0) (hc0 : l0.length ≤ c0) (hr1_3 : Kd.C (Kd.int .u32) w A1_3 l1_3.length l1_3) (hc1_3 : l1_3.length ≤ c1_3) (hr2 : Kd.C k91 w A2 l2.length l2) (hc2 : l2.length ≤ c2) (h : dict_instRight.f l0 a1_0 a1_1 a1_2 l1_3 l2 = some r) :
    Calls Try.prog 77 #[.slice A0 l0.length c0, .agg #[.int .i64 a1_0, .int .i64 a1_1, .string a1_2, .slice A1_3 l1_3.length c1_3], .slice A2 l2.length c2] w fun e w' => e = .returned (.bool r) ∧ Below w.heap.size w w' := by
  obtain rfl := Option.some.inj h
  exact instRight_calls contains_slash A0 c0 l0 a1_0 a1_1 a1_2 A1_3 c1_3 l1_3 A2 c2 l2 w hr0 hc0 hr2
end Go.Proofs.Ytfpkakedlapmkaa.Q
end
