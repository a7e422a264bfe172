/- Contracts of Go functions and plain facts, of several texts, one behind the other; no condition. -/
import Derived.Test.YtfpkakedlapmkaaMDictFinds2
import Derived.Test.YtfpkakedlapmkaaMDictFinds3
import Derived.Test.YtfpkakedlapmkaaMDictFinds4
import Derived.Test.YtfpkakedlapmkaaMDictFinds5
import Derived.ChangeArms
import Derived.OpenShut
import Derived.SizedLaws
section
set_option linter.unusedSimpArgs false
set_option linter.unusedVariables false
namespace Go.Proofs.Ytfpkakedlapmkaa.Q
open Go.RowKit Go.Proofs.YtfpkakedlapmkaaW.PrintWords Go.Proofs.YtfpkakedlapmkaaW.PrintLast
theorem ref_prims : tinderref09_Prims.f = some primsL := rfl
theorem last_false (P : S51 → Bool) (l : List S51) (h : ∀ x, P x = false) : lastP P l = (0, false) := lastP_none P l fun _ _ => h _
section
variable (b0 b1 : List Int) (l : List S51) (b3 : List Int) (b4 : Int) (b5 : List S91) (b6 : Int) (b7 : List S82) (b8 : Int) (b9 : ByteArray)
theorem rfind_go (s : ByteArray) (hl : l.length ≤ 1000000000000000) : ∀ (d k : Nat) (i : Int), i + 1 = d → d ≤ l.length → (∀ j : Nat, j < l.length - d → isN51 s (l.getD (l.length - 1 - j) z51) = false) → 2 * d + 2 ≤ k → tinderref09_Find.l0 k s i b0 b1 l b3 b4 b5 b6 b7 b8 b9 = some (lastP (isN51 s) l)
  | 0, k, i, h1, hd, hz, hk => by
    obtain ⟨k, rfl⟩ : ∃ m, k = m + 2 := ⟨k - 2, by omega⟩
    rw [tinderref09_Find.l0, if_neg (by omega), tinderref09_Find.j1, if_neg (by simp), lastP_none (isN51 s) l (fun j hj => hz j (by omega))]
  | d + 1, k, i, h1, hd, hz, hk => by
    obtain ⟨k, rfl⟩ : ∃ m, k = m + 2 := ⟨k - 2, by omega⟩
    have hw : wrap64 (i - 1) = i - 1 := by unfold wrap64; omega
    rw [tinderref09_Find.l0, if_pos (by omega), tinderref09_Find.j1]
    by_cases he : s.toList = ([] : List UInt8)
    · rw [if_neg (by simp [he]), last_false (isN51 s) l (fun x => by unfold isN51; rw [he]; rfl)]
    · rw [if_pos (by simp [he]), if_pos (by omega), if_pos (by omega), hw]
      have hx : l.getD (l.length - 1 - (l.length - 1 - d)) z51 = rd_T51 l i := by
        rw [show l.length - 1 - (l.length - 1 - d) = i.toNat by omega]; rfl
      have hb : (!s.toList.isEmpty) = true := by cases h : s.toList with | nil => exact absurd h he | cons a t => rfl
      by_cases hn : (rd_T51 l i).f0.toList = s.toList
      · rw [if_pos hn, lastP_some (isN51 s) l (l.length - 1 - d) (by omega) (by rw [hx]; unfold isN51; rw [hb, beq_iff_eq.2 hn]; rfl) (fun j hj => hz j (by omega))]
        congr 2
        omega
      · rw [if_neg hn]
        refine rfind_go s hl d k (i - 1) (by omega) (by omega) (fun j hj => ?_) (by omega)
        by_cases hjd : j = l.length - 1 - d
        · subst hjd
          rw [hx]; unfold isN51; rw [beq_eq_false_iff_ne.2 hn, Bool.and_false]
        · exact hz j (by omega)
theorem rfind_eq (s : ByteArray) (hl : l.length ≤ 1000000000000000) (k : Nat) (hk : 2 * l.length + 2 ≤ k) : tinderref09_Find.f k b0 b1 l b3 b4 b5 b6 b7 b8 b9 s = some (lastP (isN51 s) l) := by
  unfold tinderref09_Find.f
  rw [show wrap64 ((l.length : Int) - 1) = (l.length : Int) - 1 by unfold wrap64; omega]
  exact rfind_go _ _ _ _ _ _ _ _ _ _ s hl l.length k _ (by omega) (Nat.le_refl _) (fun j hj => by omega) hk
theorem rmethod_go (s : ByteArray) (n : Int) (hl : l.length ≤ 1000000000000000) : ∀ (d k : Nat) (i : Int), i + 1 = d → d ≤ l.length → (∀ j : Nat, j < l.length - d → isM51 s n (l.getD (l.length - 1 - j) z51) = false) → 2 * d + 2 ≤ k → tinderref09_Method.l0 k n s i b0 b1 l b3 b4 b5 b6 b7 b8 b9 = some (lastP (isM51 s n) l)
  | 0, k, i, h1, hd, hz, hk => by
    obtain ⟨k, rfl⟩ : ∃ m, k = m + 2 := ⟨k - 2, by omega⟩
    rw [tinderref09_Method.l0, if_neg (by omega), tinderref09_Method.j1, if_neg (by simp), lastP_none (isM51 s n) l (fun j hj => hz j (by omega))]
  | d + 1, k, i, h1, hd, hz, hk => by
    obtain ⟨k, rfl⟩ : ∃ m, k = m + 2 := ⟨k - 2, by omega⟩
    have hw : wrap64 (i - 1) = i - 1 := by unfold wrap64; omega
    rw [tinderref09_Method.l0, if_pos (by omega)]
    by_cases he : s.toList = ([] : List UInt8)
    · rw [if_pos he, tinderref09_Method.j1, if_neg (by simp), last_false (isM51 s n) l (fun x => by unfold isM51; rw [he]; rfl)]
    · rw [if_neg he, tinderref09_Method.j1]
      by_cases h0 : n ≥ 0
      · rw [if_pos (decide_eq_true h0), if_pos (by omega), if_pos (by omega), hw]
        have hx : l.getD (l.length - 1 - (l.length - 1 - d)) z51 = rd_T51 l i := by
          rw [show l.length - 1 - (l.length - 1 - d) = i.toNat by omega]; rfl
        have hb : (!s.toList.isEmpty) = true := by cases h : s.toList with | nil => exact absurd h he | cons a t => rfl
        have on : isM51 s n (rd_T51 l i) = false → tinderref09_Method.l0 k n s (i - 1) b0 b1 l b3 b4 b5 b6 b7 b8 b9 = some (lastP (isM51 s n) l) := fun hf =>
          rmethod_go s n hl d k (i - 1) (by omega) (by omega) (fun j hj => by
            by_cases hjd : j = l.length - 1 - d
            · subst hjd
              rw [hx]; exact hf
            · exact hz j (by omega)) (by omega)
        by_cases hn : (rd_T51 l i).f0.toList = s.toList
        · rw [if_pos hn]
          by_cases hm : (rd_T51 l i).f1 = n
          · rw [if_pos hm, lastP_some (isM51 s n) l (l.length - 1 - d) (by omega) (by rw [hx]; unfold isM51; rw [hb, beq_iff_eq.2 hn, beq_iff_eq.2 hm, decide_eq_true (show 0 ≤ n from h0)]; rfl) (fun j hj => hz j (by omega))]
            congr 2
            omega
          · rw [if_neg hm]
            exact on (by unfold isM51; rw [beq_eq_false_iff_ne.2 hm, Bool.and_false, Bool.and_false, Bool.and_false])
        · rw [if_neg hn]
          exact on (by unfold isM51; rw [beq_eq_false_iff_ne.2 hn, Bool.false_and, Bool.and_false, Bool.and_false])
      · rw [if_neg (by simpa using h0), last_false (isM51 s n) l (fun x => by unfold isM51; rw [decide_eq_false (show ¬ 0 ≤ n from h0), Bool.false_and, Bool.and_false])]
theorem rmethod_eq (s : ByteArray) (n : Int) (hl : l.length ≤ 1000000000000000) (k : Nat) (hk : 2 * l.length + 2 ≤ k) : tinderref09_Method.f k b0 b1 l b3 b4 b5 b6 b7 b8 b9 n s = some (lastP (isM51 s n) l) := by
  unfold tinderref09_Method.f
  rw [show wrap64 ((l.length : Int) - 1) = (l.length : Int) - 1 by unfold wrap64; omega]
  exact rmethod_go _ _ _ _ _ _ _ _ _ _ s n hl l.length k _ (by omega) (Nat.le_refl _) (fun j hj => by omega) hk
theorem rcode_go (c : Int) (p : List S37) (hp : p.length ≤ 1000000) : ∀ (d k : Nat) (i : Int), 0 ≤ i → i + d = p.length → (∀ j : Nat, j < i.toNat → (p.getD j z37).f1 ≠ c) → d < k → tinderref09_Code.l0 k c p i = some (primIdx p c)
  | 0, k, i, h0, h1, hz, hk => by
    obtain ⟨k, rfl⟩ : ∃ m, k = m + 1 := ⟨k - 1, by omega⟩
    rw [tinderref09_Code.l0, if_neg (by omega), primIdx_none p c (fun j hj => hz j (by omega))]
  | d + 1, k, i, h0, h1, hz, hk => by
    obtain ⟨k, rfl⟩ : ∃ m, k = m + 1 := ⟨k - 1, by omega⟩
    have hw : wrap64 (i + 1) = i + 1 := by unfold wrap64; omega
    rw [tinderref09_Code.l0, if_pos (by omega), if_pos h0, hw]
    by_cases hc : (rd_T37 p i).f1 = c
    · rw [if_pos hc, primIdx_some p c i.toNat (by omega) hc hz]
      congr 2
      omega
    · rw [if_neg hc]
      refine rcode_go c p hp d k (i + 1) (by omega) (by omega) (fun j hj => ?_) (by omega)
      by_cases e : j = i.toNat
      · subst e; exact hc
      · exact hz j (by omega)
theorem rcode_eq (c : Int) (hw : wrap64 c = c) (k : Nat) (hk : 200 ≤ k) : tinderref09_Code.f k b0 b1 l b3 b4 b5 b6 b7 b8 b9 c = dict_Code.f b0 b1 l b3 b4 b5 b6 b7 b8 b9 c := by
  unfold tinderref09_Code.f dict_Code.f
  by_cases h : c < 2048
  · rw [if_neg (by omega), if_pos h, ref_prims, Option.bind_some, rcode_go c primsL (by rw [primsL_len]; omega) 111 k 0 (Int.le_refl _) (by rw [primsL_len]; rfl) (fun j hj => absurd hj (by simp)) (by omega)]
  · have hv : 0 ≤ wrap64 (c - 2048) := by unfold wrap64 at hw ⊢; omega
    rw [if_pos (by omega), if_neg h, if_pos hv]
    by_cases h1 : wrap64 (c - 2048) < (b3.length : Int)
    · rw [if_pos h1, if_pos hv]
      by_cases h2 : rd b3 (wrap64 (c - 2048)) = -1
      · rw [if_pos h2, if_neg (fun h => h.2 h2)]
      · rw [if_neg h2, if_pos ⟨h1, h2⟩]
    · rw [if_neg h1, if_pos hv, if_neg (fun h => h1 h.1)]
theorem code_some (c : Int) (hw : wrap64 c = c) : ∃ r, dict_Code.f b0 b1 l b3 b4 b5 b6 b7 b8 b9 c = some r := by
  unfold dict_Code.f
  by_cases h : c < 2048
  · rw [if_pos h]; exact ⟨_, rfl⟩
  · have hv : 0 ≤ wrap64 (c - 2048) := by unfold wrap64 at hw ⊢; omega
    rw [if_neg h, if_pos hv]; exact ⟨_, rfl⟩
end
end Go.Proofs.Ytfpkakedlapmkaa.Q
end
section
set_option linter.unusedVariables false
namespace Go.Proofs.Ytfpkakedlapmkaa.Q
open Go.RowKit Go.Proofs.YtfpkakedlapmkaaW.PrintWords Go.Proofs.YtfpkakedlapmkaaW.PrintLast
def OpG (a : S69) : Prop := (Lit.int .i64 a.f0).wf = true ∧ (Lit.int .u32 a.f1).wf = true
def OpsG (l : List S69) : Prop := l.length * 16 ≤ 140737488351232 ∧ ∀ b ∈ l, OpG b
def WordG (a : S51) : Prop := a.f0.size ≤ 140737488351232 ∧ (Lit.int .i64 a.f1).wf = true ∧ (Lit.int .i64 a.f2).wf = true ∧ (Lit.int .u32 a.f3).wf = true ∧ OpsG a.f4
def PropG (p : S106) : Prop := p.f0.size ≤ 140737488351232 ∧ (p.f1.length * 1 ≤ 140737488351232 ∧ ∀ b ∈ p.f1, (Lit.int .u8 b).wf = true)
def NodeG (a : S91) : Prop := a.f0.size ≤ 140737488351232 ∧ (a.f1.length * 4 ≤ 140737488351232 ∧ ∀ b ∈ a.f1, (Lit.int .u32 b).wf = true) ∧ (Lit.int .i64 a.f2).wf = true ∧ (a.f3.length * 40 ≤ 140737488351232 ∧ ∀ b ∈ a.f3, PropG b) ∧ (a.f4.length * 4 ≤ 140737488351232 ∧ ∀ b ∈ a.f4, (Lit.int .u32 b).wf = true)
def InstG (a : S82) : Prop := (Lit.int .i64 a.f0).wf = true ∧ (Lit.int .i64 a.f1).wf = true ∧ a.f2.size ≤ 140737488351232 ∧ (a.f3.length * 4 ≤ 140737488351232 ∧ ∀ b ∈ a.f3, (Lit.int .u32 b).wf = true)
def MachG (z : S32) : Prop := (z.f0.length * 4 ≤ 140737488351232 ∧ ∀ b ∈ z.f0, (Lit.int .u32 b).wf = true) ∧ (z.f1.length * 1 ≤ 140737488351232 ∧ ∀ b ∈ z.f1, (Lit.int .u8 b).wf = true) ∧ (z.f2.length * 64 ≤ 140737488351232 ∧ ∀ b ∈ z.f2, WordG b) ∧ (z.f3.length * 8 ≤ 140737488351232 ∧ ∀ b ∈ z.f3, (Lit.int .i64 b).wf = true) ∧ (Lit.int .u32 z.f4).wf = true ∧ (z.f5.length * 96 ≤ 140737488351232 ∧ ∀ b ∈ z.f5, NodeG b) ∧ (Lit.int .i64 z.f6).wf = true ∧ (z.f7.length * 56 ≤ 140737488351232 ∧ ∀ b ∈ z.f7, InstG b) ∧ (Lit.int .i64 z.f8).wf = true ∧ z.f9.size ≤ 140737488351232
theorem wf_i64 {x : Int} (h : (Lit.int .i64 x).wf = true) : -9223372036854775808 ≤ x ∧ x < 9223372036854775808 := by
  simp [Lit.wf, IntKind.min, IntKind.max, IntKind.bits, IntKind.signed] at h
  omega
theorem wrap_wf {x : Int} (h : (Lit.int .i64 x).wf = true) : wrap64 x = x := by
  have := wf_i64 h
  unfold wrap64
  omega
end Go.Proofs.Ytfpkakedlapmkaa.Q
end
section
namespace Go.Proofs.Ytfpkakedlapmkaa.Q
open Go.RowKit Go.Proofs.YtfpkakedlapmkaaW.PrintWords Go.Proofs.YtfpkakedlapmkaaW.PrintLast
theorem dictFinds_row {w : World} (cs : Array Value) (z : S32) (hz : k32.K w z cs.toList) (hg : MachG z) (s : ByteArray) (_hs : s.size ≤ 140737488351232) (n : Int) (hn : (Lit.int .i64 n).wf = true) :
    Calls Try.prog 5 #[.agg cs, .string s, .int .i64 n] w fun e w' => e = .returned (.bool true) ∧ Below w.heap.size w w' := by
  obtain ⟨A0, c0, A1, c1, A2, c2, A3, c3, A5, c5, A7, c7, e, l0, g0, l1, g1, l2, g2, l3, g3, l5, g5, l7, g7⟩ := k32_open hz
  obtain rfl : cs = #[.slice A0 z.f0.length c0, .slice A1 z.f1.length c1, .slice A2 z.f2.length c2, .slice A3 z.f3.length c3, .int .u32 z.f4, .slice A5 z.f5.length c5, .int .i64 z.f6, .slice A7 z.f7.length c7, .int .i64 z.f8, .string z.f9] := Array.ext' e
  have hw := wrap_wf hn
  have h2 : z.f2.length ≤ 1000000000000000 := by have := hg.2.2.1.1; omega
  refine tinderlaw09_DictFinds.calls 10000000000000000 A0 c0 z.f0 A1 c1 z.f1 A2 c2 z.f2 A3 c3 z.f3 z.f4 A5 c5 z.f5 z.f6 A7 c7 z.f7 z.f8 z.f9 s n true w g0 l0 g1 l1 g2 l2 g3 l3 g5 l5 g7 l7 ?_
  unfold tinderlaw09_DictFinds.f
  obtain ⟨r, hr⟩ := code_some z.f0 z.f1 z.f2 z.f3 z.f4 z.f5 z.f6 z.f7 z.f8 z.f9 n hw
  rw [show tinderlaw09_alive.f = some true from rfl, Option.bind_some, if_pos rfl, show dict_Find.f z.f0 z.f1 z.f2 z.f3 z.f4 z.f5 z.f6 z.f7 z.f8 z.f9 s = some (lastP (isN51 s) z.f2) from rfl, Option.bind_some, rfind_eq _ _ _ _ _ _ _ _ _ _ s h2 _ (by omega), Option.bind_some,
    show dict_Method.f z.f0 z.f1 z.f2 z.f3 z.f4 z.f5 z.f6 z.f7 z.f8 z.f9 n s = some (lastP (isM51 s n) z.f2) from rfl, Option.bind_some, rmethod_eq _ _ _ _ _ _ _ _ _ _ s n h2 _ (by omega), Option.bind_some, hr, Option.bind_some, rcode_eq _ _ _ _ _ _ _ _ _ _ n hw _ (by omega), hr, Option.bind_some, if_pos rfl, beq_self_eq_true, if_pos rfl, if_pos rfl, beq_self_eq_true, if_pos rfl, if_pos rfl, beq_self_eq_true]
end Go.Proofs.Ytfpkakedlapmkaa.Q
end
section
namespace Go.Proofs.Ytfpkakedlapmkaa.Q
open Go.RowKit Go.Proofs.YtfpkakedlapmkaaW.PrintWords Go.Proofs.YtfpkakedlapmkaaW.PrintLast Go.Proofs.YtfpkakedlapmkaaW.PrintMore
def Opens {α : Type} (P : Program) (t : TypeId) (d : Kd α) (G : α → Prop) : Prop :=
  ∀ (H : Type) (enc : TypeId × Value → H) (W : World) (fuel : Nat) (cs : List Value) (x : DataW H × List MemPlace), DataW.trod enc P W 0 (fun _ => true) true fuel t cs = some x → (∀ n ∈ x.1.weights P t, n ≤ reachBytes) → ∃ a, d.K W a cs ∧ G a
section
variable {P : Program} {t e : TypeId}
theorem opens_int {k : IntKind} (ht : P.underlying t = some (.int k)) : Opens P t (Kd.int k) (fun n => (Lit.int k n).wf = true) := by
  intro H enc W fuel cs x h _
  obtain ⟨n, rfl, _, hw⟩ := DataW.trod_int ht h
  exact ⟨n, rfl, hw⟩
theorem opens_string (ht : P.underlying t = some .string) : Opens P t Kd.string (fun s => s.size ≤ 140737488351232) := by
  intro H enc W fuel cs x h hw
  obtain ⟨s, rfl, rfl, _⟩ := DataW.trod_string ht h
  have := hw s.data.toList.length (by simp [DataW.weights])
  exact ⟨s, rfl, by simpa [reachBytes] using this⟩
theorem weights_all {H : Type} {P : Program} {e : TypeId} : ∀ {l : List (DataW H)} {d : DataW H}, d ∈ l → ∀ n ∈ d.weights P e, n ∈ DataW.weightsAll P e l
  | d0 :: l, d, hd, n, hn => by
    simp only [DataW.weightsAll, List.mem_append]
    rcases List.mem_cons.1 hd with rfl | hd
    · exact .inl hn
    · exact .inr (weights_all hd n hn)
theorem cells_get {W : World} {base : Nat} {a : Addr} {n : Nat} {c : List Value} (h : W.cells? base a n = some c) : c.length = n ∧ ∀ i u, c[i]? = some u → W.cell? (a.add i) = some u := by
  unfold World.cells? at h
  split at h
  · have hl := mapM_some_length h
    refine ⟨by simpa using hl, fun i u hu => ?_⟩
    have hi : i < n := by
      have := (List.getElem?_eq_some_iff.1 hu).1
      simp at hl
      omega
    have := mapM_some_get h i i (by simp [hi])
    rw [this, hu]
  · cases h
theorem opens_slice {α : Type} {d : Kd α} {G : α → Prop} (ht : P.underlying t = some (.slice e)) (hc : P.cellsOf e = d.sz) (b : Nat) (hb : P.bytesOf e = b) (he : Opens P e d G) :
    Opens P t (Kd.slice e d) (fun xs => xs.length * b ≤ 140737488351232 ∧ ∀ a ∈ xs, G a) := by
  intro H enc W fuel cs x h hw
  rcases DataW.trod_slice ht h with ⟨rfl, _⟩ | ⟨a, len, cap, elems, rest, n, _, rfl, rfl, _, hl, hm, hlen, hel, _⟩
  · exact ⟨[], ⟨none, 0, rfl, Nat.le_refl _, Kd.C_nil d W⟩, by simp, fun a h => by cases h⟩
  · have hwt : (elems.length + rest.length) * b ≤ 140737488351232 := by
      have := hw ((elems.length + rest.length) * P.bytesOf e) (by simp [DataW.weights, ht])
      rw [hb] at this
      simpa [reachBytes] using this
    have hall : ∀ i : Fin len, ∃ p : α, ∃ c, c.length = d.sz ∧ d.K W p c ∧ G p ∧ ∀ j u, c[j]? = some u → W.cell? (a.add (i.1 * d.sz + j)) = some u := by
      intro i
      have hi : i.1 < elems.length := by have := i.2; omega
      have h1 := hel i.1 i.2
      rw [List.getElem?_eq_getElem hi] at h1
      obtain ⟨c, hcs, htr⟩ := Option.bind_eq_some_iff.1 h1
      obtain ⟨hcl, hcg⟩ := cells_get hcs
      obtain ⟨p, hK, hG⟩ := he H enc W n c _ htr (fun m hm => hw m (by
        simp only [DataW.weights, ht, List.mem_cons, List.mem_append]
        exact .inr (.inl (weights_all (List.mem_map.2 ⟨_, List.getElem_mem hi, rfl⟩) m hm))))
      refine ⟨p, c, by rw [hcl, hc], hK, hG, fun j u hu => ?_⟩
      have := hcg j u hu
      rw [add_add, hc] at this
      exact this
    refine ⟨List.ofFn fun i => Classical.choose (hall i), ⟨some a, cap, by simp, by simpa using hl, by simp, by simp only [maxLen] at hm; simp; omega, fun _ => ⟨a, rfl, fun j p hj => ?_⟩⟩, ?_, ?_⟩
    · obtain ⟨hjl, hjp⟩ := List.getElem?_eq_some_iff.1 hj
      simp only [List.length_ofFn] at hjl
      have h2 := Classical.choose_spec (hall ⟨j, hjl⟩)
      rw [List.getElem_ofFn] at hjp
      rw [hjp] at h2
      obtain ⟨c, h3, h4, _, h6⟩ := h2
      exact ⟨c, h3, h4, h6⟩
    · rw [List.length_ofFn]
      refine Nat.le_trans (Nat.mul_le_mul_right b ?_) hwt
      omega
    · intro p hp
      obtain ⟨i, rfl⟩ := (List.mem_ofFn).1 hp
      obtain ⟨_, _, _, h5, _⟩ := Classical.choose_spec (hall i)
      exact h5
/-- The fields of a struct from one on, one behind the other. -/
def OpensFields {α : Type} (P : Program) (fs : List Field) (off : Nat) (d : Kd α) (G : α → Prop) : Prop :=
  ∀ (H : Type) (enc : TypeId × Value → H) (W : World) (fuel : Nat) (cs : List Value) (xs : List (DataW H × List MemPlace)), off + d.sz = cs.length → xs.length = fs.length →
    (∀ (i : Nat) (f : Field), fs[i]? = some f → DataW.trod enc P W 0 (fun _ => true) true fuel f.type ((cs.drop f.offset).take (P.cellsOf f.type)) = xs[i]?) →
    (∀ n ∈ DataW.weightsEach P (fs.map (·.type)) (xs.map (·.1)), n ≤ reachBytes) → ∃ a, d.K W a (cs.drop off) ∧ G a
theorem opens_one {α : Type} {d : Kd α} {G : α → Prop} {f : Field} {off : Nat} (ho : f.offset = off) (hc : P.cellsOf f.type = d.sz) (he : Opens P f.type d G) : OpensFields P [f] off d G := by
  intro H enc W fuel cs xs hl hx hf hw
  match xs, hx with
  | [x], _ =>
    have h0 := hf 0 f rfl
    rw [ho, hc, List.take_of_length_le (by rw [List.length_drop]; omega)] at h0
    exact he H enc W fuel _ x h0 (fun n hn => hw n (by simpa [DataW.weightsEach] using hn))
theorem opens_more {α β : Type} {d : Kd α} {d2 : Kd β} {G : α → Prop} {G2 : β → Prop} {f : Field} {fs : List Field} {off : Nat} (ho : f.offset = off) (hc : P.cellsOf f.type = d.sz) (he : Opens P f.type d G) (hs : OpensFields P fs (off + d.sz) d2 G2) :
    OpensFields P (f :: fs) off (Kd.pair d d2) (fun p => G p.1 ∧ G2 p.2) := by
  intro H enc W fuel cs xs hl hx hf hw
  have hl' : off + (d.sz + d2.sz) = cs.length := hl
  match xs, hx with
  | x :: xs, hx =>
    have h0 := hf 0 f rfl
    rw [ho, hc] at h0
    obtain ⟨a, h1, h2⟩ := he H enc W fuel _ x h0 (fun n hn => hw n (by simp only [List.map_cons, DataW.weightsEach, List.mem_append]; exact .inl hn))
    obtain ⟨b, h3, h4⟩ := hs H enc W fuel cs xs (by omega) (by simpa using hx) (fun i g hg => by simpa using hf (i + 1) g (by simpa using hg)) (fun n hn => hw n (by simp only [List.map_cons, DataW.weightsEach, List.mem_append]; exact .inr hn))
    refine ⟨(a, b), ⟨_, _, ?_, h1, h3⟩, h2, h4⟩
    rw [← List.drop_drop, List.take_append_drop]
theorem opens_struct {α : Type} {d : Kd α} {G : α → Prop} {fs : Array Field} (ht : P.underlying t = some (.struct fs)) (hc : P.cellsOf t = d.sz) (hf : OpensFields P fs.toList 0 d G) : Opens P t d G := by
  intro H enc W fuel cs x h hw
  obtain ⟨xs, n, _, rfl, hl, hlen, hg⟩ := DataW.trod_struct ht h
  have := hf H enc W n cs xs (by omega) (by simpa using hlen) (fun i f hi => hg i f (by simpa using hi)) (fun m hm => hw m (by simpa [DataW.weights, ht] using hm))
  simpa using this
theorem opens_iso {α β : Type} {d : Kd α} {G : α → Prop} (f : β → α) (g : α → β) (hfg : ∀ a, f (g a) = a) (h : Opens P t d G) : Opens P t (Kd.iso d f) (fun b => G (f b)) := by
  intro H enc W fuel cs x hx hw
  obtain ⟨a, h1, h2⟩ := h H enc W fuel cs x hx hw
  exact ⟨g a, by show d.K W (f (g a)) cs; rw [hfg]; exact h1, by show G (f (g a)); rw [hfg]; exact h2⟩
theorem weights_each {H : Type} {P : Program} {ts : List TypeId} {ds : List (DataW H)} (h : (DataW.weightsEach P ts ds).all (· ≤ reachBytes) = true) {j : Nat} {t : TypeId} {d : DataW H} (ht : ts[j]? = some t) (hd : ds[j]? = some d) : ∀ n ∈ d.weights P t, n ≤ reachBytes := fun n hn => by
  simpa using List.all_eq_true.1 h _ (DataW.weights_mem_each ht hd n hn)
end
end Go.Proofs.Ytfpkakedlapmkaa.Q
end
