/- Plain facts about the NVRAM's functions. -/
import Derived.Test.YtlpagilpbdiniaaHNvRef
import Derived.Test.YtlpagilpbdiniaaHNvPlanC
import Derived.Test.YtlpagilpbdiniaaQTinderlaw18Alive
namespace Go.Proofs.Ytlpagilpbdiniaa.Q
open Go.RowKit Go.Proofs.YtlpagilpbdiniaaW.PrintWords Go.Proofs.YtlpagilpbdiniaaW.PrintLast Go.Proofs.YtlpagilpbdiniaaW.PrintMore
theorem alive40 : tinderlaw18_alive.f 40 = some true := by kernel_rfl
theorem alive18 (k : Nat) (hk : 40 ≤ k) : tinderlaw18_alive.f k = some true := at_rounds tinderlaw18_alive.mono hk alive40
theorem u8_wf {x : Int} (h : (Lit.int .u8 x).wf = true) : 0 ≤ x ∧ x < 256 := by
  simp [Lit.wf, IntKind.min, IntKind.max, IntKind.bits, IntKind.signed] at h
  omega
theorem bytes_wf {l : List Int} (h : ∀ x ∈ l, (Lit.int .u8 x).wf = true) : Bytes l := fun a ha => u8_wf (h a ha)
theorem fold_range (l : List Int) : ∀ h : Int, (0 ≤ h ∧ h < 4294967296) → 0 ≤ l.foldl stepF h ∧ l.foldl stepF h < 4294967296 := by
  induction l with
  | nil => intro h hh; exact hh
  | cons c l ih => intro h _; exact ih _ (stepF_range h c)
theorem sumF_range (g : Int) (l : List Int) : 0 ≤ sumF g l ∧ sumF g l < 4294967296 := fold_range l _ (stepF_range _ _)
theorem four_be (M : List Int) (hM : M.length = 4) (hb : Bytes M) (s : Int) (hs : 0 ≤ s ∧ s < 4294967296) : (M.foldl beStep 0 == s) = decide (fourF s = M) := by
  obtain ⟨a, b, c, d, rfl⟩ : ∃ a b c d, M = [a, b, c, d] := by
    match M, hM with
    | [a, b, c, d], _ => exact ⟨a, b, c, d, rfl⟩
  have ha := hb a (by simp)
  have hb' := hb b (by simp)
  have hc := hb c (by simp)
  have hd := hb d (by simp)
  rw [Bool.eq_iff_iff, beq_iff_eq, decide_eq_true_iff]
  simp only [List.foldl_cons, List.foldl_nil, beStep, fourF, List.cons.injEq, and_true]
  omega
theorem bank_eq (B : List Int) (hB : B.length = 256) (hb : Bytes B) : bankR B = (if rd B 0 = 165 ∧ lenF B ≤ 248 then rd B 1 else 0, (dataF B).1, (dataF B).2) := by
  unfold bankR dataF
  split
  · rw [show beF (B.drop 4) = ((B.drop 4).take 4).foldl beStep 0 from rfl, four_be _ (by rw [List.length_take, List.length_drop]; omega) ((hb.drop _).take _) _ (sumF_range _ _)]
  · rfl
theorem bank_gen (B : List Int) (hB : B.length = 256) (hb : Bytes B) (h : (dataF B).2 = true) : (bankR B).1 = rd B 1 := by
  rw [bank_eq B hB hb]
  unfold dataF at h
  split at h
  · rename_i h2
    rw [if_pos h2]
  · cases h
theorem rd_take (L : List Int) (n : Nat) (i : Int) (h : i.toNat < n) : rd (L.take n) i = rd L i := by simp [rd, List.getD_eq_getElem?_getD, h]
theorem rd_drop (L : List Int) (n i : Nat) : rd (L.drop n) i = rd L ((n + i : Nat) : Int) := by
  unfold rd
  rw [Int.toNat_natCast, Int.toNat_natCast]
  simp [List.getD_eq_getElem?_getD, List.getElem?_drop]
theorem counts_eq (L : List Int) (hL : L.length = 512) (hb : Bytes L) : (countsR L).1 = countsF L ∧ ((countsR L).2 + 1) % 256 = genF L := by
  have e0 : bankF L 0 = L.take 256 := rfl
  have e1 : bankF L 1 = L.drop 256 := rfl
  have l0 : (L.take 256).length = 256 := by rw [List.length_take]; omega
  have l1 : (L.drop 256).length = 256 := by rw [List.length_drop]; omega
  have x0 : (bankR (L.take 256)).2.2 = (dataF (L.take 256)).2 := by rw [bank_eq _ l0 (hb.take _)]
  have x1 : (bankR (L.drop 256)).2.2 = (dataF (L.drop 256)).2 := by rw [bank_eq _ l1 (hb.drop _)]
  have g0 := bank_gen _ l0 (hb.take _)
  have g1 := bank_gen _ l1 (hb.drop _)
  have r0 : rd (L.take 256) 1 = rd L 1 := rd_take L 256 1 (by decide)
  have r1 : rd (L.drop 256) 1 = rd L 257 := rd_drop L 256 1
  rw [r0] at g0
  rw [r1] at g1
  have hg : genF L = if 0 ≤ countsF L then (rd L (countsF L * 256 + 1) + 1) % 256 else 1 := rfl
  rw [hg]
  unfold countsR countsF
  rw [e0, e1, x0, x1]
  cases hx : (dataF (L.take 256)).2
  · cases hy : (dataF (L.drop 256)).2
    · simp
    · simp [g1 hy]
  · cases hy : (dataF (L.drop 256)).2
    · simp [g0 hx]
    · rw [g0 hx, g1 hy]
      by_cases he : rd L 257 = (rd L 1 + 1) % 256
      · simp [he]
      · simp [he]
theorem rec_eq (nv : List Int) (hb : Bytes nv) : recR nv = recF nv := by
  unfold recR recF
  by_cases hl : nv.length = 512
  · have h := (counts_eq nv hl hb).1
    rw [if_pos hl, h]
    by_cases hk : 0 ≤ countsF nv
    · rw [if_pos hk, if_pos ⟨hl, hk⟩, bank_eq _ (bankF_len hl _) (bankF_bytes hb _)]
    · rw [if_neg hk, if_neg (fun x => hk x.2)]
  · rw [if_neg hl, if_neg (fun x => hl x.1)]
end Go.Proofs.Ytlpagilpbdiniaa.Q
