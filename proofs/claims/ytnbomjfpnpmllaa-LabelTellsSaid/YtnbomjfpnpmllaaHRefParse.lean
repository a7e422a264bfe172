/- The reference's Parse. -/
import Derived.Test.YtnbomjfpnpmllaaHDec
import Derived.Test.YtnbomjfpnpmllaaHInts
set_option linter.unusedSimpArgs false
set_option linter.unusedVariables false
namespace Go.Proofs.Ytnbomjfpnpmllaa.Q
open Go.RowKit Go.Proofs.YtnbomjfpnpmllaaW.PrintWords Go.Proofs.YtnbomjfpnpmllaaW.PrintLast Go.Proofs.YtnbomjfpnpmllaaW.PrintMore
def partB (l : List Int) (i : Nat) : Part := (numB (l.drop (8 * i)), numB (l.drop (8 * i + 4)))
def partsB (l : List Int) : List Part := (List.range 8).map (partB l)
def atB (l : List Int) (i : Nat) : List Part := (List.range i).map (partB l) ++ List.replicate (8 - i) (0, 0)
theorem atB_len (l : List Int) (i : Nat) (h : i ≤ 8) : (atB l i).length = 8 := by simp [atB]; omega
theorem atB_8 (l : List Int) : atB l 8 = partsB l := by simp [atB, partsB]
theorem atB_set (l : List Int) (i : Nat) (h : i < 8) : (atB l i).set i (partB l i) = atB l (i + 1) := by
  unfold atB
  rw [show 8 - i = (8 - (i + 1)) + 1 by omega, List.replicate_succ, List.range_succ, List.map_append, List.append_assoc, List.set_append_right _ _ (by simp)]
  simp
theorem pc_of {w : World} {g : Nat} {ps : List Part} {Z : List Value} (hz : Z = partCells ps) (h : w.heap[g]? = some (.cells Z.toArray 25 (0, 0))) : PCell w g ps := by subst hz; exact h
theorem atB_get (l : List Int) (i : Nat) (h : i < 8) : (atB l i).getD i (0, 0) = (0, 0) := by
  unfold atB
  rw [List.getD_eq_getElem?_getD, List.getElem?_append_right (by simp)]
  simp [List.getElem?_replicate, show 0 < 8 - i by omega]
theorem exec_load25 {w : World} {g : Nat} {ps : List Part} {a : Act} {o : Oper} {x : Operand} (ho : o.op = .load 25 x) (hx : a.eval x = .pointer (some ⟨g, 0, none⟩)) (h : PCell w g ps) (hl : ps.length = 8) : (execOp a.eval o).run Try.prog w = .ok (.value (.agg (partCells ps).toArray)) w := by
  have hr : (Instr.loadAt 25 (.pointer (some ⟨g, 0, none⟩))).run Try.prog w = .ok (.agg (partCells ps).toArray) w := by
    simp only [Instr.loadAt, Instr.sureAddr, Sem.run_bind, Sem.run_pure, Result.andThen_ok]
    exact run_loadVar_any w ⟨g, 0, none⟩ 25 (partCells ps) (.array 8 24) (fun j v hv => by rw [Addr.add_mid, Nat.zero_add, blk_cell h]; simpa using hv) Try.underlying25 rfl (by rw [partCells_len, hl]; exact size25)
  simp only [execOp, ho, hx]
  rw [Sem.run_bind, hr]
  rfl
theorem str_ne {s t : ByteArray} (h : ¬ s = t) : (s.toList == t.toList) = false := by
  have : ¬ s.toList = t.toList := fun e => h (by rw [ByteArray.toList_eq, ByteArray.toList_eq] at e; exact ByteArray.ext (Array.ext' e))
  simpa using this
theorem run_build25 (w : World) : (Instr.build 25 #[]).run Try.prog w = .ok (.agg (partCells noParts).toArray) w := by kernel_rfl
theorem exec_build25 {a : Act} {o : Oper} (ho : o.op = .build 25 #[]) (w : World) : (execOp a.eval o).run Try.prog w = .ok (.value (.agg (partCells noParts).toArray)) w := by
  simp only [execOp, ho]
  rw [Sem.run_bind]
  simp [run_build25]
theorem exec_string {w : World} {A : Option Addr} {n c : Nat} {l : List Int} {a : Act} {o : Oper} {x : Operand} (ho : o.op = .convert 27 9 x) (hx : a.eval x = .slice A n c) (h : Kd.C (Kd.int .u8) w A n l) : (execOp a.eval o).run Try.prog w = .ok (.value (.string (strOfNums l))) w := by
  have hr : (convert 27 9 (.slice A n c)).run Try.prog w = .ok (.string (strOfNums l)) w := Kd.C_string Try.underlying27 Try.underlying5 Try.underlying9 h
  simp only [execOp, ho, hx]
  rw [Sem.run_bind, hr]
  rfl
theorem drop_C {w : World} {A : Option Addr} {n : Nat} {l : List Int} (h : Kd.C (Kd.int .u8) w A n l) (lo : Nat) (hlo : lo ≤ n) : Kd.C (Kd.int .u8) w (Option.map (fun x => x.add lo) A) (n - lo) (l.drop lo) := by
  have hl : l.length = n := h.1
  have h2 := C_cut h (Nat.le_succ n) lo (n - lo) (by omega)
  rw [List.take_of_length_le (by rw [List.length_drop]; omega)] at h2
  unfold cutAt at h2
  rw [if_neg (by omega)] at h2
  have e : lo * (Kd.int .u8).sz = lo := Nat.mul_one _
  rw [e] at h2
  exact h2
def refParseF (l : List Int) : List Part × Int := if l.length = 512 then (if strOfNums (labelF (partsB l)) = strOfNums l then (partsB l, 0) else (noParts, 24)) else (noParts, 24)
theorem Parts_B (l : List Int) : Parts (partsB l) := by
  have hd : ∀ m : List Int, 0 ≤ numB m ∧ numB m < 4294967296 := fun m => by
    unfold numB
    rw [decAt]
    omega
  intro p hp
  unfold partsB at hp
  obtain ⟨i, _, rfl⟩ := List.mem_map.1 hp
  exact ⟨hd _, hd _⟩
theorem partsB_len (l : List Int) : (partsB l).length = 8 := by simp [partsB]
set_option maxHeartbeats 8000000 in
set_option maxRecDepth 100000 in
theorem refParse_calls (A : Option Addr) (c : Nat) (l : List Int) (w : World) (hC : Kd.C (Kd.int .u8) w A l.length l) (hc : l.length ≤ c) :
    Calls Try.prog 14 #[.slice A l.length c] w fun e w' => e = .returned (.tuple #[.agg (partCells (refParseF l).1).toArray, .int .i64 (refParseF l).2]) ∧ Below w.heap.size w w' := by
  obtain ⟨R, hR⟩ : ∃ R, R = refParseF l := ⟨_, rfl⟩
  rw [← hR]
  unfold refParseF at hR
  by_cases hl : l.length = 512
  · rw [if_pos hl] at hR
    have d0 : ((l.length : Int) != 512) = false := by rw [hl]; rfl
    have HR := Aside0.mk hR
    have HL := Aside0.mk hl
    have HC := Aside0.mk hC
    have HCC := Aside0.mk hc
    rw [hl]
    clear hR hl hC hc
    have P2 := Aside0.mk (show PCell ((w.alloc (.cells #[.int .u32 0, .int .u32 0, .int .u32 0, .int .u32 0, .int .u32 0, .int .u32 0, .int .u32 0, .int .u32 0, .int .u32 0, .int .u32 0, .int .u32 0, .int .u32 0, .int .u32 0, .int .u32 0, .int .u32 0, .int .u32 0] 25)).alloc (.cells #[.int .u32 0, .int .u32 0, .int .u32 0, .int .u32 0, .int .u32 0, .int .u32 0, .int .u32 0, .int .u32 0, .int .u32 0, .int .u32 0, .int .u32 0, .int .u32 0, .int .u32 0, .int .u32 0, .int .u32 0, .int .u32 0] 25)) w.heap.size noParts from (blk_alloc (blk_new w _) _))
    have P4 := Aside0.mk (show PCell ((w.alloc (.cells #[.int .u32 0, .int .u32 0, .int .u32 0, .int .u32 0, .int .u32 0, .int .u32 0, .int .u32 0, .int .u32 0, .int .u32 0, .int .u32 0, .int .u32 0, .int .u32 0, .int .u32 0, .int .u32 0, .int .u32 0, .int .u32 0] 25)).alloc (.cells #[.int .u32 0, .int .u32 0, .int .u32 0, .int .u32 0, .int .u32 0, .int .u32 0, .int .u32 0, .int .u32 0, .int .u32 0, .int .u32 0, .int .u32 0, .int .u32 0, .int .u32 0, .int .u32 0, .int .u32 0, .int .u32 0] 25)) (w.heap.size + 1) noParts from (by have h := blk_new (w.alloc (.cells #[.int .u32 0, .int .u32 0, .int .u32 0, .int .u32 0, .int .u32 0, .int .u32 0, .int .u32 0, .int .u32 0, .int .u32 0, .int .u32 0, .int .u32 0, .int .u32 0, .int .u32 0, .int .u32 0, .int .u32 0, .int .u32 0] 25)) (.cells #[.int .u32 0, .int .u32 0, .int .u32 0, .int .u32 0, .int .u32 0, .int .u32 0, .int .u32 0, .int .u32 0, .int .u32 0, .int .u32 0, .int .u32 0, .int .u32 0, .int .u32 0, .int .u32 0, .int .u32 0, .int .u32 0] 25); rw [World.size_alloc] at h; exact h))
    have HB4 := Aside0.mk (below_alloc (below_alloc (Below.refl w.heap.size w) (.cells #[.int .u32 0, .int .u32 0, .int .u32 0, .int .u32 0, .int .u32 0, .int .u32 0, .int .u32 0, .int .u32 0, .int .u32 0, .int .u32 0, .int .u32 0, .int .u32 0, .int .u32 0, .int .u32 0, .int .u32 0, .int .u32 0] 25)) (.cells #[.int .u32 0, .int .u32 0, .int .u32 0, .int .u32 0, .int .u32 0, .int .u32 0, .int .u32 0, .int .u32 0, .int .u32 0, .int .u32 0, .int .u32 0, .int .u32 0, .int .u32 0, .int .u32 0, .int .u32 0, .int .u32 0] 25))
    go_enter Try.func14, Try.ntmps14
    go_wp2
    obtain ⟨g2, hg2⟩ : ∃ g2, g2 = w.heap.size := ⟨_, rfl⟩
    obtain ⟨g4, hg4⟩ : ∃ g4, g4 = w.heap.size + 1 := ⟨_, rfl⟩
    have HNE := Aside0.mk (show g2 ≠ g4 by omega)
    have G2 := Aside0.mk (show w.heap.size ≤ g2 by omega)
    have G4 := Aside0.mk (show w.heap.size ≤ g4 by omega)
    rw [← hg4] at P4 ⊢
    rw [← hg2] at P2
    generalize (w.alloc (.cells #[.int .u32 0, .int .u32 0, .int .u32 0, .int .u32 0, .int .u32 0, .int .u32 0, .int .u32 0, .int .u32 0, .int .u32 0, .int .u32 0, .int .u32 0, .int .u32 0, .int .u32 0, .int .u32 0, .int .u32 0, .int .u32 0] 25)).alloc (.cells #[.int .u32 0, .int .u32 0, .int .u32 0, .int .u32 0, .int .u32 0, .int .u32 0, .int .u32 0, .int .u32 0, .int .u32 0, .int .u32 0, .int .u32 0, .int .u32 0, .int .u32 0, .int .u32 0, .int .u32 0, .int .u32 0] 25) = W4 at P2 P4 HB4 ⊢
    simp only [← hg2]
    clear hg2 hg4
    go_loopg [5] 8 (fun kq v5 w' => ∃ i : Int, v5 = .int .i64 i ∧ Aside0 (0 ≤ i ∧ i + kq = 8) ∧ Aside0 (PCell w' g2 noParts) ∧ Aside0 (PCell w' g4 (atB l i.toNat)) ∧ Aside0 (Below w.heap.size w w'))
    case atStart => exact ⟨0, rfl, ⟨by omega, by omega⟩, P2, P4, HB4⟩
    case round =>
      clear P2 P4 HB4
      obtain ⟨i, rfl, HI, P2, P4, HB⟩ := hrel
      cases gk with
      | zero =>
        have hi8 : i = 8 := by have := HI.out; omega
        have hlt : decide (i < (8 : Int)) = false := decide_eq_false (by omega)
        have hP := P4.out
        rw [hi8, show (8 : Int).toNat = 8 from rfl, atB_8] at hP
        have P4' := Aside0.mk hP
        clear hP hi8 P4
        go_wp2
        have hC5 : Kd.C (Kd.int .u8) wr A 512 l := Kd.C_below (HL.out ▸ HC.out) HB.out
        obtain ⟨S1, hS1⟩ : ∃ s, s = strOfNums (labelF (partsB l)) := ⟨_, rfl⟩
        obtain ⟨S2, hS2⟩ : ∃ s, s = strOfNums l := ⟨_, rfl⟩
        have HS1 := Aside0.mk hS1
        have HS2 := Aside0.mk hS2
        have HRR := Aside0.mk (show R = if S1 = S2 then (partsB l, 0) else (noParts, 24) by rw [hS1, hS2]; exact HR.out)
        clear hS1 hS2
        obtain ⟨nb, hnb⟩ : ∃ nb, nb = !(S1.toList == S2.toList) := ⟨_, rfl⟩
        have HNB := Aside0.mk hnb
        clear hnb
        refine start_ (n := 6) (S := fun w' => PCell w' g4 (partsB l) ∧ Kd.C (Kd.int .u8) w' A 512 l) (ds := []) #[false, false, false, false, false, false] (by kernel_rfl) rfl rfl ⟨P4'.out, hC5⟩ (fun hHeld => ?_)
        refine take_ (i := 0) (N := some 39) (v := .agg (partCells (partsB l)).toArray) (a' := ?_) #[true, false, false, false, false, false] rfl rfl (by kernel_rfl) (fun _ _ _ h => h) (Or.inl ⟨by rfl, ?_⟩) hHeld ?_ ?_
        rotate_left
        rotate_left
        · simp only [Act.put, List.setIfInBounds_toArray, List.set_cons_zero, List.set_cons_succ]
          rfl
        rotate_left
        · rintro w' ⟨s0, s1⟩
          exact exec_load25 rfl rfl s0 (partsB_len l)
        refine pure_ (i := 3) (N := some 42) (v := ?_) (a' := ?_) #[true, false, false, true, false, false] rfl rfl (by kernel_rfl) (fun _ _ _ h => h) (Or.inl ⟨by rfl, ?_⟩) ?_ ?_
        rotate_left
        · intro w'
          go_simp
          with_reducible rfl
        rotate_left
        · simp only [Act.put, List.setIfInBounds_toArray, List.set_cons_zero, List.set_cons_succ]
          rfl
        refine take_ (i := 4) (N := some 43) (v := .string S2) (a' := ?_) #[true, false, false, true, true, false] rfl rfl (by kernel_rfl) (fun _ _ _ h => h) (Or.inl ⟨by rfl, ?_⟩) hHeld ?_ ?_
        rotate_left
        rotate_left
        · simp only [Act.put, List.setIfInBounds_toArray, List.set_cons_zero, List.set_cons_succ]
          rfl
        rotate_left
        · rintro w' ⟨s0, s1⟩
          exact HS2.out ▸ exec_string rfl rfl s1
        refine one_ (i := 1) (N := some 40) #[true, true, false, true, true, false] rfl rfl (by kernel_rfl) (by decide) (fun K hK => ?_)
        refine goes_ Try.func26 (by kernel_rfl) rfl #[.agg (partCells (partsB l)).toArray] (by rfl) rfl rfl (by first | rfl | (simp only [List.map_toArray, List.map_cons, List.map_nil]; rfl)) ?_
        refine (refBytes_calls (partsB l) _ (partsB_len l) (Parts_B l)).mono ?_
        rintro e w2 ⟨v, rfl, hR2, hb2⟩
        obtain ⟨A9, c9, rfl, _, hC9⟩ := Kd.R_reads hR2
        refine ⟨_, rfl, hK.out _ _ ⟨hHeld.1.below hb2, Kd.C_below hHeld.2 hb2⟩ (fun hHeld => ?_)⟩
        clear hK K
        simp only [Act.put, List.setIfInBounds_toArray, List.set_cons_zero, List.set_cons_succ]
        refine one_ (i := 2) (N := some 41) #[true, true, true, true, true, false] rfl rfl (by kernel_rfl) (by decide) (fun K hK => ?_)
        refine event_stepN (by rfl) rfl (v := .string S1) (w1 := w2) (HS1.out ▸ exec_string rfl rfl hC9) (hK.out _ _ hHeld (fun hHeld => ?_))
        clear hK K
        simp only [Act.put, List.setIfInBounds_toArray, List.set_cons_zero, List.set_cons_succ]
        refine pure_ (i := 5) (N := some 44) (v := .bool nb) (a' := ?_) #[true, true, true, true, true, true] rfl rfl (by kernel_rfl) (fun _ _ _ h => h) (Or.inl ⟨by rfl, ?_⟩) ?_ ?_
        rotate_left
        rotate_left
        · simp only [Act.put, List.setIfInBounds_toArray, List.set_cons_zero, List.set_cons_succ]
          rfl
        rotate_left
        · intro w'
          rw [HNB.out]
          go_simp
        refine done_ (n := 0) (by kernel_rfl) ?_
        have HB2 := Aside0.mk (below_step (below_drew HB.out) hb2)
        have P22 := Aside0.mk ((show PCell wr.drew g2 noParts from P2.out).below hb2)
        have P42 := Aside0.mk hHeld.1
        clear hR2 hC9 hHeld hb2 hC5 HS1 HS2
        by_cases hs : S1 = S2
        · subst hs
          obtain rfl : nb = false := by rw [HNB.out]; simp
          have hRe := HRR.out
          rw [if_pos rfl] at hRe
          subst hRe
          go_wp2_with (first
            | ((with_reducible refine gate_dst (N := 46) rfl ?_); refine load_parts rfl (.tmp 4) rfl g4 (partsB l) rfl P42.out (partsB_len l) ?_)
            | ((with_reducible refine gate_ (.store 25 (.tmp 2) (.tmp 46)) rfl ?_); refine store_parts rfl (.tmp 2) (.tmp 46) rfl g2 noParts (partsB l) rfl rfl P22.out noParts_len (partsB_len l) ?_; intro w5 h5 hg5; have P5 := Aside0.mk h5; have HB5 := Aside0.mk (pw_below_grown HB2.out _ (below_size HB2.out) hg5 (fun k hk => Option.some.inj hk ▸ G2.out)); clear h5 hg5))
          exact bodyPost_ret (results_parts (p := 2) (u := 3) rfl _ _ g2 (partsB l) rfl P5.out (partsB_len l)) rfl ⟨rfl, HB5.out⟩
        · have hRe := HRR.out
          rw [if_neg hs] at hRe
          subst hRe
          obtain rfl : nb = true := by rw [HNB.out, str_ne hs]; rfl
          go_wp2_with (first
            | ((with_reducible refine gate_dst (N := 45) rfl ?_); refine Kd.event_run rfl (exec_build25 rfl _) ?_)
            | ((with_reducible refine gate_ (.store 25 (.tmp 2) (.tmp 45)) rfl ?_); refine store_parts rfl (.tmp 2) (.tmp 45) rfl g2 noParts noParts rfl rfl P22.out noParts_len noParts_len ?_; intro w5 h5 hg5; have P5 := Aside0.mk h5; have HB5 := Aside0.mk (pw_below_grown HB2.out _ (below_size HB2.out) hg5 (fun k hk => Option.some.inj hk ▸ G2.out)); clear h5 hg5))
          exact bodyPost_ret (results_parts (p := 2) (u := 3) rfl _ _ g2 noParts rfl P5.out noParts_len) rfl ⟨rfl, HB5.out⟩
      | succ k1 =>
        have hi := HI.out
        have hL := HL.out
        have hcc := HCC.out
        have hlt : decide (i < (8 : Int)) = true := decide_eq_true (by omega)
        have hw2 : wrap64 (i + 1) = i + 1 := by unfold wrap64; omega
        have hw3 : wrap64 (8 * i) = 8 * i := by unfold wrap64; omega
        have hw4 : wrap64 (8 * i + 4) = 8 * i + 4 := by unfold wrap64; omega
        have p1 : (0 ≤ i) = True := eq_true (by omega)
        have p2 : (i < 8) = True := eq_true (by omega)
        have p3 : (0 ≤ 8 * i) = True := eq_true (by omega)
        have p4 : (8 * i ≤ 512) = True := eq_true (by omega)
        have p5 : (0 ≤ 8 * i + 4) = True := eq_true (by omega)
        have p6 : (8 * i + 4 ≤ 512) = True := eq_true (by omega)
        have HI1 := Aside0.mk hi
        have hn1 : ¬ c = (8 * i).toNat := by omega
        have hn2 : ¬ c = (8 * i + 4).toNat := by omega
        have HI8 := Aside0.mk (show i.toNat < 8 ∧ i.toNat < (atB l i.toNat).length from ⟨by omega, by rw [atB_len l i.toNat (by omega)]; omega⟩)
        have HLO := Aside0.mk (show (8 * i).toNat ≤ 512 ∧ 4 ≤ 512 - (8 * i).toNat ∧ 512 - (8 * i).toNat ≤ c - (8 * i).toNat by omega)
        have HLO2 := Aside0.mk (show (8 * i + 4).toNat ≤ 512 ∧ 4 ≤ 512 - (8 * i + 4).toNat ∧ 512 - (8 * i + 4).toNat ≤ c - (8 * i + 4).toNat by omega)
        have HC5 := Aside0.mk (show Kd.C (Kd.int .u8) w A 512 l from hL ▸ HC.out)
        clear hi hL hcc
        go_wp2_with (first
          | (go_at_call 30; (with_reducible refine (dec_at _ _ _ (l.drop (8 * i).toNat) _ (drop_C (Kd.C_below HC5.out HB.out) _ HLO.out.1) HLO.out.2.1 HLO.out.2.2).mono ?_); rintro e w7 ⟨v7, rfl, hb⟩; have HB7 := Aside0.mk (below_step HB.out hb); have P27 := Aside0.mk (P2.out.below hb); have P47 := Aside0.mk (P4.out.below hb); have hc0 := P47.out.get0 i.toNat HI8.out.2; have hf0 := blk_frozen P47.out (i.toNat * 2); clear hb)
          | (go_at_call 30; (with_reducible refine (dec_at _ _ _ (l.drop (8 * i + 4).toNat) _ (drop_C (Kd.C_below HC5.out (below_set HB7.out G4.out)) _ HLO2.out.1) HLO2.out.2.1 HLO2.out.2.2).mono ?_); rintro e w8 ⟨v8, rfl, hb⟩; have HB8 := Aside0.mk (below_step (below_set HB7.out G4.out) hb); have P28 := Aside0.mk ((show PCell _ g2 noParts from blk_far P27.out (p := ⟨g4, i.toNat * 2, none⟩) HNE.out _).below hb); have P48 := Aside0.mk ((P47.out.set0 i.toNat HI8.out.2 (numB (l.drop (8 * i).toNat))).below hb); have hc1 := P48.out.get1 i.toNat (by rw [List.length_set]; exact HI8.out.2); have hf1 := blk_frozen P48.out (i.toNat * 2 + 1); clear hb))
        go_roundg k1
        case measure => omega
        case rel =>
          have hi := HI1.out
          refine ⟨i + 1, congrArg (Value.int .i64) hw2, ⟨by omega, by omega⟩, ⟨blk_far P28.out (p := ⟨g4, i.toNat * 2 + 1, none⟩) HNE.out _⟩, ⟨?_⟩, ⟨below_set HB8.out G4.out⟩⟩
          have h := P48.out.set1 i.toNat (by rw [List.length_set]; exact HI8.out.2) (numB (l.drop (8 * i + 4).toNat))
          have hs : (atB l i.toNat).length = 8 := atB_len l i.toNat (by omega)
          rw [List.set_set] at h
          have hg : ((atB l i.toNat).set i.toNat (numB (l.drop (8 * i).toNat), ((atB l i.toNat).getD i.toNat (0, 0)).2)).getD i.toNat (0, 0) = (numB (l.drop (8 * i).toNat), ((atB l i.toNat).getD i.toNat (0, 0)).2) := by
            rw [List.getD_eq_getElem?_getD, List.getElem?_set_self (by omega)]; rfl
          rw [hg] at h
          have he := atB_set l i.toNat (by omega)
          unfold partB at he
          rw [show 8 * i.toNat = (8 * i).toNat by omega, show (8 * i).toNat + 4 = (8 * i + 4).toNat by omega] at he
          rw [he, show i.toNat + 1 = (i + 1).toNat by omega] at h
          exact h
  · rw [if_neg hl] at hR
    have d0 : ((l.length : Int) != 512) = true := bne_iff_ne.2 (by omega)
    obtain rfl := hR
    clear hl hC hc
    go_enter Try.func14, Try.ntmps14
    go_wp2
    exact bodyPost_ret (results_parts (p := 2) (u := 3) rfl _ _ w.heap.size noParts rfl (blk_alloc (blk_new w _) _) noParts_len) rfl ⟨rfl, below_alloc (below_alloc (Below.refl _ _) _) _⟩
end Go.Proofs.Ytnbomjfpnpmllaa.Q
