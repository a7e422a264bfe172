/- label.Make. -/
import Derived.Test.YtnbomjfpnpmllaaHSpare
set_option linter.unusedSimpArgs false
set_option linter.unusedVariables false
namespace Go.Proofs.Ytnbomjfpnpmllaa.Q
open Go.RowKit Go.Proofs.YtnbomjfpnpmllaaW.PrintWords Go.Proofs.YtnbomjfpnpmllaaW.PrintLast Go.Proofs.YtnbomjfpnpmllaaW.PrintMore
abbrev Part := Int × Int
def partCells (ps : List Part) : List Value := ps.flatMap fun p => [.int .u32 p.1, .int .u32 p.2]
def fourF (a : Int) : List Int := [(a / 16777216) % 256, (a / 65536) % 256, (a / 256) % 256, a % 256]
def headF (ps : List Part) : List Int := ps.flatMap fun p => fourF p.1 ++ fourF p.2
def bodyF (ps : List Part) : List Int := headF ps ++ zerosL (508 - (headF ps).length) ++ [218, 190]
def labelF (ps : List Part) : List Int := bodyF ps ++ [(crossF (bodyF ps)).1, (crossF (bodyF ps)).2]
def big (p : Part) : Bool := decide (64 < p.1) || decide (64 < p.2)
def makeF (ps : List Part) : List Int × Int := if ps.any big then ([], 1) else (labelF ps, 0)
theorem partCells_len (ps : List Part) : (partCells ps).length = 2 * ps.length := by
  induction ps with
  | nil => rfl
  | cons p ps ih => simp only [partCells, List.flatMap_cons, List.length_append, List.length_cons, List.length_nil] at ih ⊢; omega
theorem headF_len (ps : List Part) : (headF ps).length = 8 * ps.length := by
  induction ps with
  | nil => rfl
  | cons p ps ih => simp only [headF, fourF, List.flatMap_cons, List.length_append, List.length_cons, List.length_nil] at ih ⊢; omega
theorem partCells_get (ps : List Part) (i : Nat) (hi : i < ps.length) : (partCells ps)[2 * i]? = some (.int .u32 (ps.getD i (0, 0)).1) ∧ (partCells ps)[2 * i + 1]? = some (.int .u32 (ps.getD i (0, 0)).2) := by
  induction ps generalizing i with
  | nil => simp at hi
  | cons p ps ih =>
    cases i with
    | zero => exact ⟨rfl, rfl⟩
    | succ i =>
      have := ih i (by simpa using hi)
      simp only [partCells, List.flatMap_cons] at this ⊢
      rw [show 2 * (i + 1) = 2 * i + 1 + 1 by omega]
      simpa using this
theorem partCells_one (ps : List Part) : ∀ v ∈ partCells ps, v.oneCell' = true := fun v hv => by
  unfold partCells at hv
  obtain ⟨p, _, hp⟩ := List.mem_flatMap.1 hv
  simp at hp
  rcases hp with rfl | rfl <;> rfl
theorem size25 : (Try.prog.info? 25).map (·.size) = some 16 := by kernel_rfl
theorem box_sl {P : Program} {ops : Array Oper} {rest : List Oper} {o : Oper} {a : Act} {Q : Exit → Act → World → Prop} {W : World} (hgd : o.guard = none) {N : Tmp} (_hd : o.dst = some N) {cs : Array Value} {t : TypeId} {n : Nat}
    (hrun : (execOp a.eval o).run P W = .ok (.value (.slice (some ⟨W.heap.size, 0, none⟩) n n)) (W.alloc (.cells cs t (0, 0))))
    (h : ∀ g, g = W.heap.size → ∀ w1, w1.heap[g]? = some (.cells cs t (0, 0)) → Below W.heap.size W w1 → wpList P ops Q rest (a.put o.dst (.slice (some ⟨g, 0, none⟩) n n)) w1) : wpList P ops Q (o :: rest) a W :=
  Kd.event_run hgd hrun (h _ rfl _ (blk_new W _) (below_alloc (Below.refl _ _) _))
theorem size24 : (Try.prog.info? 24).map (·.size) = some 2 := by kernel_rfl
theorem run_index_part {P : Program} (hu : P.underlying 25 = some (.array 8 24)) {d24 : TypeDesc} (h24 : P.underlying 24 = some d24) (hd : d24.isRow = true) (hs : (P.info? 24).map (·.size) = some 2) (W : World) (cs : List Value) (i : Int) (a b : Value) (hi : 0 ≤ i ∧ i < 8) (ha : cs[2 * i.toNat]? = some a) (hb : cs[2 * i.toNat + 1]? = some b) :
    (Instr.index 25 (.agg cs.toArray) (.int .i64 i)).run P W = .ok (.agg #[a, b]) W := by
  obtain ⟨i24, hi24, hsz⟩ := Option.map_eq_some_iff.1 hs
  have hw : wrap64 i = i := by unfold wrap64; omega
  have hsize : (sizeOf 24).run P W = .ok 2 W := by simp [sizeOf, typeInfo, hi24, hsz]
  have hagg : (isAgg 24).run P W = .ok true W := by
    unfold isAgg
    rw [Sem.run_bind, run_underlying h24 W]
    cases d24 <;> simp_all [TypeDesc.isRow]
  have hex : cs.toArray.extract (i.toNat * 2) (i.toNat * 2 + 2) = #[a, b] := by
    have h1 := (List.getElem?_eq_some_iff.1 hb).1
    apply Array.ext_getElem?
    intro k
    rw [Array.getElem?_extract]
    simp only [List.size_toArray, List.getElem?_toArray]
    match k with
    | 0 => rw [if_pos (by simp only [Nat.min_def]; split <;> omega), Nat.add_zero, Nat.mul_comm, ha]; rfl
    | 1 => rw [if_pos (by simp only [Nat.min_def]; split <;> omega), Nat.mul_comm, hb]; rfl
    | k + 2 => rw [if_neg (by simp only [Nat.min_def]; split <;> omega)]; rfl
  have hex2 : List.take 2 (List.drop (i.toNat * 2) cs) = [a, b] := by
    have := congrArg Array.toList hex
    simpa [List.extract_eq_take_drop] using this
  simp [Instr.index, asIntOf, Sem.run_bind, run_underlying hu W, part, hagg, hsize, hex2, hi.1, hi.2]
theorem event_index {ops : Array Oper} {rest : List Oper} {o : Oper} {a : Act} {Q : Exit → Act → World → Prop} {W : World} (hgd : o.guard = none) (x y : Operand) (ho : o.op = .index 25 x y) (cs : List Value) (i : Int) (u v : Value) (hx : a.eval x = .agg cs.toArray) (hy : a.eval y = .int .i64 i)
    (hi : 0 ≤ i ∧ i < 8) (ha : cs[2 * i.toNat]? = some u) (hb : cs[2 * i.toNat + 1]? = some v) (h : wpList Try.prog ops Q rest (a.put o.dst (.agg #[u, v])) W) : wpList Try.prog ops Q (o :: rest) a W := by
  have hr := run_index_part (P := Try.prog) Try.underlying25 Try.underlying24 rfl size24 W cs i u v hi ha hb
  refine Kd.event_run hgd (w1 := W) (v := .agg #[u, v]) (by simp only [execOp, ho, hx, hy]; rw [Sem.run_bind, hr]; rfl) h
theorem spare_pad {w : World} {g : Nat} {L : List Int} (h : Spare w g L) (n : Nat) (hn : L.length + n ≤ 512) : Spare w g (L ++ zerosL n) := by
  unfold Spare at h ⊢
  rw [h]
  refine congrArg some (congrArg (fun x => Obj.cells (List.toArray (byteCells x)) 5 (0, 0)) ?_)
  rw [List.append_assoc, List.length_append]
  congr 1
  have : (zerosL n).length = n := by simp [zerosL]
  rw [this]
  unfold zerosL
  rw [List.replicate_append_replicate]
  congr 1
  omega
theorem R_of_spare {w : World} {g base : Nat} {L : List Int} (h : Spare w g L) (hb : base ≤ g) (hl : L.length ≤ 512) : Kd.R (Kd.int .u8) 5 w base (fun _ => True) (.slice (some ⟨g, 0, none⟩) L.length 512) L := by
  refine Kd.R_of_own (xs := L) ⟨by simp [encs, Kd.int], .inr ⟨g, 512, _, rfl, hb, h, hl, by decide, ?_, ?_⟩⟩ (fun _ _ => trivial)
  · rw [List.size_toArray, byteCells_len, List.length_append]
    simp only [zerosL, List.length_replicate]
    show _ = 512 * 1
    omega
  · simp only [byteCells, List.map_append]
    show List.take (L.length * 1) _ = _
    rw [Nat.mul_one]
    exact List.take_left' (by simp [encs, Kd.int, Kd.scalar])
theorem four_at (a : Int) (w : World) : Calls Try.prog 24 #[.int .u32 a] w fun e w' => ∃ A c, e = .returned (.slice A 4 c) ∧ Kd.C (Kd.int .u8) w' A 4 (fourF a) ∧ Below w.heap.size w w' := by
  refine (prop_EncodeInt.calls a (fourF a) w rfl).mono ?_
  rintro e w' ⟨v, rfl, hR, hb⟩
  obtain ⟨A, c, rfl, hc, hC⟩ := Kd.R_reads hR
  exact ⟨A, c, rfl, hC, hb⟩
theorem any_big (ps : List Part) (i : Nat) (hi : i < ps.length) (h : big (ps.getD i (0, 0)) = true) : ps.any big = true := by
  rw [List.any_eq_true]
  refine ⟨ps.getD i (0, 0), ?_, h⟩
  simp [List.getD_eq_getElem?_getD, List.getElem?_eq_getElem hi]
theorem any_take_succ (ps : List Part) (i : Nat) (hi : i < ps.length) : (ps.take (i + 1)).any big = ((ps.take i).any big || big (ps.getD i (0, 0))) := by
  rw [List.take_succ_eq_append_getElem hi, List.any_append]
  simp [List.getD_eq_getElem?_getD, List.getElem?_eq_getElem hi]
theorem headF_take_succ (ps : List Part) (i : Nat) (hi : i < ps.length) : headF (ps.take (i + 1)) = headF (ps.take i) ++ fourF (ps.getD i (0, 0)).1 ++ fourF (ps.getD i (0, 0)).2 := by
  rw [List.take_succ_eq_append_getElem hi]
  unfold headF
  rw [List.flatMap_append, List.append_assoc]
  simp [List.getD_eq_getElem?_getD, List.getElem?_eq_getElem hi]
set_option maxHeartbeats 8000000 in
set_option maxRecDepth 100000 in
theorem make_calls (ps : List Part) (w : World) (hl : ps.length = 8) :
    Calls Try.prog 10 #[.agg (partCells ps).toArray] w fun e w' => ∃ v : Value, e = .returned (.tuple #[v, .int .i64 (makeF ps).2]) ∧ Kd.R (Kd.int .u8) 5 w' w.heap.size (fun _ => True) v (makeF ps).1 ∧ Below w.heap.size w w' := by
  obtain ⟨cs, hcs⟩ : ∃ cs, cs = partCells ps := ⟨_, rfl⟩
  obtain ⟨R, hR⟩ : ∃ R, R = makeF ps := ⟨_, rfl⟩
  have HR := Aside0.mk hR
  rw [← hcs, ← hR]
  clear hR
  have hL : cs.length = 16 := by rw [hcs, partCells_len, hl]
  have HL := Aside0.mk hL
  have HCS := Aside0.mk hcs
  have HPL := Aside0.mk hl
  clear hL hcs hl
  go_enter Try.func10, Try.ntmps10
  go_wp2_with (first
    | ((with_reducible refine gate_dst (N := 1) rfl ?_); refine box_event ?hg (N := 1) ?hd (cs := cs.toArray) (t := 25) ?hr ?_; (case hd => rfl); (case hg => rfl); (case hr => first | (go_simp; done) | (go_simp; rfl)); intro gb hg w1 hbox hb; have BK := Aside0.mk hbox; have HB := Aside0.mk hb; have GB := Aside0.mk (show w.heap.size ≤ gb from hg ▸ Nat.le_refl _); clear hbox hb hg)
    | ((with_reducible refine gate_dst (N := 8) rfl ?_); refine make_spare rfl (.const (.int .i64 0)) (.const (.int .i64 512)) rfl rfl rfl ?_; intro hsp; have SP := Aside0.mk hsp; clear hsp)
    | ((with_reducible refine gate_dst (N := 9) rfl ?_); refine wpList_load_any rfl 25 (.tmp 1) rfl ⟨gb, 0, none⟩ rfl cs (.array 8 24) ?hc Try.underlying25 rfl (by rw [HL.out]; exact size25) ?_; (case hc => exact fun j v hv => by rw [Addr.add_mid, Nat.zero_add, blk_cell (blk_alloc BK.out _)]; simpa using hv)))
  obtain ⟨g0, hg0⟩ : ∃ g0, g0 = w1.heap.size := ⟨_, rfl⟩
  have HB2 := Aside0.mk (below_alloc HB.out (.cells (madeCells #[Value.int .u8 0] (512 * 1)) 5))
  have G0 := Aside0.mk (show w.heap.size ≤ g0 from hg0 ▸ below_size HB.out)
  rw [← hg0] at SP
  rw [← hg0]
  generalize w1.alloc (.cells (madeCells #[Value.int .u8 0] (512 * 1)) 5) = W2 at SP HB2 ⊢
  clear hg0 BK HB GB
  go_loopg [4, 10] 8 (fun kq v4 v10 w' => ∃ (i : Int) (L : List Int), v10 = .int .i64 i ∧ v4 = .slice (some ⟨g0, 0, none⟩) L.length 512 ∧ Aside0 (0 ≤ i ∧ i + kq = 8) ∧ Aside0 (L = headF (ps.take i.toNat)) ∧ Aside0 ((ps.take i.toNat).any big = false) ∧ Aside0 (Spare w' g0 L) ∧ Aside0 (Below w.heap.size w w'))
  case atStart => exact ⟨0, [], rfl, rfl, ⟨by omega, by omega⟩, ⟨rfl⟩, ⟨rfl⟩, SP, HB2⟩
  case round =>
    clear SP HB2
    obtain ⟨i, L, rfl, rfl, HI, HLe, HA, SP, HB⟩ := hrel
    cases gk with
    | zero =>
      have hi8 : i = 8 := by have := HI.out; omega
      have hlt : decide (i < (8 : Int)) = false := decide_eq_false (by omega)
      have hLe := HLe.out
      have hA := HA.out
      have hPL := HPL.out
      rw [hi8, show (8 : Int).toNat = ps.length from hPL.symm, List.take_length] at hLe hA
      have hLl : L.length = 64 := by rw [hLe, headF_len, hPL]
      obtain ⟨B, hB⟩ : ∃ B, B = L ++ zerosL (508 - L.length) := ⟨_, rfl⟩
      have hBl : B.length = 508 := by rw [hB, List.length_append]; simp [zerosL]; omega
      have hBo : bodyF ps = B ++ [218, 190] := by unfold bodyF; rw [hB, hLe]
      have SPB := Aside0.mk (show Spare wr g0 B from hB ▸ spare_pad SP.out _ (by omega))
      have hR : R = ((B ++ [218, 190]) ++ [(crossF (B ++ [218, 190])).1, (crossF (B ++ [218, 190])).2], 0) := by rw [HR.out]; unfold makeF labelF; rw [hA, hBo]; rfl
      obtain ⟨Y, hY⟩ : ∃ Y, Y = B ++ [218, 190] := ⟨_, rfl⟩
      have HYl := Aside0.mk (show Y.length = 510 by rw [hY, List.length_append, hBl]; rfl)
      rw [← hY] at hR
      obtain ⟨x, hx⟩ : ∃ x, x = (crossF Y).1 := ⟨_, rfl⟩
      obtain ⟨y, hy⟩ : ∃ y, y = (crossF Y).2 := ⟨_, rfl⟩
      rw [← hx, ← hy] at hR
      obtain rfl := hR
      have HX := Aside0.mk (show ∀ (n : Nat) (W : World), Spare W g0 Y → Calls Try.prog 25 #[.slice (some ⟨g0, 0, none⟩) 510 512] W (fun e w' => e = .returned (.agg #[.int .u8 x, .int .u8 y]) ∧ Below W.heap.size W w') from fun n W h => by
        rw [hx, hy]
        exact cross_at _ _ _ _ _ HYl.out (by omega) (C_of_spare h 510 HYl.out (by omega)))
      have HY := Aside0.mk hY
      have HBl := Aside0.mk hBl
      clear HR hx hy hY hBl hBo hLl hLe hA hPL hB hi8 HLe HA SP
      go_wp2_with (first
        | ((with_reducible refine gate_dst (N := 34) rfl ?_); refine box_sl ?hg (N := 34) ?hd (cs := (byteCells [218, 190]).toArray) (t := 5) (n := 2) ?hr ?_; (case hd => rfl); (case hg => rfl); (case hr => first | (go_simp; done) | (go_simp; rfl)); intro gl hg w3 hbox hb; have BK := Aside0.mk hbox; have HB3 := Aside0.mk (below_step HB.out hb); have SP3 := Aside0.mk (blk_below SPB.out hb); clear hbox hb hg)
        | ((with_reducible refine gate_dst (N := 35) rfl ?_); refine wpList_append_spare rfl (.tmp 33) (.tmp 34) rfl g0 B [218, 190] _ 2 _ 508 rfl rfl HBl.out.symm SP3.out (C_blk BK.out 2 rfl (by omega)) (by omega) (by rw [HBl.out]; omega) ?_; intro w4 hs hg; have SP4 := Aside0.mk hs; have HB4 := Aside0.mk (pw_below_grown HB3.out _ (below_size HB3.out) hg (fun k hk => Option.some.inj hk ▸ G0.out)); clear hs hg)
        | (go_at_call 25; (with_reducible refine (HX.out 0 _ (HY.out ▸ SP4.out)).mono ?_); rintro e w5 ⟨rfl, hb⟩; have HB5 := Aside0.mk (below_step HB4.out hb); have SP5 := Aside0.mk (show Spare w5 g0 Y from HY.out ▸ blk_below SP4.out hb); clear hb)
        | ((with_reducible refine gate_dst (N := 7) rfl ?_); refine box_event ?hg (N := 7) ?hd (cs := #[.int .u8 0, .int .u8 0]) (t := 52) ?hr ?_; (case hd => rfl); (case hg => rfl); (case hr => first | (go_simp; done) | (go_simp; rfl)); intro gx hg w6 hbox hb; have hc0 := (blk_cell hbox 0).trans rfl; have hc1 := (blk_cell hbox 1).trans rfl; have hf0 := blk_frozen hbox 0; have hf1 := blk_frozen hbox 1; have BX := Aside0.mk hbox; have GX := Aside0.mk (show w.heap.size ≤ gx from hg ▸ below_size HB5.out); have HB6 := Aside0.mk (below_step HB5.out hb); have SP6 := Aside0.mk (show Spare w6 g0 Y from blk_below SP5.out hb); clear hbox hb hg)
        | ((with_reducible refine gate_dst (N := 40) rfl ?_); refine wpList_append_spare rfl (.tmp 38) (.tmp 39) rfl g0 Y [x, y] _ 2 _ 510 rfl rfl HYl.out.symm (blk_far (blk_far SP6.out (p := ⟨gx, 0, none⟩) (blk_ne SP6.out BX.out (by decide)) _) (p := ⟨gx, 1, none⟩) (blk_ne SP6.out BX.out (by decide)) _) (C_blk (L := [x, y]) (blk_put (blk_put BX.out 0 (.int .u8 x) rfl) 1 (.int .u8 y) rfl) 2 rfl (by omega)) (by omega) (by rw [HYl.out]; omega) ?_; intro w7 hs hg; have SP7 := Aside0.mk hs; have HB7 := Aside0.mk (pw_below_grown (below_set (below_set HB6.out GX.out) GX.out) _ (below_size (below_set (below_set HB6.out GX.out) GX.out)) hg (fun k hk => Option.some.inj hk ▸ G0.out)); clear hs hg))
      refine bodyPost_ret (results_tmp2 rfl _ _ _) rfl ⟨_, rfl, ?_, HB7.out⟩
      have h := R_of_spare SP7.out G0.out (by rw [List.length_append, HYl.out]; exact Nat.le_refl 512)
      rw [List.length_append, HYl.out] at h
      exact h
    | succ k1 =>
      have hi := HI.out
      have hlt : decide (i < (8 : Int)) = true := decide_eq_true (by omega)
      obtain ⟨s, hs⟩ : ∃ s, s = (ps.getD i.toNat (0, 0)).1 := ⟨_, rfl⟩
      obtain ⟨c, hc⟩ : ∃ c, c = (ps.getD i.toNat (0, 0)).2 := ⟨_, rfl⟩
      have hg := partCells_get ps i.toNat (by have := HPL.out; omega)
      rw [← hs, ← hc, ← HCS.out] at hg
      have HG := Aside0.mk hg
      have HI1 := Aside0.mk hi
      have HS := Aside0.mk hs
      have HC := Aside0.mk hc
      clear hg hi hs hc
      have hri : 0 ≤ i ∧ i < 8 := by have := HI1.out; omega
      have HRI := Aside0.mk hri
      have hw2 : wrap64 (i + 1) = i + 1 := by unfold wrap64; omega
      have HLl := Aside0.mk (show L.length = 8 * i.toNat by rw [HLe.out, headF_len, List.length_take, HPL.out]; omega)
      clear hri
      by_cases hb1 : 64 < s
      · have hd1 : decide (64 < s) = true := decide_eq_true hb1
        go_wp2_with (first
          | ((with_reducible refine gate_dst (N := 12) rfl ?_); refine event_index rfl (.tmp 9) (.tmp 10) rfl cs i _ _ rfl rfl HRI.out HG.out.1 HG.out.2 ?_)
          | ((with_reducible refine gate_dst (N := 6) rfl ?_); refine box_event ?hg (N := 6) ?hd (cs := #[.int .u32 0, .int .u32 0]) (t := 24) ?hr ?_; (case hd => rfl); (case hg => rfl); (case hr => first | (go_simp; done) | (go_simp; rfl)); intro gx hg w6 hbox hb; have hc0 := (blk_cell hbox 0).trans rfl; have hc1 := (blk_cell hbox 1).trans rfl; have hf0 := blk_frozen hbox 0; have hf1 := blk_frozen hbox 1; have BX := Aside0.mk hbox; have GX := Aside0.mk (show w.heap.size ≤ gx from hg ▸ below_size HB.out); have HB6 := Aside0.mk (below_step HB.out hb); have SP6 := Aside0.mk (show Spare w6 g0 L from blk_below SP.out hb); clear hbox hb hg))
        refine bodyPost_ret (results_tmp2 rfl _ _ _) rfl ⟨.slice none 0 0, ?_, ?_, below_set (below_set HB6.out GX.out) GX.out⟩
        · rw [HR.out, makeF, if_pos (any_big ps i.toNat (by have := HRI.out; have := HPL.out; omega) (by rw [big, ← HS.out, hd1]; rfl))]
          rfl
        · rw [HR.out, makeF, if_pos (any_big ps i.toNat (by have := HRI.out; have := HPL.out; omega) (by rw [big, ← HS.out, hd1]; rfl))]
          exact Kd.R_nil _ _ _ _ _
      · by_cases hb2 : 64 < c
        · have hd1 : decide (64 < s) = false := decide_eq_false hb1
          have hd2 : decide (64 < c) = true := decide_eq_true hb2
          go_wp2_with (first
          | ((with_reducible refine gate_dst (N := 12) rfl ?_); refine event_index rfl (.tmp 9) (.tmp 10) rfl cs i _ _ rfl rfl HRI.out HG.out.1 HG.out.2 ?_)
          | ((with_reducible refine gate_dst (N := 6) rfl ?_); refine box_event ?hg (N := 6) ?hd (cs := #[.int .u32 0, .int .u32 0]) (t := 24) ?hr ?_; (case hd => rfl); (case hg => rfl); (case hr => first | (go_simp; done) | (go_simp; rfl)); intro gx hg w6 hbox hb; have hc0 := (blk_cell hbox 0).trans rfl; have hc1 := (blk_cell hbox 1).trans rfl; have hf0 := blk_frozen hbox 0; have hf1 := blk_frozen hbox 1; have BX := Aside0.mk hbox; have GX := Aside0.mk (show w.heap.size ≤ gx from hg ▸ below_size HB.out); have HB6 := Aside0.mk (below_step HB.out hb); have SP6 := Aside0.mk (show Spare w6 g0 L from blk_below SP.out hb); clear hbox hb hg))
          refine bodyPost_ret (results_tmp2 rfl _ _ _) rfl ⟨.slice none 0 0, ?_, ?_, below_set (below_set HB6.out GX.out) GX.out⟩
          · rw [HR.out, makeF, if_pos (any_big ps i.toNat (by have := HRI.out; have := HPL.out; omega) (by rw [big, ← HC.out, hd2, Bool.or_true]))]
            rfl
          · rw [HR.out, makeF, if_pos (any_big ps i.toNat (by have := HRI.out; have := HPL.out; omega) (by rw [big, ← HC.out, hd2, Bool.or_true]))]
            exact Kd.R_nil _ _ _ _ _
        · have hd1 : decide (64 < s) = false := decide_eq_false hb1
          have hd2 : decide (64 < c) = false := decide_eq_false hb2
          go_wp2_with (first
          | ((with_reducible refine gate_dst (N := 12) rfl ?_); refine event_index rfl (.tmp 9) (.tmp 10) rfl cs i _ _ rfl rfl HRI.out HG.out.1 HG.out.2 ?_)
          | ((with_reducible refine gate_dst (N := 6) rfl ?_); refine box_event ?hg (N := 6) ?hd (cs := #[.int .u32 0, .int .u32 0]) (t := 24) ?hr ?_; (case hd => rfl); (case hg => rfl); (case hr => first | (go_simp; done) | (go_simp; rfl)); intro gx hg w6 hbox hb; have hc0 := (blk_cell hbox 0).trans rfl; have hc1 := (blk_cell hbox 1).trans rfl; have hf0 := blk_frozen hbox 0; have hf1 := blk_frozen hbox 1; have BX := Aside0.mk hbox; have GX := Aside0.mk (show w.heap.size ≤ gx from hg ▸ below_size HB.out); have HB6 := Aside0.mk (below_step HB.out hb); have SP6 := Aside0.mk (show Spare w6 g0 L from blk_below SP.out hb); clear hbox hb hg)
            | (go_at_call 24; (with_reducible refine (four_at s _).mono ?_); rintro e w7 ⟨A7, c7, rfl, hC, hb⟩; have HC7 := Aside0.mk hC; have HB7 := Aside0.mk (below_step (below_set (below_set HB6.out GX.out) GX.out) hb); have SP7 := Aside0.mk (show Spare w7 g0 L from blk_below (blk_far (blk_far SP6.out (p := ⟨gx, 0, none⟩) (blk_ne SP6.out BX.out (by decide)) _) (p := ⟨gx, 1, none⟩) (blk_ne SP6.out BX.out (by decide)) _) hb); have BX7 := Aside0.mk (blk_below (blk_put (blk_put BX.out 0 (.int .u32 s) rfl) 1 (.int .u32 c) rfl) hb); clear hC hb)
            | ((with_reducible refine gate_dst (N := 25) rfl ?_); refine wpList_append_spare rfl (.tmp 21) (.tmp 24) rfl g0 L (fourF s) _ 4 _ L.length rfl rfl rfl SP7.out HC7.out (by omega) (by rw [HLl.out]; have := HRI.out; omega) ?_; intro w8 hs hg; have hc8 := (blk_cell (blk_grown BX7.out hg (fun e => blk_ne BX7.out SP7.out (by decide) (Option.some.inj e))) 1).trans rfl; have SP8 := Aside0.mk hs; have HB8 := Aside0.mk (pw_below_grown HB7.out _ (below_size HB7.out) hg (fun k hk => Option.some.inj hk ▸ G0.out)); clear hs hg)
            | (go_at_call 24; (with_reducible refine (four_at c _).mono ?_); rintro e w9 ⟨A9, c9, rfl, hC, hb⟩; have HC9 := Aside0.mk hC; have HB9 := Aside0.mk (below_step HB8.out hb); have SP9 := Aside0.mk (show Spare w9 g0 (L ++ fourF s) from blk_below SP8.out hb); clear hC hb)
            | ((with_reducible refine gate_dst (N := 30) rfl ?_); refine wpList_append_spare rfl (.tmp 26) (.tmp 29) rfl g0 (L ++ fourF s) (fourF c) _ 4 _ (L.length + 4) rfl rfl (by rw [List.length_append]; rfl) SP9.out HC9.out (by omega) (by rw [List.length_append, HLl.out]; show _ + 4 + 4 ≤ _; have := HRI.out; omega) ?_; intro w10 hs hg; have SP10 := Aside0.mk hs; have HB10 := Aside0.mk (pw_below_grown HB9.out _ (below_size HB9.out) hg (fun k hk => Option.some.inj hk ▸ G0.out)); clear hs hg))
          go_roundg k1
          case measure => omega
          case rel =>
            have hi := HI1.out
            have hps := HPL.out
            refine ⟨i + 1, L ++ fourF s ++ fourF c, congrArg (Value.int .i64) hw2, ?_, ⟨by omega, by omega⟩, ⟨?_⟩, ⟨?_⟩, SP10, HB10⟩
            · rw [List.length_append, List.length_append]; rfl
            · rw [show (i + 1).toNat = i.toNat + 1 by omega, headF_take_succ ps i.toNat (by omega), HLe.out, HS.out, HC.out]
            · rw [show (i + 1).toNat = i.toNat + 1 by omega, any_take_succ ps i.toNat (by omega), HA.out, big, ← HS.out, ← HC.out, hd1, hd2]; rfl
end Go.Proofs.Ytnbomjfpnpmllaa.Q
