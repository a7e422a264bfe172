/- The reference's bytes and Make. -/
import Derived.Test.YtnbomjfpnpmllaaHMake
import Derived.Test.YtnbomjfpnpmllaaQTinderref05EncodeInt
set_option linter.unusedSimpArgs false
set_option linter.unusedVariables false
namespace Go.Proofs.Ytnbomjfpnpmllaa.Q
open Go.RowKit Go.Proofs.YtnbomjfpnpmllaaW.PrintWords Go.Proofs.YtnbomjfpnpmllaaW.PrintLast Go.Proofs.YtnbomjfpnpmllaaW.PrintMore
def Parts (ps : List Part) : Prop := ∀ p ∈ ps, (0 ≤ p.1 ∧ p.1 < 4294967296) ∧ (0 ≤ p.2 ∧ p.2 < 4294967296)
theorem Parts.at_ {ps : List Part} (h : Parts ps) (i : Nat) (hi : i < ps.length) : (0 ≤ (ps.getD i (0, 0)).1 ∧ (ps.getD i (0, 0)).1 < 4294967296) ∧ (0 ≤ (ps.getD i (0, 0)).2 ∧ (ps.getD i (0, 0)).2 < 4294967296) := by
  refine h _ ?_
  simp [List.getD_eq_getElem?_getD, List.getElem?_eq_getElem hi]
theorem refEnc_eq (a : Int) (h0 : 0 ≤ a) (h1 : a < 4294967296) : tinderref05_EncodeInt.f 5 a = some (fourF a) := by
  have q3 : IntKind.u64.wrap (wrap64 (8 * 3)) = 24 := by kernel_rfl
  have q2 : IntKind.u64.wrap (wrap64 (8 * 2)) = 16 := by kernel_rfl
  have q1 : IntKind.u64.wrap (wrap64 (8 * 1)) = 8 := by kernel_rfl
  have q0 : IntKind.u64.wrap (wrap64 (8 * 0)) = 0 := by kernel_rfl
  have s3 : wrap64 (3 - 1) = 2 := by kernel_rfl
  have s2 : wrap64 (2 - 1) = 1 := by kernel_rfl
  have s1 : wrap64 (1 - 1) = 0 := by kernel_rfl
  have s0 : wrap64 (0 - 1) = -1 := by kernel_rfl
  have e3 : Int.tmod (shr .u32 a 24) 256 % 256 = a / 16777216 % 256 := by rw [show shr .u32 a 24 = a / 16777216 from rfl, Int.tmod_eq_emod_of_nonneg (by omega)]; omega
  have e2 : Int.tmod (shr .u32 a 16) 256 % 256 = a / 65536 % 256 := by rw [show shr .u32 a 16 = a / 65536 from rfl, Int.tmod_eq_emod_of_nonneg (by omega)]; omega
  have e1 : Int.tmod (shr .u32 a 8) 256 % 256 = a / 256 % 256 := by rw [show shr .u32 a 8 = a / 256 from rfl, Int.tmod_eq_emod_of_nonneg (by omega)]; omega
  have e0 : Int.tmod (shr .u32 a 0) 256 % 256 = a % 256 := by rw [show shr .u32 a 0 = a / 1 from rfl, Int.tmod_eq_emod_of_nonneg (by omega)]; omega
  unfold tinderref05_EncodeInt.f
  unfold tinderref05_EncodeInt.l0
  rw [if_pos (by decide), q3, if_pos (by decide), if_pos (by decide), e3, s3]
  unfold tinderref05_EncodeInt.l0
  rw [if_pos (by decide), q2, if_pos (by decide), if_pos (by simp), e2, s2]
  unfold tinderref05_EncodeInt.l0
  rw [if_pos (by decide), q1, if_pos (by decide), if_pos (by simp), e1, s1]
  unfold tinderref05_EncodeInt.l0
  rw [if_pos (by decide), q0, if_pos (by decide), if_pos (by simp), e0, s0]
  unfold tinderref05_EncodeInt.l0
  rw [if_neg (by decide)]
  rfl
theorem four_ref (a : Int) (w : World) (h0 : 0 ≤ a) (h1 : a < 4294967296) : Calls Try.prog 40 #[.int .u32 a] w fun e w' => ∃ A c, e = .returned (.slice A 4 c) ∧ Kd.C (Kd.int .u8) w' A 4 (fourF a) ∧ Below w.heap.size w w' := by
  refine (tinderref05_EncodeInt.calls 5 a (fourF a) w (refEnc_eq a h0 h1)).mono ?_
  rintro e w' ⟨v, rfl, hR, hb⟩
  obtain ⟨A, c, rfl, hc, hC⟩ := Kd.R_reads hR
  exact ⟨A, c, rfl, hC, hb⟩
section
variable {ops : Array Oper} {rest : List Oper} {o : Oper} {a : Act} {Q : Exit → Act → World → Prop}
theorem app_bytes {w0 W : World} (hgd : o.guard = none) (s x : Operand) (ho : o.op = .call { callee := .builtin .append, args := #[s, x], argTypes := #[27, 27] })
    (v : Value) (xs ys : List Int) (A : Option Addr) (m c : Nat) (hs : a.eval s = v) (hx : a.eval x = .slice A m c) (HO : Kd.R (Kd.int .u8) 5 W w0.heap.size (fun _ => True) v xs) (HC : Kd.C (Kd.int .u8) W A m ys)
    (HB : Below w0.heap.size w0 W) (hl : xs.length + m ≤ 1000000)
    (h : ∀ v1 w1, Kd.R (Kd.int .u8) 5 w1 w0.heap.size (fun _ => True) v1 (xs ++ ys) → Below w0.heap.size w0 w1 → W.grownBy w1 v.ownBlock → wpList Try.prog ops Q rest (a.put o.dst v1) w1) : wpList Try.prog ops Q (o :: rest) a W :=
  Kd.R_append_rows (Kd.int .u8) (w0 := w0) w0.heap.size hgd s x 27 5 (.int .u8 0) 1 ho Try.underlying27 info5s rfl (by decide) (by omega) v xs ys _ _ _ (fun _ => True) (fun _ => False) hs hx HO HC (fun _ _ h => h) (fun _ h => h.elim) (fun _ _ => trivial) HB (below_size HB) (by omega) (fun v1 w1 h1 h2 h3 _ => h v1 w1 h1 h2 h3)
end
theorem C_lit {W : World} (L : List Int) (n : Nat) (hn : L.length = n) (hm : n ≤ 9223372036854775807) (t : TypeId) : Kd.C (Kd.int .u8) (W.alloc (.cells (byteCells L).toArray t)) (some ⟨W.heap.size, 0, none⟩) n L := C_blk (blk_new W _) n hn hm
theorem headF_snoc0 (ps : List Part) : headF (ps.take 0) = [] := by simp [headF]
set_option maxHeartbeats 8000000 in
set_option maxRecDepth 100000 in
theorem refBytes_calls (ps : List Part) (w : World) (hl : ps.length = 8) (hr : Parts ps) :
    Calls Try.prog 26 #[.agg (partCells ps).toArray] w fun e w' => ∃ v : Value, e = .returned v ∧ Kd.R (Kd.int .u8) 5 w' w.heap.size (fun _ => True) v (labelF ps) ∧ Below w.heap.size w w' := by
  obtain ⟨cs, hcs⟩ : ∃ cs, cs = partCells ps := ⟨_, rfl⟩
  obtain ⟨R, hR⟩ : ∃ R, R = labelF ps := ⟨_, rfl⟩
  have HR := Aside0.mk hR
  rw [← hcs, ← hR]
  clear hR
  have hL : cs.length = 16 := by rw [hcs, partCells_len, hl]
  have HL := Aside0.mk hL
  have HCS := Aside0.mk hcs
  have HPL := Aside0.mk hl
  have HPR := Aside0.mk hr
  clear hL hcs hl hr
  go_enter Try.func26, Try.ntmps26
  go_wp2_with (first
    | ((with_reducible refine gate_dst (N := 1) rfl ?_); refine box_event ?hg (N := 1) ?hd (cs := cs.toArray) (t := 25) ?hr ?_; (case hd => rfl); (case hg => rfl); (case hr => first | (go_simp; done) | (go_simp; rfl)); intro gb hg w1 hbox hb; have BK := Aside0.mk hbox; have HB := Aside0.mk hb; have GB := Aside0.mk (show w.heap.size ≤ gb from hg ▸ Nat.le_refl _); clear hbox hb hg))
  go_loopg [3, 4] 8 (fun kq v3 v4 w' => ∃ (i : Int) (L : List Int) (A3 : Option Addr) (c3 : Nat), v4 = .int .i64 i ∧ v3 = .slice A3 L.length c3 ∧ Aside0 (0 ≤ i ∧ i + kq = 8) ∧ Aside0 (L = headF (ps.take i.toNat)) ∧ Aside0 (Kd.R (Kd.int .u8) 5 w' w.heap.size (fun _ => True) (.slice A3 L.length c3) L) ∧ Aside0 (w'.heap[gb]? = some (.cells cs.toArray 25 (0, 0))) ∧ Aside0 (Below w.heap.size w w'))
  case atStart => exact ⟨0, [], none, 0, rfl, rfl, ⟨by omega, by omega⟩, ⟨(headF_snoc0 ps).symm⟩, ⟨Kd.R_nil _ _ _ _ _⟩, BK, HB⟩
  case round =>
    clear BK HB
    obtain ⟨i, L, A3, c3, rfl, rfl, HI, HLe, HO, BK, HB⟩ := hrel
    cases gk with
    | zero =>
      have hi8 : i = 8 := by have := HI.out; omega
      have hlt : decide (i < (8 : Int)) = false := decide_eq_false (by omega)
      have hLe := HLe.out
      rw [hi8, show (8 : Int).toNat = ps.length from HPL.out.symm, List.take_length] at hLe
      have hLl : L.length = 64 := by rw [hLe, headF_len, HPL.out]
      have HLe2 := Aside0.mk hLe
      have HLl := Aside0.mk hLl
      clear hLe hLl hi8 HLe
      clear HCS HPR BK GB
      go_wp2
      obtain ⟨B, hB⟩ : ∃ B, B = L ++ zerosL 444 := ⟨_, rfl⟩
      have HBd := Aside0.mk hB
      have hBo : bodyF ps = B ++ [218, 190] := by unfold bodyF; rw [hB, HLe2.out, headF_len, HPL.out]
      have HBo := Aside0.mk hBo
      clear hB hBo
      go_loopg [3] 444 (fun kq v3 w' => ∃ (M : List Int) (A4 : Option Addr) (c4 : Nat), v3 = .slice A4 M.length c4 ∧ Aside0 (M.length + kq = 508) ∧ Aside0 (M ++ zerosL kq = B) ∧ Aside0 (Kd.R (Kd.int .u8) 5 w' w.heap.size (fun _ => True) (.slice A4 M.length c4) M) ∧ Aside0 (Below w.heap.size w w'))
      case atStart => exact ⟨L, A3, c3, rfl, ⟨by have := HLl.out; omega⟩, ⟨HBd.out.symm⟩, HO, HB⟩
      case round =>
        clear HO HB
        obtain ⟨M, A4, c4, rfl, HM, HMB, HO, HB⟩ := hrel
        cases gk with
        | zero =>
          have hMl : M.length = 508 := HM.out
          have hlt2 : decide ((M.length : Int) < 508) = false := decide_eq_false (by omega)
          have hMB : M = B := by have := HMB.out; simpa [zerosL] using this
          obtain ⟨Y, hY⟩ : ∃ Y, Y = M ++ [218, 190] := ⟨_, rfl⟩
          have HYb := Aside0.mk (show bodyF ps = Y by rw [HBo.out, hY, hMB])
          have hYl : Y.length = 510 := by rw [hY, List.length_append, hMl]; rfl
          have HYl := Aside0.mk hYl
          have HY := Aside0.mk hY
          clear hMl hMB hY hYl HBo HBd HMB
          go_wp2_with (first
            | ((with_reducible refine gate_dst (N := 33) rfl ?_); refine box_sl ?hg (N := 33) ?hd (cs := (byteCells [218, 190]).toArray) (t := 5) (n := 2) ?hr ?_; (case hd => rfl); (case hg => rfl); (case hr => first | (go_simp; done) | (go_simp; rfl)); intro gl hg w3 hbox hb; have BK := Aside0.mk hbox; have HB3 := Aside0.mk (below_step HB.out hb); have HO3 := Aside0.mk (Kd.R_below HO.out hb); clear hbox hb hg)
            | ((with_reducible refine gate_dst (N := 34) rfl ?_); refine app_bytes (w0 := w) rfl (.tmp 32) (.tmp 33) rfl _ M [218, 190] _ 2 _ rfl rfl HO3.out (C_blk BK.out 2 rfl (by omega)) HB3.out (by have := HM.out; omega) ?_; intro v8 w8 hR8 hb8 hg8; have HO8 := Aside0.mk (show Kd.R (Kd.int .u8) 5 w8 w.heap.size (fun _ => True) v8 Y from HY.out ▸ hR8); have HB8 := Aside0.mk hb8; clear hR8 hb8 hg8))
          obtain ⟨A8, c8, hv8, hcc, _⟩ := Kd.R_reads HO8.out
          rw [HYl.out] at hv8
          subst hv8
          clear hcc BK HB3 HO3 HO HB
          go_loopg [5, 6, 7] 255 (fun kq v5 v6 v7 w' => ∃ (i x y : Int), v7 = .int .i64 i ∧ v5 = .int .u8 x ∧ v6 = .int .u8 y ∧ Aside0 (0 ≤ i ∧ i + 2 * kq = 510) ∧ Aside0 (crossAt Y i.toNat = (x, y)) ∧ Aside0 (Kd.R (Kd.int .u8) 5 w' w.heap.size (fun _ => True) (.slice A8 510 c8) Y) ∧ Aside0 (Below w.heap.size w w'))
          case atStart => exact ⟨0, 0, 0, rfl, rfl, rfl, ⟨by omega, by omega⟩, ⟨rfl⟩, HO8, HB8⟩
          case round =>
            clear HO8 HB8
            obtain ⟨j, x, y, rfl, rfl, rfl, HJ, HX, HO, HB⟩ := hrel
            cases gk with
            | zero =>
              have hj : j = 510 := by have := HJ.out; omega
              have hlt3 : decide (j < (510 : Int)) = false := decide_eq_false (by omega)
              have hX := HX.out
              rw [hj, show (510 : Int).toNat = Y.length from HYl.out.symm] at hX
              have hRR : R = Y ++ [x, y] := by rw [HR.out]; unfold labelF; rw [HYb.out]; unfold crossF; rw [hX]
              have HRR := Aside0.mk hRR
              clear hX hRR HX hj
              go_wp2_with (first
                | ((with_reducible refine gate_dst (N := 57) rfl ?_); refine box_sl ?hg (N := 57) ?hd (cs := (byteCells [x, y]).toArray) (t := 5) (n := 2) ?hr ?_; (case hd => rfl); (case hg => rfl); (case hr => first | (go_simp; done) | (go_simp; rfl)); intro gl hg w3 hbox hb; have BK := Aside0.mk hbox; have HB3 := Aside0.mk (below_step HB.out hb); have HO3 := Aside0.mk (Kd.R_below HO.out hb); clear hbox hb hg)
                | ((with_reducible refine gate_dst (N := 58) rfl ?_); refine app_bytes (w0 := w) rfl (.tmp 54) (.tmp 57) rfl _ Y [x, y] _ 2 _ rfl rfl HO3.out (C_blk (L := [x, y]) BK.out 2 rfl (by omega)) HB3.out (by have := HYl.out; omega) ?_; intro v8 w8 hR8 hb8 hg8; have HO8 := Aside0.mk hR8; have HB8 := Aside0.mk hb8; clear hR8 hb8 hg8))
              go_ret
              exact ⟨_, rfl, HRR.out ▸ HO8.out, HB8.out⟩
            | succ k3 =>
              have hj := HJ.out
              have hY := HYl.out
              have hlt3 : decide (j < (510 : Int)) = true := decide_eq_true (by omega)
              have q1 : (0 ≤ j) = True := eq_true (by omega)
              have q2 : (j < 510) = True := eq_true (by omega)
              have q3 : (0 ≤ j + 1) = True := eq_true (by omega)
              have q4 : (j + 1 < 510) = True := eq_true (by omega)
              have q5 : wrap64 (j + 1) = j + 1 := by unfold wrap64; omega
              have q7 : IntKind.i64.wrap (j + 1) = j + 1 := (i64_w _).trans q5
              have q6 : wrap64 (j + 2) = j + 2 := by unfold wrap64; omega
              have hC := (Kd.R_reads' HO.out).2.2
              obtain ⟨ad, eA, hx0⟩ := Kd.at_int hC j (by omega) (by omega)
              cases eA
              obtain ⟨ad2, eA2, hx1⟩ := Kd.at_int hC (j + 1) (by omega) (by omega)
              cases eA2
              have he1 := cross_even Y j.toNat (by omega)
              have he2 := cross_odd Y (j.toNat + 1) (by omega)
              rw [he1, HX.out] at he2
              rw [show j.toNat + 1 + 1 = (j + 2).toNat by omega] at he2
              rw [show (j.toNat + 1 : Nat) = (j + 1).toNat by omega] at he2
              have HE := Aside0.mk he2
              have HJ1 := Aside0.mk hj
              clear hj hY hC he1 he2
              go_wp2
              refine start_ (n := 15) (S := fun w' => w'.cell? (ad.add j.toNat) = some (.int .u8 (rd Y j)) ∧ w'.cell? (ad.add (j + 1).toNat) = some (.int .u8 (rd Y (j + 1)))) (ds := []) #[false, false, false, false, false, false, false, false, false, false, false, false, false, false, false] (by kernel_rfl) rfl rfl ⟨hx0, hx1⟩ (fun hHeld => ?_)
              refine pure_ (i := 0) (N := some 41) (v := ?_) (a' := ?_) #[true, false, false, false, false, false, false, false, false, false, false, false, false, false, false] rfl rfl (by kernel_rfl) (fun _ _ _ h => h) (Or.inl ⟨by rfl, ?_⟩) ?_ ?_
              rotate_left
              · intro w'
                go_simp
                with_reducible rfl
              rotate_left
              · simp only [Act.put, List.setIfInBounds_toArray, List.set_cons_zero, List.set_cons_succ]
                rfl
              refine pure_ (i := 1) (N := some 42) (v := ?_) (a' := ?_) #[true, true, false, false, false, false, false, false, false, false, false, false, false, false, false] rfl rfl (by kernel_rfl) (fun _ _ _ h => h) (Or.inl ⟨by rfl, ?_⟩) ?_ ?_
              rotate_left
              · intro w'
                go_simp
                with_reducible rfl
              rotate_left
              · simp only [Act.put, List.setIfInBounds_toArray, List.set_cons_zero, List.set_cons_succ]
                rfl
              refine pure_ (i := 2) (N := some 43) (v := ?_) (a' := ?_) #[true, true, true, false, false, false, false, false, false, false, false, false, false, false, false] rfl rfl (by kernel_rfl) (fun _ _ _ h => h) (Or.inl ⟨by rfl, ?_⟩) ?_ ?_
              rotate_left
              · intro w'
                go_simp
                with_reducible rfl
              rotate_left
              · simp only [Act.put, List.setIfInBounds_toArray, List.set_cons_zero, List.set_cons_succ]
                rfl
              refine pure_ (i := 3) (N := some 44) (v := ?_) (a' := ?_) #[true, true, true, true, false, false, false, false, false, false, false, false, false, false, false] rfl rfl (by kernel_rfl) (fun _ _ _ h => h) (Or.inl ⟨by rfl, ?_⟩) ?_ ?_
              rotate_left
              · intro w'
                go_simp
                with_reducible rfl
              rotate_left
              · simp only [Act.put, List.setIfInBounds_toArray, List.set_cons_zero, List.set_cons_succ]
                rfl
              refine take_ (i := 4) (N := some 45) (v := .int .u8 (rd Y j)) (a' := ?_) #[true, true, true, true, true, false, false, false, false, false, false, false, false, false, false] rfl rfl (by kernel_rfl) (fun _ _ _ h => h) (Or.inl ⟨by rfl, ?_⟩) hHeld ?_ ?_
              rotate_left
              rotate_left
              · simp only [Act.put, List.setIfInBounds_toArray, List.set_cons_zero, List.set_cons_succ]
                rfl
              rotate_left
              · rintro w' ⟨s0, s1⟩
                go_simp
              refine pure_ (i := 5) (N := some 46) (v := ?_) (a' := ?_) #[true, true, true, true, true, true, false, false, false, false, false, false, false, false, false] rfl rfl (by kernel_rfl) (fun _ _ _ h => h) (Or.inl ⟨by rfl, ?_⟩) ?_ ?_
              rotate_left
              · intro w'
                go_simp
                with_reducible rfl
              rotate_left
              · simp only [Act.put, List.setIfInBounds_toArray, List.set_cons_zero, List.set_cons_succ]
                rfl
              refine pure_ (i := 6) (N := some 47) (v := ?_) (a' := ?_) #[true, true, true, true, true, true, true, false, false, false, false, false, false, false, false] rfl rfl (by kernel_rfl) (fun _ _ _ h => h) (Or.inl ⟨by rfl, ?_⟩) ?_ ?_
              rotate_left
              · intro w'
                go_simp
                with_reducible rfl
              rotate_left
              · simp only [Act.put, List.setIfInBounds_toArray, List.set_cons_zero, List.set_cons_succ]
                rfl
              refine pure_ (i := 7) (N := some 48) (v := ?_) (a' := ?_) #[true, true, true, true, true, true, true, true, false, false, false, false, false, false, false] rfl rfl (by kernel_rfl) (fun _ _ _ h => h) (Or.inl ⟨by rfl, ?_⟩) ?_ ?_
              rotate_left
              · intro w'
                go_simp
                with_reducible rfl
              rotate_left
              · simp only [Act.put, List.setIfInBounds_toArray, List.set_cons_zero, List.set_cons_succ]
                rfl
              refine pure_ (i := 8) (N := some 49) (v := ?_) (a' := ?_) #[true, true, true, true, true, true, true, true, true, false, false, false, false, false, false] rfl rfl (by kernel_rfl) (fun _ _ _ h => h) (Or.inl ⟨by rfl, ?_⟩) ?_ ?_
              rotate_left
              · intro w'
                go_simp
                with_reducible rfl
              rotate_left
              · simp only [Act.put, List.setIfInBounds_toArray, List.set_cons_zero, List.set_cons_succ]
                rfl
              refine pure_ (i := 9) (N := some 50) (v := ?_) (a' := ?_) #[true, true, true, true, true, true, true, true, true, true, false, false, false, false, false] rfl rfl (by kernel_rfl) (fun _ _ _ h => h) (Or.inl ⟨by rfl, ?_⟩) ?_ ?_
              rotate_left
              · intro w'
                go_simp
                with_reducible rfl
              rotate_left
              · simp only [Act.put, List.setIfInBounds_toArray, List.set_cons_zero, List.set_cons_succ]
                rfl
              refine pure_ (i := 10) (N := some 51) (v := ?_) (a' := ?_) #[true, true, true, true, true, true, true, true, true, true, true, false, false, false, false] rfl rfl (by kernel_rfl) (fun _ _ _ h => h) (Or.inl ⟨by rfl, ?_⟩) ?_ ?_
              rotate_left
              · intro w'
                go_simp
                with_reducible rfl
              rotate_left
              · simp only [Act.put, List.setIfInBounds_toArray, List.set_cons_zero, List.set_cons_succ]
                rfl
              refine take_ (i := 11) (N := some 52) (v := .int .u8 (rd Y (j + 1))) (a' := ?_) #[true, true, true, true, true, true, true, true, true, true, true, true, false, false, false] rfl rfl (by kernel_rfl) (fun _ _ _ h => h) (Or.inl ⟨by rfl, ?_⟩) hHeld ?_ ?_
              rotate_left
              rotate_left
              · simp only [Act.put, List.setIfInBounds_toArray, List.set_cons_zero, List.set_cons_succ]
                rfl
              rotate_left
              · rintro w' ⟨s0, s1⟩
                go_simp
              refine pure_ (i := 12) (N := some 53) (v := ?_) (a' := ?_) #[true, true, true, true, true, true, true, true, true, true, true, true, true, false, false] rfl rfl (by kernel_rfl) (fun _ _ _ h => h) (Or.inl ⟨by rfl, ?_⟩) ?_ ?_
              rotate_left
              · intro w'
                go_simp
                with_reducible rfl
              rotate_left
              · simp only [Act.put, List.setIfInBounds_toArray, List.set_cons_zero, List.set_cons_succ]
                rfl
              refine pure_ (i := 13) (N := some 5) (v := ?_) (a' := ?_) #[true, true, true, true, true, true, true, true, true, true, true, true, true, true, false] rfl rfl (by kernel_rfl) (fun _ _ _ h => h) (Or.inl ⟨by rfl, ?_⟩) ?_ ?_
              rotate_left
              · intro w'
                go_simp
                with_reducible rfl
              rotate_left
              · simp only [Act.put, List.setIfInBounds_toArray, List.set_cons_zero, List.set_cons_succ]
                rfl
              refine pure_ (i := 14) (N := some 6) (v := ?_) (a' := ?_) #[true, true, true, true, true, true, true, true, true, true, true, true, true, true, true] rfl rfl (by kernel_rfl) (fun _ _ _ h => h) (Or.inl ⟨by rfl, ?_⟩) ?_ ?_
              rotate_left
              · intro w'
                go_simp
                with_reducible rfl
              rotate_left
              · simp only [Act.put, List.setIfInBounds_toArray, List.set_cons_zero, List.set_cons_succ]
                rfl
              refine done_ (n := 0) (by kernel_rfl) ?_
              go_wp2
              go_roundg k3
              case measure => omega
              case rel =>
                have hj := HJ1.out
                exact ⟨j + 2, _, _, congrArg (Value.int .i64) q6, rfl, rfl, ⟨by omega, by omega⟩, HE, HO, ⟨pw_below_drewN HB.out 1⟩⟩
        | succ k2 =>
          have hM := HM.out
          have hlt2 : decide ((M.length : Int) < 508) = true := decide_eq_true (by omega)
          clear hM
          go_wp2_with (first
            | ((with_reducible refine gate_dst (N := 30) rfl ?_); refine box_sl ?hg (N := 30) ?hd (cs := (byteCells [0]).toArray) (t := 5) (n := 1) ?hr ?_; (case hd => rfl); (case hg => rfl); (case hr => first | (go_simp; done) | (go_simp; rfl)); intro gl hg w3 hbox hb; have BK := Aside0.mk hbox; have HB3 := Aside0.mk (below_step HB.out hb); have HO3 := Aside0.mk (Kd.R_below HO.out hb); clear hbox hb hg)
            | ((with_reducible refine gate_dst (N := 31) rfl ?_); refine app_bytes (w0 := w) rfl (.tmp 29) (.tmp 30) rfl _ M [0] _ 1 _ rfl rfl HO3.out (C_blk BK.out 1 rfl (by omega)) HB3.out (by have := HM.out; omega) ?_; intro v8 w8 hR8 hb8 hg8; have HO8 := Aside0.mk hR8; have HB8 := Aside0.mk hb8; clear hR8 hb8 hg8))
          go_roundg k2
          case measure => omega
          case rel =>
            obtain ⟨A10, c10, rfl⟩ := Kd.R_slice HO8.out
            refine ⟨M ++ [0], A10, c10, rfl, ⟨?_⟩, ⟨?_⟩, HO8, HB8⟩
            · have := HM.out; rw [List.length_append]; show _ + 1 + _ = _; omega
            · rw [← HMB.out, List.append_assoc]; rfl
    | succ k1 =>
      have hi := HI.out
      have hlt : decide (i < (8 : Int)) = true := decide_eq_true (by omega)
      have hw2 : wrap64 (i + 1) = i + 1 := by unfold wrap64; omega
      have p1 : (0 ≤ i) = True := eq_true (by omega)
      have p2 : (i < 8) = True := eq_true (by omega)
      obtain ⟨s, hs⟩ : ∃ s, s = (ps.getD i.toNat (0, 0)).1 := ⟨_, rfl⟩
      obtain ⟨c, hc⟩ : ∃ c, c = (ps.getD i.toNat (0, 0)).2 := ⟨_, rfl⟩
      have hg := partCells_get ps i.toNat (by have := HPL.out; omega)
      have hrg := HPR.out.at_ i.toNat (by have := HPL.out; omega)
      rw [← hs, ← hc, ← HCS.out] at hg
      rw [← hs, ← hc] at hrg
      have hc0 : wr.cell? ⟨gb, i.toNat * 2, none⟩ = some (.int .u32 s) := by rw [blk_cell BK.out, Nat.mul_comm]; simpa using hg.1
      have HG := Aside0.mk hg
      have HRG := Aside0.mk hrg
      have HI1 := Aside0.mk hi
      have HS := Aside0.mk hs
      have HC := Aside0.mk hc
      have HLl := Aside0.mk (show L.length = 8 * i.toNat by rw [HLe.out, headF_len, List.length_take, HPL.out]; omega)
      clear hg hi hs hc hrg
      go_wp2_with (first
        | (go_at_call 40; (with_reducible refine (four_ref s _ HRG.out.1.1 HRG.out.1.2).mono ?_); rintro e w7 ⟨A7, c7, rfl, hC, hb⟩; have HC7 := Aside0.mk hC; have HB7 := Aside0.mk (below_step HB.out hb); have HO7 := Aside0.mk (Kd.R_below HO.out hb); have BK7 := Aside0.mk (blk_below BK.out hb); clear hC hb)
        | ((with_reducible refine gate_dst (N := 18) rfl ?_); refine app_bytes (w0 := w) rfl (.tmp 12) (.tmp 17) rfl _ L (fourF s) _ 4 _ rfl rfl HO7.out HC7.out HB7.out (by have := HLl.out; have := HI1.out; omega) ?_; intro v8 w8 hR8 hb8 hg8; have HO8 := Aside0.mk hR8; have HB8 := Aside0.mk hb8; have BK8 := Aside0.mk (blk_grown BK7.out hg8 (Kd.R_ne HO7.out BK7.out (by decide))); have hc8 : w8.cell? ⟨gb, i.toNat * 2 + 1, none⟩ = some (.int .u32 c) := (by rw [blk_cell BK8.out, Nat.mul_comm]; simpa using HG.out.2); clear hR8 hb8 hg8)
        | (go_at_call 40; (with_reducible refine (four_ref c _ HRG.out.2.1 HRG.out.2.2).mono ?_); rintro e w9 ⟨A9, c9, rfl, hC, hb⟩; have HC9 := Aside0.mk hC; have HB9 := Aside0.mk (below_step HB8.out hb); have HO9 := Aside0.mk (Kd.R_below HO8.out hb); have BK9 := Aside0.mk (blk_below BK8.out hb); clear hC hb)
        | ((with_reducible refine gate_dst (N := 25) rfl ?_); refine app_bytes (w0 := w) rfl (.tmp 19) (.tmp 24) rfl _ (L ++ fourF s) (fourF c) _ 4 _ rfl rfl HO9.out HC9.out HB9.out (by rw [List.length_append, HLl.out]; show _ + 4 + 4 ≤ _; have := HI1.out; omega) ?_; intro v10 w10 hR8 hb8 hg8; have HO10 := Aside0.mk hR8; have HB10 := Aside0.mk hb8; have BK10 := Aside0.mk (blk_grown BK9.out hg8 (Kd.R_ne HO9.out BK9.out (by decide))); clear hR8 hb8 hg8))
      go_roundg k1
      case measure => omega
      case rel =>
        have hi := HI1.out
        have hps := HPL.out
        obtain ⟨A10, c10, rfl⟩ := Kd.R_slice HO10.out
        refine ⟨i + 1, L ++ fourF s ++ fourF c, A10, c10, congrArg (Value.int .i64) hw2, rfl, ⟨by omega, by omega⟩, ⟨?_⟩, HO10, BK10, HB10⟩
        rw [show (i + 1).toNat = i.toNat + 1 by omega, headF_take_succ ps i.toNat (by omega), HLe.out, HS.out, HC.out]
end Go.Proofs.Ytnbomjfpnpmllaa.Q
