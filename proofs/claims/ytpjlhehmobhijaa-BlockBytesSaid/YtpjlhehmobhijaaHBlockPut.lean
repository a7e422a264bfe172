/- Contracts and plain facts for the functions of layer 20: what each answers, wherever its plain function has an answer. -/
import Derived.Test.YtpjlhehmobhijaaHBlockP
import Derived.Test.YtpjlhehmobhijaaHBlockW
import Derived.Test.YtpjlhehmobhijaaQBlockStretch
import Derived.Test.YtpjlhehmobhijaaQBlockRead
namespace Go.Proofs.Ytpjlhehmobhijaa.Q
open Go.RowKit Go.Proofs.YtpjlhehmobhijaaW.PrintWords Go.Proofs.YtpjlhehmobhijaaW.PrintLast Go.Proofs.YtpjlhehmobhijaaW.PrintMore
theorem block_stretch_eq (l : List Int) (a n : Int) (hl : l.length ≤ 140737488351232) : block_stretch.f l a n = some (if diskB l = true then (if 0 ≤ a ∧ 0 ≤ n ∧ a ≤ l.length ∧ n ≤ l.length - a then 0 else 23) else 1) := by
  unfold block_stretch.f
  rw [block_Formed_eq l hl, Option.bind_some]
  split
  · split
    · rw [if_neg (by omega)]
    · split
      · rw [if_neg (by omega)]
      · split
        · rw [if_neg (by omega)]
        · have : wrap64 ((l.length : Int) - a) = (l.length : Int) - a := by unfold wrap64; omega
          rw [this]
          split
          · rw [if_neg (by omega)]
          · rw [if_pos (by omega)]
  · rfl
theorem block_Read_eq (l : List Int) (n : Int) (hl : l.length ≤ 140737488351232) : block_Read.f l n = some (if diskB l = true then (if 0 ≤ n ∧ n < l.length / 512 then ((l.drop (n * 512).toNat).take 512, 0) else ([], 23)) else ([], 1)) := by
  unfold block_Read.f
  rw [block_check_eq l n hl, Option.bind_some]
  by_cases hd : diskB l = true
  · have hln : l.length % 512 = 0 ∧ l.length ≤ 32768 := by simpa [diskB] using hd
    rw [if_pos hd, if_pos hd]
    by_cases hn : 0 ≤ n ∧ n < l.length / 512
    · have e : wrap64 (n * 512) = n * 512 := by unfold wrap64; omega
      rw [if_pos hn, if_pos hn, if_pos rfl, e, if_pos (by omega), if_pos (by omega), if_pos (by rw [List.length_drop]; omega)]
      unfold slices_Clone_byte_byte.f
      rw [if_pos (by simp; omega)]
      rfl
    · rw [if_neg hn, if_neg hn, if_neg (by decide)]
  · rw [if_neg hd, if_neg hd, if_neg (by decide)]
/-- What block.Put answers. -/
def block_Put.f (l0 : List Int) (a1 : Int) (l2 : List Int) : Option (List Int × Int) :=
  if l0.length ≤ 140737488351232 then
    (if diskB l0 = true then (if 0 ≤ a1 ∧ a1 ≤ l0.length ∧ l2.length ≤ l0.length - a1 then some (splice l0 a1.toNat l2, 0) else some ([], 23)) else some ([], 1))
  else none
set_option linter.unusedSimpArgs false in
set_option maxHeartbeats 4000000 in
set_option maxRecDepth 100000 in
theorem block_Put.calls (A0 : Option Addr) (c0 : Nat) (l0 : List Int) (a1 : Int) (A2 : Option Addr) (c2 : Nat) (l2 : List Int) (r1 : List Int) (r2 : Int) (w : World) (hr0 : Kd.C (Kd.int .u8) w A0 l0.length l0) (hc0 : l0.length ≤ c0) (hr2 : Kd.C (Kd.int .u8) w A2 l2.length l2) (hc2 : l2.length ≤ c2) (h : block_Put.f l0 a1 l2 = some (r1, r2)) :
    Calls Try.prog 19 #[.slice A0 l0.length c0, .int .i64 a1, .slice A2 l2.length c2] w fun e w' => ∃ v0_ : Value, e = .returned (.tuple #[v0_, .int .i64 r2]) ∧ Kd.R (Kd.int .u8) 5 w' w.heap.size (fun _ => True) v0_ r1 ∧ Below w.heap.size w w' := by
  have HR0 := Aside0.mk hr0
  have HC0 := Aside0.mk hc0
  have HR2 := Aside0.mk hr2
  have HC2 := Aside0.mk hc2
  clear hr0 hc0 hr2 hc2
  unfold block_Put.f at h
  split at h
  case isFalse => cases h
  rename_i hsz
  have HS := Aside0.mk (block_stretch_eq l0 a1 l2.length hsz)
  by_cases hd : diskB l0 = true
  · rw [if_pos hd] at h HS
    by_cases hn : 0 ≤ a1 ∧ a1 ≤ l0.length ∧ l2.length ≤ l0.length - a1
    · rw [if_pos hn] at h
      rw [if_pos ⟨hn.1, by omega, hn.2.1, hn.2.2⟩] at HS
      simp only [Option.some.injEq, Prod.mk.injEq] at h
      obtain ⟨rfl, rfl⟩ := h
      have hln : l0.length % 512 = 0 ∧ l0.length ≤ 32768 := by simpa [diskB] using hd
      have HCl := Aside0.mk (show slices_Clone_byte_byte.f l0 = some l0 by unfold slices_Clone_byte_byte.f; rw [if_pos (by omega)])
      obtain ⟨ps, hps, hch, hpl⟩ := pieces_chain (l2.length + 1) a1 l2.length (by omega) (by omega) (by omega) (by omega)
      have HPS := Aside0.mk hps
      have HCH := Aside0.mk hch
      have HN := Aside0.mk hn
      have HD := Aside0.mk hd
      have HLN := Aside0.mk hln
      have HPL := Aside0.mk hpl
      clear hn hd hln hsz hps hch hpl
      go_enter Try.func19, Try.ntmps19
      go_wp2_with (first
        | (go_at_call 27; refine (block_stretch.calls _ _ _ _ _ _ _ HR0.out HC0.out HS.out).mono ?_; rintro e w' ⟨rfl, ⟨nd, rfl⟩⟩)
        | (go_at_call 26; refine (slices_Clone_byte_byte.calls _ _ _ _ _ (Kd.C_drewN HR0.out _) HC0.out HCl.out).mono ?_; rintro e w1 ⟨v, rfl, ho, hb⟩; obtain ⟨Av, cv, rfl⟩ := Kd.R_slice ho; have HO := Aside0.mk (Kd.R_lower ho (show w.heap.size ≤ _ from Nat.le_refl _)); have HB := Aside0.mk (below_step (pw_below_drewN (Below.refl _ _) _) hb); clear ho hb)
        | (go_at_call 24; refine (block_pieces.calls _ _ _ _ _ HPS.out).mono ?_; rintro e w2 ⟨vp, rfl, hp, hb⟩; obtain ⟨Ap, cp, rfl⟩ := Kd.R_slice hp; have HO2 := Aside0.mk (Kd.R_below HO.out hb); have HP := Aside0.mk (Kd.R_lower hp HB.out.size); have HB2 := Aside0.mk (below_step HB.out hb); clear hp hb HO HB))
      clear HS HCl HPS
      go_loopg [2, 28] ps.length (fun kq v2 v28 w' => ∃ (i : Int) (off : Nat) (A : Option Addr), v28 = .int .i64 i ∧ v2 = .slice A (l2.length - off) (c2 - off) ∧ Aside0 (0 ≤ i ∧ i + kq = ps.length ∧ off ≤ l2.length ∧ Chain (a1 + off) (l2.length - off) (ps.drop i.toNat)) ∧ Aside0 (Kd.C (Kd.int .u8) w A (l2.length - off) (l2.drop off)) ∧ Aside0 (Kd.R (Kd.int .u8) 5 w' w.heap.size (fun _ => True) (.slice Av l0.length cv) (splice l0 a1.toNat (l2.take off))) ∧ Aside0 (Kd.R k49 49 w' w.heap.size (fun _ => True) (.slice Ap ps.length cp) ps) ∧ Aside0 (Below w.heap.size w w'))
      case atStart => exact ⟨0, 0, A2, rfl, rfl, ⟨by omega, by omega, by omega, by simpa using HCH.out⟩, ⟨by simpa using HR2.out⟩, ⟨by simpa [splice] using HO2.out⟩, HP, HB2⟩
      case round =>
        clear HCH HO2 HP HB2
        obtain ⟨i, off, A, rfl, rfl, HI, HA, HO, HP, HB⟩ := hrel
        cases gk with
        | zero =>
          have hlt : decide (i < (ps.length : Int)) = false := decide_eq_false (by have := HI.out; omega)
          go_wp2
          go_ret2
          have hi := HI.out
          have hc := hi.2.2.2
          rw [List.drop_eq_nil_of_le (by omega)] at hc
          have ho := HO.out
          rw [List.take_of_length_le (by have := hc.nil_inv; omega)] at ho
          exact ⟨_, rfl, ho, HB.out⟩
        | succ k1 =>
          have hi := HI.out
          have hil : i.toNat < ps.length := by omega
          have hch := hi.2.2.2
          rw [List.drop_eq_getElem_cons hil] at hch
          have hrd : ps[i.toNat] = rd_T49 ps i := by simp [rd_T49, List.getD_eq_getElem?_getD, List.getElem?_eq_getElem hil]
          rw [hrd] at hch
          obtain ⟨⟨q1, q2, q3, q4, q5, q6⟩, q7, q8⟩ := hch.cons_inv
          have hn := HN.out
          have hln := HLN.out
          obtain ⟨D, hD⟩ : ∃ D, D = splice l0 a1.toNat (l2.take off) := ⟨_, rfl⟩
          obtain ⟨g, cg, eg, -, hgl, -⟩ := Kd.R_form HO.out (by rw [length_splice _ _ _ (by rw [List.length_take]; omega)]; omega)
          injection eg with eg1 eg2 eg3
          subst eg1
          subst eg3
          clear eg2
          have hDl : D.length = l0.length := by rw [hD]; exact length_splice _ _ _ (by rw [List.length_take]; omega)
          obtain ⟨S, hS⟩ : ∃ S, S = (D.drop ((rd_T49 ps i).f0 * 512).toNat).take 512 := ⟨_, rfl⟩
          have hSl : S.length = 512 := by rw [hS, List.length_take, List.length_drop]; omega
          have hDd : diskB D = true := by have := HD.out; simp only [diskB, hDl] at this ⊢; exact this
          have hrd2 : block_Read.f D (rd_T49 ps i).f0 = some (S, 0) := by rw [block_Read_eq D _ (by omega), if_pos hDd, if_pos (by omega), hS]
          have HRead := Aside0.mk (show ∀ W : World, Kd.C (Kd.int .u8) W (some ⟨g, 0, none⟩) l0.length D → Calls Try.prog 12 #[.slice (some ⟨g, 0, none⟩) l0.length cv, .int .i64 (rd_T49 ps i).f0] W (fun e w' => ∃ v0_ : Value, e = .returned (.tuple #[v0_, .int .i64 0]) ∧ Kd.R (Kd.int .u8) 5 w' W.heap.size (fun _ => True) v0_ S ∧ Below W.heap.size W w') from fun W hC => by
            have hcv := (Kd.R_reads' HO.out).2.1
            rw [← hDl] at hC hcv ⊢
            exact block_Read.calls _ _ _ _ _ _ _ hC hcv hrd2)
          rw [← hD] at HO
          have HDL := Aside0.mk hDl
          have HSL := Aside0.mk hSl
          have HDE := Aside0.mk hD
          have HSE := Aside0.mk hS
          have Q8 := Aside0.mk q8
          have HIL := Aside0.mk hil
          have QQ := Aside0.mk (show (rd_T49 ps i).f0 * 512 + (rd_T49 ps i).f1 = a1 + off ∧ 0 ≤ (rd_T49 ps i).f0 ∧ 0 ≤ (rd_T49 ps i).f1 ∧ 0 < (rd_T49 ps i).f2 ∧ (rd_T49 ps i).f2 ≤ l2.length - off ∧ (rd_T49 ps i).f1 + (rd_T49 ps i).f2 ≤ 512 from ⟨q1, q2, q3, q4, q5, q6⟩)
          have hlt : decide (i < (ps.length : Int)) = true := decide_eq_true (by omega)
          obtain ⟨adp, ep, hx0, hx1, hx2⟩ := at_T49 (Kd.R_reads' HP.out).2.2 i (by omega) (by omega)
          cases ep
          have p1 : (0 ≤ i) = True := eq_true (by omega)
          have p2 : (i < (ps.length : Int)) = True := eq_true (by omega)
          clear hi hil hrd hrd2 hch q1 q2 q3 q4 q5 q6 q7 q8 hn hln hD hDl hS hSl hDd
          go_wp2_with (first
            | ((with_reducible refine gate_dst (N := 10) rfl ?_); refine box_event ?hg (N := 10) ?hd (cs := #[.int .i64 0, .int .i64 0, .int .i64 0]) (t := 49) ?hr ?_; (case hd => rfl); (case hg => rfl); (case hr => first | (go_simp; done) | (go_simp; rfl)); intro gb hg w6 hbox hb; have BK := Aside0.mk hbox; have HO1 := Aside0.mk (Kd.R_below HO.out hb); have HP1 := Aside0.mk (Kd.R_below HP.out hb); have HB1 := Aside0.mk (below_step HB.out hb); have GB := Aside0.mk (show w.heap.size ≤ gb from hg ▸ HB.out.size); have AO := Aside0.mk (show ∀ k, (Value.slice (some ⟨g, 0, none⟩) l0.length cv).ownBlock = some k → k ≠ gb from fun k hk => hg ▸ Nat.ne_of_lt (Kd.R_lt HO.out k hk)); have AP := Aside0.mk (show ∀ k, (Value.slice (some adp) ps.length cp).ownBlock = some k → k ≠ gb from fun k hk => hg ▸ Nat.ne_of_lt (Kd.R_lt HP.out k hk)); clear HO HP HB hb hbox hg; have hcz0 : w6.cell? ⟨gb, 0, none⟩ = some (.int .i64 0) := (blk_cell BK.out 0).trans rfl; have hcz1 : w6.cell? ⟨gb, 1, none⟩ = some (.int .i64 0) := (blk_cell BK.out 1).trans rfl; have hcz2 : w6.cell? ⟨gb, 2, none⟩ = some (.int .i64 0) := (blk_cell BK.out 2).trans rfl; have hfz0 := blk_frozen BK.out 0; have hfz1 := blk_frozen BK.out 1; have hfz2 := blk_frozen BK.out 2)
            | (go_at_call 12; refine (HRead.out _ ?side1).mono ?_; (case side1 => rw [← HDL.out]; exact (Kd.R_reads' (R_flat_put rfl (R_flat_put rfl (R_flat_put rfl HO1.out AO.out) AO.out) AO.out)).2.2); rintro e w7 ⟨v, rfl, ho, hb⟩; obtain ⟨As, cs, rfl⟩ := Kd.R_slice ho; have HO2 := Aside0.mk (Kd.R_below (R_flat_put rfl (R_flat_put rfl (R_flat_put rfl HO1.out AO.out) AO.out) AO.out) hb); have HP2 := Aside0.mk (Kd.R_below (R_flat_put rfl (R_flat_put rfl (R_flat_put rfl HP1.out AP.out) AP.out) AP.out) hb); have HS2 := Aside0.mk (Kd.R_lower ho (show w.heap.size ≤ _ by simpa using HB1.out.size)); have BK2 := Aside0.mk (blk_below (blk_put (blk_put (blk_put BK.out 0 _ rfl) 1 _ rfl) 2 _ rfl) hb); have HB2 := Aside0.mk (below_step (below_set (below_set (below_set HB1.out GB.out) GB.out) GB.out) hb); obtain ⟨gs, cs', es, hs1, -, -⟩ := Kd.R_form ho (by rw [HSL.out]; decide); injection es with es1 es2 es3; subst es1; subst es3; have hW : w6.heap.size ≤ gs := (by simpa using hs1); have AGS := Aside0.mk (show g < gs from Nat.lt_of_lt_of_le (Kd.R_lt HO1.out g rfl) hW); have APS := Aside0.mk (show ∀ k, (Value.slice (some adp) ps.length cp).ownBlock = some k → k < gs from fun k hk => Nat.lt_of_lt_of_le (Kd.R_lt HP1.out k hk) hW); have ABS := Aside0.mk (show gb < gs from Nat.lt_of_lt_of_le (blk_lt BK.out) hW); have GS := Aside0.mk (show w.heap.size ≤ gs from Nat.le_trans HB1.out.size hW); clear hcz0 hcz1 hcz2 hfz0 hfz1 hfz2 HO1 HP1 HB1 BK es2 hs1 hW ho hb; have hz0 : w7.cell? ⟨gb, 0, none⟩ = some (.int .i64 (rd_T49 ps i).f0) := (blk_cell BK2.out 0).trans rfl; have hz1 : w7.cell? ⟨gb, 1, none⟩ = some (.int .i64 (rd_T49 ps i).f1) := (blk_cell BK2.out 1).trans rfl; have hz2 : w7.cell? ⟨gb, 2, none⟩ = some (.int .i64 (rd_T49 ps i).f2) := (blk_cell BK2.out 2).trans rfl))
          have qq := QQ.out
          have hhi := HI.out
          have hcut4 : ∀ W : World, (Instr.slice 30 (.slice (some ⟨gs, 0, none⟩) S.length cs) (some (.int .i64 (rd_T49 ps i).f1)) none none).run Try.prog W = .ok (.slice (cutAt (some ⟨gs, 0, none⟩) cs (rd_T49 ps i).f1.toNat 1) (S.length - (rd_T49 ps i).f1.toNat) (cs - (rd_T49 ps i).f1.toNat)) W := run_cut_lo (P := Try.prog) (sz := 1) Try.underlying30 (by kernel_rfl) (some ⟨gs, 0, none⟩) S.length cs (rd_T49 ps i).f1 (by omega) (by have := HSL.out; omega)
          have hcut8 : ∀ W : World, (Instr.slice 30 (.slice A (l2.length - off) (c2 - off)) none (some (.int .i64 (rd_T49 ps i).f2)) none).run Try.prog W = .ok (.slice A (rd_T49 ps i).f2.toNat (c2 - off)) W := run_cut_hi (P := Try.prog) (sz := 1) Try.underlying30 (by kernel_rfl) A (l2.length - off) (c2 - off) (rd_T49 ps i).f2 (by omega) (by have := HC2.out; omega)
          have hcut10 : ∀ W : World, (Instr.slice 30 (.slice A (l2.length - off) (c2 - off)) (some (.int .i64 (rd_T49 ps i).f2)) none none).run Try.prog W = .ok (.slice (cutAt A (c2 - off) (rd_T49 ps i).f2.toNat 1) (l2.length - off - (rd_T49 ps i).f2.toNat) (c2 - off - (rd_T49 ps i).f2.toNat)) W := run_cut_lo (P := Try.prog) (sz := 1) Try.underlying30 (by kernel_rfl) A (l2.length - off) (c2 - off) (rd_T49 ps i).f2 (by omega) (by omega)
          have YL := Aside0.mk (show (((l2.drop off).take (rd_T49 ps i).f2.toNat).take (S.length - (rd_T49 ps i).f1.toNat)) = (l2.drop off).take (rd_T49 ps i).f2.toNat from List.take_of_length_le (by have := HSL.out; rw [List.length_take, List.length_drop]; omega))
          have YN := Aside0.mk (show ((l2.drop off).take (rd_T49 ps i).f2.toNat).length = (rd_T49 ps i).f2.toNat from by rw [List.length_take, List.length_drop]; omega)
          clear qq hhi
          refine start_ (n := 12) (S := fun w' => w'.cell? ⟨gb, 1, none⟩ = some (.int .i64 (rd_T49 ps i).f1) ∧ w'.cell? ⟨gb, 2, none⟩ = some (.int .i64 (rd_T49 ps i).f2)) (ds := [9]) #[false, false, false, false, false, false, false, false, false, false, false, false] (by kernel_rfl) rfl rfl ⟨hz1, hz2⟩ (fun hHeld => ?_)
          refine pure_ (i := 0) (N := some 42) (v := ?_) (a' := ?_) #[true, false, false, false, false, false, false, false, false, false, false, false] rfl rfl (by kernel_rfl) (fun _ _ _ h => h) (Or.inl ⟨by rfl, ?_⟩) ?_ ?_
          rotate_left
          · intro w'
            go_simp
            with_reducible rfl
          rotate_left
          · simp only [Act.put, List.setIfInBounds_toArray, List.set_cons_zero, List.set_cons_succ, i64_w, i32_w]
            rfl
          refine pure_ (i := 1) (N := some 43) (v := ?_) (a' := ?_) #[true, true, false, false, false, false, false, false, false, false, false, false] rfl rfl (by kernel_rfl) (fun _ _ _ h => h) (Or.inl ⟨by rfl, ?_⟩) ?_ ?_
          rotate_left
          · intro w'
            go_simp
            with_reducible rfl
          rotate_left
          · simp only [Act.put, List.setIfInBounds_toArray, List.set_cons_zero, List.set_cons_succ, i64_w, i32_w]
            rfl
          refine pure_ (i := 2) (N := some 44) (v := ?_) (a' := ?_) #[true, true, true, false, false, false, false, false, false, false, false, false] rfl rfl (by kernel_rfl) (fun _ _ _ h => h) (Or.inl ⟨by rfl, ?_⟩) ?_ ?_
          rotate_left
          · intro w'
            go_simp
            with_reducible rfl
          rotate_left
          · simp only [Act.put, List.setIfInBounds_toArray, List.set_cons_zero, List.set_cons_succ, i64_w, i32_w]
            rfl
          refine take_ (i := 3) (N := some 45) (v := .int .i64 (rd_T49 ps i).f1) (a' := ?_) #[true, true, true, true, false, false, false, false, false, false, false, false] rfl rfl (by kernel_rfl) (fun _ _ _ h => h) (Or.inl ⟨by rfl, ?_⟩) hHeld ?_ ?_
          rotate_left
          rotate_left
          · simp only [Act.put, List.setIfInBounds_toArray, List.set_cons_zero, List.set_cons_succ]
            rfl
          rotate_left
          · rintro w' ⟨e1, e2⟩
            go_simp
          refine pure_ (i := 4) (N := some 46) (v := ?_) (a' := ?_) #[true, true, true, true, true, false, false, false, false, false, false, false] rfl rfl (by kernel_rfl) (fun _ _ _ h => h) (Or.inl ⟨by rfl, ?_⟩) ?_ ?_
          rotate_left
          · intro w'
            go_simp
            with_reducible rfl
          rotate_left
          · simp only [Act.put, List.setIfInBounds_toArray, List.set_cons_zero, List.set_cons_succ, i64_w, i32_w]
            rfl
          refine pure_ (i := 5) (N := some 47) (v := ?_) (a' := ?_) #[true, true, true, true, true, true, false, false, false, false, false, false] rfl rfl (by kernel_rfl) (fun _ _ _ h => h) (Or.inl ⟨by rfl, ?_⟩) ?_ ?_
          rotate_left
          · intro w'
            go_simp
            with_reducible rfl
          rotate_left
          · simp only [Act.put, List.setIfInBounds_toArray, List.set_cons_zero, List.set_cons_succ, i64_w, i32_w]
            rfl
          refine pure_ (i := 6) (N := some 48) (v := ?_) (a' := ?_) #[true, true, true, true, true, true, true, false, false, false, false, false] rfl rfl (by kernel_rfl) (fun _ _ _ h => h) (Or.inl ⟨by rfl, ?_⟩) ?_ ?_
          rotate_left
          · intro w'
            go_simp
            with_reducible rfl
          rotate_left
          · simp only [Act.put, List.setIfInBounds_toArray, List.set_cons_zero, List.set_cons_succ, i64_w, i32_w]
            rfl
          refine take_ (i := 7) (N := some 49) (v := .int .i64 (rd_T49 ps i).f2) (a' := ?_) #[true, true, true, true, true, true, true, true, false, false, false, false] rfl rfl (by kernel_rfl) (fun _ _ _ h => h) (Or.inl ⟨by rfl, ?_⟩) hHeld ?_ ?_
          rotate_left
          rotate_left
          · simp only [Act.put, List.setIfInBounds_toArray, List.set_cons_zero, List.set_cons_succ]
            rfl
          rotate_left
          · rintro w' ⟨e1, e2⟩
            go_simp
          refine pure_ (i := 8) (N := some 50) (v := ?_) (a' := ?_) #[true, true, true, true, true, true, true, true, true, false, false, false] rfl rfl (by kernel_rfl) (fun _ _ _ h => h) (Or.inl ⟨by rfl, ?_⟩) ?_ ?_
          rotate_left
          · intro w'
            go_simp
            with_reducible rfl
          rotate_left
          · simp only [Act.put, List.setIfInBounds_toArray, List.set_cons_zero, List.set_cons_succ, i64_w, i32_w]
            rfl
          refine last_ (i := 9) (N := some 51) #[true, true, true, true, true, true, true, true, true, true, false, false] rfl rfl (by kernel_rfl) (by decide) (fun K hK => ?_)
          have eg : goInt (((rd_T49 ps i).f2.toNat : Nat) : Int) = .int .i64 (rd_T49 ps i).f2 := by rw [Int.toNat_of_nonneg (by have := QQ.out; omega)]; rfl
          refine copy_row_step (Value.int .u8) (fun _ => rfl) (w0 := w) w.heap.size (by rfl) (N := some 51) rfl (.tmp 46) (.tmp 50) 30 30 5 rfl Try.underlying30 (by kernel_rfl) gs S.length cs (rd_T49 ps i).f1.toNat (S.length - (rd_T49 ps i).f1.toNat) (cs - (rd_T49 ps i).f1.toNat) (rd_T49 ps i).f2.toNat (c2 - off) _ _ S ((l2.drop off).take (rd_T49 ps i).f2.toNat) (fun _ => True) rfl rfl (Kd.R_drew HS2.out) ?aD ?aF ?aR ?aB ?_
          case aD => intro _; rw [cutAt_own (by have := HSL.out; have := QQ.out; have := (Kd.R_reads' HS2.out).2.1; omega), Nat.mul_one]
          case aF => have := HSL.out; have := QQ.out; omega
          case aR => have h := HA.out; rw [← List.length_drop] at h; have h2 := Kd.C_take h (m := (rd_T49 ps i).f2.toNat) (by rw [List.length_drop]; have := QQ.out; omega); rw [YN.out] at h2; exact Kd.C_below h2 (below_drew HB2.out)
          case aB => exact below_drew HB2.out
          intro w8 ho hb hg
          rw [YL.out, YN.out, eg]
          rw [YL.out] at ho
          refine hK.out _ _ ?_
          have HS3 := Aside0.mk ho
          have HB3 := Aside0.mk hb
          have HO3 := Aside0.mk (R_flat_grown rfl (Kd.R_drew HO2.out) hg (fun k hk e => by have h1 : g = k := Option.some.inj hk; have h2 : k = gs := Option.some.inj e; have := AGS.out; omega))
          have HP3 := Aside0.mk (R_flat_grown rfl (Kd.R_drew HP2.out) hg (fun k hk e => by have h2 : k = gs := Option.some.inj e; have := APS.out k hk; omega))
          have hz0' : w8.cell? ⟨gb, 0, none⟩ = some (.int .i64 (rd_T49 ps i).f0) := (blk_cell (blk_grown (blk_drew BK2.out) hg (by intro e; injection e with e; have := ABS.out; omega)) 0).trans rfl
          clear ho hb hg hz0 hz1 hz2 HS2 HB2 HO2 HP2 BK2 hHeld hcut4 hcut8 hK eg
          simp only [Act.put, List.setIfInBounds_toArray, List.set_cons_zero, List.set_cons_succ]
          refine pure_ (i := 10) (N := some 52) (v := ?_) (a' := ?_) #[true, true, true, true, true, true, true, true, true, true, true, false] rfl rfl (by kernel_rfl) (fun _ _ _ h => h) (Or.inl ⟨by rfl, ?_⟩) ?_ ?_
          rotate_left
          · intro w'
            go_simp
            with_reducible rfl
          rotate_left
          · simp only [Act.put, List.setIfInBounds_toArray, List.set_cons_zero, List.set_cons_succ, i64_w, i32_w]
            rfl
          refine pure_ (i := 11) (N := some 2) (v := ?_) (a' := ?_) #[true, true, true, true, true, true, true, true, true, true, true, true] rfl rfl (by kernel_rfl) (fun _ _ _ h => h) (Or.inl ⟨by rfl, ?_⟩) ?_ ?_
          rotate_left
          · intro w'
            go_simp
            with_reducible rfl
          rotate_left
          · simp only [Act.put, List.setIfInBounds_toArray, List.set_cons_zero, List.set_cons_succ, i64_w, i32_w]
            rfl
          refine done_ (n := 0) (by kernel_rfl) ?_
          have qq := QQ.out
          have hhi := HI.out
          have hln := HLN.out
          have hn := HN.out
          have hb0 : 0 ≤ (rd_T49 ps i).f0 := qq.2.1
          have hb1 : (rd_T49 ps i).f0 ≤ 64 := by omega
          have hi0 : 0 ≤ i := hhi.1
          have hi1 : i ≤ 1000000 := by have := HPL.out; omega
          have hcv := (Kd.R_reads' HO3.out).2.1
          have hcut12 : ∀ W : World, (Instr.slice 30 (.slice (some ⟨g, 0, none⟩) l0.length cv) (some (.int .i64 ((rd_T49 ps i).f0 * 512))) none none).run Try.prog W = .ok (.slice (cutAt (some ⟨g, 0, none⟩) cv ((rd_T49 ps i).f0 * 512).toNat 1) (l0.length - ((rd_T49 ps i).f0 * 512).toNat) (cv - ((rd_T49 ps i).f0 * 512).toNat)) W := run_cut_lo (P := Try.prog) (sz := 1) Try.underlying30 (by kernel_rfl) (some ⟨g, 0, none⟩) l0.length cv ((rd_T49 ps i).f0 * 512) (by omega) (by omega)
          have CV := Aside0.mk hcv
          have QF := Aside0.mk (show ((rd_T49 ps i).f0 * 512).toNat + 512 ≤ l0.length by omega)
          clear qq hhi hln hn hcv hcut10
          go_wp2_with (first | ((with_reducible refine gate_builtin (b := .copy) (xs := #[.tmp 57, .tmp 58]) rfl ?_); refine copy_row (Value.int .u8) (fun _ => rfl) (w0 := w) w.heap.size rfl (.tmp 57) (.tmp 58) 30 30 5 rfl Try.underlying30 (by kernel_rfl) g l0.length cv ((rd_T49 ps i).f0 * 512).toNat (l0.length - ((rd_T49 ps i).f0 * 512).toNat) (cv - ((rd_T49 ps i).f0 * 512).toNat) S.length cs _ _ D (splice S (rd_T49 ps i).f1.toNat ((l2.drop off).take (rd_T49 ps i).f2.toNat)) (fun _ => True) rfl rfl ?aO ?aD ?aF ?aR ?aB ?_; (case aO => exact HO3.out); (case aD => intro _; rw [cutAt_own (by have := QF.out; have := CV.out; have := HDL.out; omega), Nat.mul_one]); (case aF => have := QF.out; omega); (case aR => have h := (Kd.R_reads' HS3.out); have e := h.1; rw [e]; exact h.2.2); (case aB => exact HB3.out); intro w9 ho hb hg; have HO4 := Aside0.mk ho; have HP4 := Aside0.mk (Kd.R_over' HP3.out (Kd.R_typed HO3.out) (by decide) hg); have HB4 := Aside0.mk hb; clear ho hb hg HO3 HP3 HS3 HB3))
          go_roundg k1
          case measure => omega
          case rel =>
            have qq := QQ.out
            have hhi := HI.out
            have hn := HN.out
            have hln := HLN.out
            have hc2 := HC2.out
            have hil := HIL.out
            have e1 : ((rd_T49 ps i).f2.toNat : Int) = (rd_T49 ps i).f2 := Int.toNat_of_nonneg (by omega)
            have ho := HO4.out
            have hD := HDE.out
            have hS := HSE.out
            have hlen : (splice S (rd_T49 ps i).f1.toNat ((l2.drop off).take (rd_T49 ps i).f2.toNat)).length = 512 := by rw [length_splice _ _ _ (by rw [YN.out, HSL.out]; omega), HSL.out]
            rw [List.take_of_length_le (by rw [hlen]; have := QF.out; omega), hS, hD, put_step l0 l2 a1.toNat off (rd_T49 ps i).f2.toNat ((rd_T49 ps i).f0 * 512).toNat (rd_T49 ps i).f1.toNat (by omega) (by omega) QF.out (by omega) (by omega)] at ho
            have hC := C_cut HA.out (c := c2 - off) (by omega) (rd_T49 ps i).f2.toNat (l2.length - off - (rd_T49 ps i).f2.toNat) (by omega)
            rw [List.drop_drop, List.take_of_length_le (by rw [List.length_drop]; omega), Nat.sub_sub] at hC
            have hch := Q8.out
            rw [show a1 + (off : Int) + (rd_T49 ps i).f2 = a1 + ((off + (rd_T49 ps i).f2.toNat : Nat) : Int) by omega, show (l2.length : Int) - off - (rd_T49 ps i).f2 = l2.length - ((off + (rd_T49 ps i).f2.toNat : Nat) : Int) by omega, show i.toNat + 1 = (i + 1).toNat by omega] at hch
            exact ⟨i + 1, off + (rd_T49 ps i).f2.toNat, cutAt A (c2 - off) (rd_T49 ps i).f2.toNat 1, rfl, by rw [Nat.sub_sub, Nat.sub_sub], ⟨by omega, by omega, by omega, hch⟩, ⟨hC⟩, ⟨ho⟩, HP4, HB4⟩
    · rw [if_neg hn] at h
      rw [if_neg (fun x => hn ⟨x.1, x.2.2.1, x.2.2.2⟩)] at HS
      simp only [Option.some.injEq, Prod.mk.injEq] at h
      obtain ⟨rfl, rfl⟩ := h
      clear hn hsz hd
      go_enter Try.func19, Try.ntmps19
      go_wp2_with (first
        | (go_at_call 27; refine (block_stretch.calls _ _ _ _ _ _ _ HR0.out HC0.out HS.out).mono ?_; rintro e w' ⟨rfl, ⟨nd, rfl⟩⟩))
      go_ret2
      exact ⟨_, rfl, Kd.R_nil _ _ _ _ _, pw_below_drewN (Below.refl _ _) _⟩
  · rw [if_neg hd] at h HS
    simp only [Option.some.injEq, Prod.mk.injEq] at h
    obtain ⟨rfl, rfl⟩ := h
    clear hsz hd
    go_enter Try.func19, Try.ntmps19
    go_wp2_with (first
      | (go_at_call 27; refine (block_stretch.calls _ _ _ _ _ _ _ HR0.out HC0.out HS.out).mono ?_; rintro e w' ⟨rfl, ⟨nd, rfl⟩⟩))
    go_ret2
    exact ⟨_, rfl, Kd.R_nil _ _ _ _ _, pw_below_drewN (Below.refl _ _) _⟩
end Go.Proofs.Ytpjlhehmobhijaa.Q
