/- The walk of the law BlockThrough. -/
import Derived.Test.YtpjlhehmobhijaaHBlockRefs
import Derived.Test.YtpjlhehmobhijaaHAlive
import Derived.Test.YtpjlhehmobhijaaPureBlockPlans
namespace Go.Proofs.Ytpjlhehmobhijaa.Q
open Go.RowKit Go.Proofs.YtpjlhehmobhijaaW.PrintWords Go.Proofs.YtpjlhehmobhijaaW.PrintLast Go.Proofs.YtpjlhehmobhijaaW.PrintMore Go.Proofs.Ytpjlhehmobhijaa.Pure
/-- What holds of the disk, the held sector and the last sector read, ahead of act number i. -/
def Thru (d b : List Int) (at_ : Int) (L : List S28) (i : Nat) (D H : List Int) (last : Int) : Prop :=
  ∃ (off : Nat) (ps : List S49), off ≤ b.length ∧ D = splice d at_.toNat (b.take off) ∧ Chain (at_ + off) (b.length - off) ps ∧ (off = 0 ∨ (at_ + off) % 512 = 0 ∨ off = b.length) ∧
    ((L.drop i = actsOf ps ∧ (last < 0 ∨ H.length = 512)) ∨ ∃ p ps', ps = p :: ps' ∧ p.f2 < 512 ∧ L.drop i = ⟨true, p.f0⟩ :: actsOf ps' ∧ last = p.f0 ∧ H = (D.drop (p.f0 * 512).toNat).take 512)
def mixed (b : List Int) (at_ k : Int) (H : List Int) : List Int := (List.range 512).map fun q : Nat => if at_ ≤ 512 * k + (q : Int) ∧ 512 * k + (q : Int) < at_ + (b.length : Int) then rd b (512 * k + (q : Int) - at_) else rd H (q : Int)
theorem mixed_len (b : List Int) (at_ k : Int) (H : List Int) : (mixed b at_ k H).length = 512 := by simp [mixed]
theorem mixed_get (b : List Int) (at_ k : Int) (H : List Int) (q : Nat) (hq : q < 512) : (mixed b at_ k H)[q]? = some (if at_ ≤ 512 * k + q ∧ 512 * k + q < at_ + b.length then rd b (512 * k + q - at_) else rd H q) := by
  simp [mixed, hq]
theorem rd_get (H : List Int) (q : Nat) (h : q < H.length) : some (rd H (q : Int)) = H[q]? := by simp [rd, List.getD_eq_getElem?_getD, List.getElem?_eq_getElem h]
theorem mixed_piece (b : List Int) (at_ : Int) (off : Nat) (H : List Int) (p : S49) (hH : H.length = 512) (h1 : p.f0 * 512 + p.f1 = at_ + off) (h3 : 0 ≤ p.f1) (h4 : 0 < p.f2) (h5 : p.f2 ≤ b.length - off) (h6 : p.f1 + p.f2 ≤ 512) (h7 : p.f2 < b.length - off → p.f1 + p.f2 = 512) (h8 : off = 0 ∨ (at_ + off) % 512 = 0 ∨ off = b.length) :
    mixed b at_ p.f0 H = splice H p.f1.toNat ((b.drop off).take p.f2.toNat) := by
  have l1 : ((b.drop off).take p.f2.toNat).length = p.f2.toNat := by rw [List.length_take, List.length_drop]; omega
  apply List.ext_getElem?
  intro q
  by_cases hq : q < 512
  · rw [mixed_get _ _ _ _ _ hq, splice_get _ _ _ _ (by omega), l1]
    have hr : some (rd H q) = H[q]? := by simp [rd, List.getD_eq_getElem?_getD, List.getElem?_eq_getElem (show q < H.length by omega)]
    by_cases c1 : q < p.f1.toNat
    · rw [if_pos c1, if_neg (by omega), hr]
    · rw [if_neg c1]
      by_cases c2 : q < p.f1.toNat + p.f2.toNat
      · rw [if_pos c2, if_pos (by omega), List.getElem?_take, if_pos (by omega), List.getElem?_drop]
        have hi : off + (q - p.f1.toNat) < b.length := by omega
        rw [List.getElem?_eq_getElem hi]
        have e : (512 * p.f0 + (q : Int) - at_).toNat = off + (q - p.f1.toNat) := by omega
        simp [rd, List.getD_eq_getElem?_getD, e, List.getElem?_eq_getElem hi]
      · rw [if_neg c2, if_neg (by omega), hr]
  · rw [List.getElem?_eq_none (by rw [mixed_len]; omega), List.getElem?_eq_none (by rw [length_splice _ _ _ (by omega)]; omega)]
theorem mix_set (M H : List Int) (q : Nat) (hM : M.length = 512) (hH : H.length = 512) (hq : q < 512) (x : Int) (hx : M[q]? = some x) : (M.take q ++ H.drop q).set q x = M.take (q + 1) ++ H.drop (q + 1) := by
  have hx' : M[q]'(by omega) = x := by
    rw [List.getElem?_eq_getElem (by omega)] at hx
    exact Option.some.inj hx
  rw [List.set_append_right _ _ (by rw [List.length_take]; omega), List.length_take, show q - min q M.length = 0 by omega, List.drop_eq_getElem_cons (show q < H.length by omega), List.set_cons_zero, List.take_succ_eq_append_getElem (by omega), List.append_assoc, hx']
  rfl
theorem mix_keep (M H : List Int) (q : Nat) (hM : M.length = 512) (hH : H.length = 512) (hq : q < 512) (hx : M[q]? = H[q]?) : M.take q ++ H.drop q = M.take (q + 1) ++ H.drop (q + 1) := by
  have h2 : M[q]'(by omega) = H[q]'(by omega) := by
    rw [List.getElem?_eq_getElem (by omega), List.getElem?_eq_getElem (by omega)] at hx
    exact Option.some.inj hx
  rw [List.drop_eq_getElem_cons (show q < H.length by omega), List.take_succ_eq_append_getElem (by omega), List.append_assoc, h2]
  rfl
/-- The next act is a read. -/
theorem Thru.read {d b : List Int} {at_ : Int} {L : List S28} {i : Nat} {D H : List Int} {last : Int} (h : Thru d b at_ L i D H last) (hi : i < L.length) (hr : (L[i]'hi).f0 = false) (hat : 0 ≤ at_) (hin : at_ + b.length ≤ d.length) (hd : d.length % 512 = 0) :
    D.length = d.length ∧ 0 ≤ (L[i]'hi).f1 ∧ (L[i]'hi).f1 < d.length / 512 ∧ Thru d b at_ L (i + 1) D ((D.drop ((L[i]'hi).f1 * 512).toNat).take 512) (L[i]'hi).f1 := by
  obtain ⟨off, ps, h1, h2, h3, h4, h5⟩ := h
  have hl : D.length = d.length := by rw [h2]; exact length_splice _ _ _ (by rw [List.length_take]; omega)
  rw [List.drop_eq_getElem_cons hi] at h5
  rcases h5 with ⟨h5, h6⟩ | ⟨p, ps', _, _, h5, _⟩
  · cases ps with
    | nil => cases h5
    | cons p ps =>
      obtain ⟨⟨q1, q2, q3, q4, q5, q6⟩, q7, q8⟩ := h3.cons_inv
      simp only [actsOf] at h5
      by_cases hp : p.f2 < 512
      · rw [if_pos hp] at h5
        injection h5 with e1 e2
        rw [e1]
        refine ⟨hl, q2, by show p.f0 < _; omega, off, p :: ps, h1, h2, h3, h4, .inr ⟨p, ps, rfl, hp, e2, rfl, rfl⟩⟩
      · rw [if_neg hp] at h5
        injection h5 with e1 e2
        rw [e1] at hr
        cases hr
  · injection h5 with e1 e2
    rw [e1] at hr
    cases hr
/-- The next act is a write. -/
theorem Thru.write {d b : List Int} {at_ : Int} {L : List S28} {i : Nat} {D H : List Int} {last : Int} (h : Thru d b at_ L i D H last) (hi : i < L.length) (hr : (L[i]'hi).f0 = true) (hat : 0 ≤ at_) (hin : at_ + b.length ≤ d.length) (hd : d.length % 512 = 0) :
    D.length = d.length ∧ 0 ≤ (L[i]'hi).f1 ∧ (L[i]'hi).f1 < d.length / 512 ∧ (last = (L[i]'hi).f1 → H.length = 512) ∧
      ∀ H0 : List Int, H0.length = 512 → (last = (L[i]'hi).f1 → H0 = H) → ∀ H1 : List Int, H1 = mixed b at_ (L[i]'hi).f1 H0 → Thru d b at_ L (i + 1) (splice D (512 * (L[i]'hi).f1).toNat H1) H1 last := by
  obtain ⟨off, ps, h1, h2, h3, h4, h5⟩ := h
  have hl : D.length = d.length := by rw [h2]; exact length_splice _ _ _ (by rw [List.length_take]; omega)
  rw [List.drop_eq_getElem_cons hi] at h5
  obtain ⟨p, ps', rfl, e1, e2, hcase⟩ : ∃ p ps', ps = p :: ps' ∧ L[i] = ⟨true, p.f0⟩ ∧ L.drop (i + 1) = actsOf ps' ∧ ((512 ≤ p.f2 ∧ (last < 0 ∨ H.length = 512)) ∨ (p.f2 < 512 ∧ last = p.f0 ∧ H = (D.drop (p.f0 * 512).toNat).take 512)) := by
    rcases h5 with ⟨h5, h6⟩ | ⟨p, ps', h7, h8, h5, h9, h10⟩
    · cases ps with
      | nil => cases h5
      | cons p ps =>
        simp only [actsOf] at h5
        by_cases hp : p.f2 < 512
        · rw [if_pos hp] at h5
          injection h5 with e1 e2
          rw [e1] at hr
          cases hr
        · rw [if_neg hp] at h5
          injection h5 with e1 e2
          exact ⟨p, ps, rfl, e1, e2, .inl ⟨by omega, h6⟩⟩
    · injection h5 with e1 e2
      exact ⟨p, ps', h7, e1, e2, .inr ⟨h8, h9, h10⟩⟩
  obtain ⟨⟨q1, q2, q3, q4, q5, q6⟩, q7, q8⟩ := h3.cons_inv
  rw [e1]
  have hsec : ((D.drop (p.f0 * 512).toNat).take 512).length = 512 := by rw [List.length_take, List.length_drop]; omega
  refine ⟨hl, q2, by show p.f0 < _; omega, ?_, ?_⟩
  · intro hlast
    rcases hcase with ⟨_, h6 | h6⟩ | ⟨_, _, h6⟩
    · replace hlast : last = p.f0 := hlast
      omega
    · exact h6
    · rw [h6]; exact hsec
  · intro H0 hH0 hH0e H1 hH1
    have hmp := mixed_piece b at_ off H0 p hH0 q1 q3 q4 q5 q6 q7 h4
    have e3 : (512 * p.f0).toNat = (p.f0 * 512).toNat := by omega
    have hH1e : H1 = splice ((D.drop (p.f0 * 512).toNat).take 512) p.f1.toNat ((b.drop off).take p.f2.toNat) := by
      rw [hH1]
      show mixed b at_ p.f0 H0 = _
      rw [hmp]
      rcases hcase with ⟨h6, _⟩ | ⟨_, h6, h7⟩
      · have hf : p.f1.toNat = 0 ∧ p.f2.toNat = 512 := by omega
        have l1 : ((b.drop off).take p.f2.toNat).length = 512 := by rw [List.length_take, List.length_drop]; omega
        rw [hf.1]
        simp only [splice, List.take_zero, List.nil_append, Nat.zero_add]
        rw [l1, List.drop_eq_nil_of_le (show H0.length ≤ 512 by omega), List.drop_eq_nil_of_le (show ((D.drop (p.f0 * 512).toNat).take 512).length ≤ 512 by omega)]
      · rw [hH0e h6, h7]
    have hH1l : H1.length = 512 := by rw [hH1]; exact mixed_len _ _ _ _
    refine ⟨off + p.f2.toNat, ps', by omega, ?_, ?_, by omega, .inl ⟨e2, .inr hH1l⟩⟩
    · show splice D (512 * p.f0).toNat H1 = _
      rw [hH1e, e3, h2]
      exact put_step d b at_.toNat off p.f2.toNat (p.f0 * 512).toNat p.f1.toNat (by omega) (by omega) (by omega) (by omega) (by omega)
    · have a1 : at_ + (off : Int) + p.f2 = at_ + ((off + p.f2.toNat : Nat) : Int) := by omega
      have a2 : (b.length : Int) - off - p.f2 = b.length - ((off + p.f2.toNat : Nat) : Int) := by omega
      rw [a1, a2] at q8
      exact q8
theorem Thru.done {d b : List Int} {at_ : Int} {L : List S28} {i : Nat} {D H : List Int} {last : Int} (h : Thru d b at_ L i D H last) (hi : L.length ≤ i) : D = splice d at_.toNat b := by
  obtain ⟨off, ps, h1, h2, h3, h4, h5⟩ := h
  rw [List.drop_eq_nil_of_le hi] at h5
  rcases h5 with ⟨h5, _⟩ | ⟨p, ps', _, _, h5, _⟩
  · cases ps with
    | nil => have := h3.nil_inv; rw [h2, List.take_of_length_le (by omega)]
    | cons p ps => simp only [actsOf] at h5; split at h5 <;> cases h5
  · cases h5
theorem plan_acts (a n : Int) (K : Nat) (hK : 40000 ≤ K) (h : 0 ≤ a ∧ 0 ≤ n ∧ a ≤ 32768 ∧ n ≤ 32768 - a) : ∃ ps, block_Plan.f K a n = some (actsOf ps, 0) ∧ Chain a n ps ∧ (actsOf ps).length ≤ 100000 := by
  obtain ⟨k, rfl⟩ : ∃ m, K = m + 1 := ⟨K - 1, by omega⟩
  unfold block_Plan.f
  have e : wrap64 (32768 - a) = 32768 - a := by unfold wrap64; omega
  rw [if_neg (by omega), if_neg (by omega), if_neg (by omega), e, decide_eq_false (by omega)]
  simp only [block_Plan.j0]
  obtain ⟨ps, hp, hc, hl⟩ := pieces_chain k a n h.1 h.2.1 (by omega) (by omega)
  have hl2 := acts_len ps
  rw [if_neg (by decide), hp, Option.bind_some, plan_go ps ps.length k [] 0 (by omega) (by omega) (by omega) (by simp; omega) (by omega)]
  exact ⟨ps, by simp, hc, by omega⟩
theorem rd_T28_at (L : List S28) (i : Int) (h : i.toNat < L.length) : L[i.toNat]'h = rd_T28 L i := by simp [rd_T28, List.getD_eq_getElem?_getD, List.getElem?_eq_getElem h]
set_option linter.unusedSimpArgs false in
set_option maxHeartbeats 4000000 in
set_option maxRecDepth 100000 in
theorem blockThrough_walk (A0 : Option Addr) (c0 : Nat) (l0 : List Int) (at_ : Int) (A2 : Option Addr) (c2 : Nat) (l2 : List Int) (w : World) (hr0 : Kd.C (Kd.int .u8) w A0 l0.length l0) (hc0 : l0.length ≤ c0) (hl0 : l0.length ≤ 140737488351232) (hr2 : Kd.C (Kd.int .u8) w A2 l2.length l2) (hc2 : l2.length ≤ c2) :
    Calls Try.prog 5 #[.slice A0 l0.length c0, .int .i64 at_, .slice A2 l2.length c2] w fun e w' => e = .returned (.bool true) ∧ Below w.heap.size w w' := by
  obtain ⟨px, pe, hP, hcase⟩ : ∃ px pe, block_Put.f l0 at_ l2 = some (px, pe) ∧ ((pe ≠ 0 ∧ px = []) ∨ (pe = 0 ∧ px = splice l0 at_.toNat l2 ∧ diskB l0 = true ∧ 0 ≤ at_ ∧ at_ ≤ l0.length ∧ l2.length ≤ l0.length - at_)) := by
    unfold block_Put.f
    rw [if_pos hl0]
    split
    · split
      · rename_i h1 h2
        exact ⟨_, _, rfl, .inr ⟨rfl, rfl, h1, h2⟩⟩
      · exact ⟨_, _, rfl, .inl ⟨by decide, rfl⟩⟩
    · exact ⟨_, _, rfl, .inl ⟨by decide, rfl⟩⟩
  have HP := Aside0.mk hP
  have HR0 := Aside0.mk hr0
  have HC0 := Aside0.mk hc0
  have HR2 := Aside0.mk hr2
  have HC2 := Aside0.mk hc2
  clear hr0 hc0 hr2 hc2 hP
  rcases hcase with ⟨hpe, rfl⟩ | ⟨rfl, rfl, hd, hn⟩
  · have hne : (pe != 0) = true := by simp [hpe]
    clear hpe hl0
    go_enter Try.func5, Try.ntmps5
    go_wp2_with (first
      | (go_at_call 8; refine (tinderlaw20_alive.calls 10 true _ (alive20 10 (by omega))).mono ?_; rintro e w1 ⟨rfl, hb⟩; have HB := Aside0.mk (below_step (Below.refl _ _) hb); clear hb)
      | (go_at_call 19; refine (block_Put.calls _ _ _ _ _ _ _ _ _ _ (Kd.C_below HR0.out HB.out) HC0.out (Kd.C_below HR2.out HB.out) HC2.out HP.out).mono ?_; rintro e w5 ⟨vp, rfl, ho, hb⟩; obtain ⟨Avp, cvp, rfl⟩ := Kd.R_slice ho; have HB' := Aside0.mk (below_step HB.out hb); clear HB; have HB := HB'; clear HB'; clear ho hb))
    go_ret
    exact ⟨by first | rfl | (simp; done), HB.out⟩
  · have hln : l0.length % 512 = 0 ∧ l0.length ≤ 32768 := by simpa [diskB] using hd
    obtain ⟨ps, hps, hch, hL⟩ := plan_acts at_ l2.length 40000 (by omega) ⟨by omega, by omega, by omega, by omega⟩
    obtain ⟨L, hLe⟩ : ∃ L, L = actsOf ps := ⟨_, rfl⟩
    rw [← hLe] at hps hL
    have HT0 := Aside0.mk (show Thru l0 l2 at_ L 0 l0 [] (-1) from ⟨0, ps, by omega, by simp [splice], by simpa using hch, .inl rfl, .inl ⟨by rw [hLe]; rfl, .inl (by decide)⟩⟩)
    have HN := Aside0.mk hn
    have HD0 := Aside0.mk hd
    have HLN := Aside0.mk hln
    have HL := Aside0.mk hL
    have HPS := Aside0.mk hps
    clear hn hd hln hL hps hch hLe hl0 ps
    go_enter Try.func5, Try.ntmps5
    go_wp2_with (first
      | (go_at_call 8; refine (tinderlaw20_alive.calls 10 true _ (alive20 10 (by omega))).mono ?_; rintro e w1 ⟨rfl, hb⟩; have HB := Aside0.mk (below_step (Below.refl _ _) hb); clear hb)
      | (go_at_call 19; refine (block_Put.calls _ _ _ _ _ _ _ _ _ _ (Kd.C_below HR0.out HB.out) HC0.out (Kd.C_below HR2.out HB.out) HC2.out HP.out).mono ?_; rintro e w5 ⟨vp, rfl, ho, hb⟩; obtain ⟨Avp, cvp, rfl⟩ := Kd.R_slice ho; have HW := Aside0.mk (Kd.R_lower ho HB.out.size); have HB' := Aside0.mk (below_step HB.out hb); clear HB; have HB := HB'; clear HB'; clear ho hb)
      | (go_at_call 9; refine (block_Plan.calls _ _ _ _ _ _ HPS.out).mono ?_; rintro e w6 ⟨vl, rfl, ho, hb⟩; obtain ⟨Al, cl, rfl⟩ := Kd.R_slice ho; have HA := Aside0.mk (Kd.R_lower ho HB.out.size); have HW' := Aside0.mk (Kd.R_below HW.out hb); clear HW; have HW := HW'; clear HW'; have HB' := Aside0.mk (below_step HB.out hb); clear HB; have HB := HB'; clear HB'; clear ho hb))
    clear HP HPS
    go_loopg [11, 12, 13, 14] L.length (fun kq v11 v12 v13 v14 w' => ∃ (i : Int) (D H : List Int) (last : Int) (An : Option Addr) (cn : Nat) (Ah : Option Addr) (ch : Nat), v11 = .slice An l0.length cn ∧ v12 = .slice Ah H.length ch ∧ v13 = .int .i64 last ∧ v14 = .int .i64 i ∧ Aside0 (0 ≤ i ∧ i + kq = L.length ∧ D.length = l0.length ∧ l0.length ≤ cn) ∧ Aside0 (Thru l0 l2 at_ L i.toNat D H last) ∧ Aside0 (Kd.F (Kd.int .u8) w' (fun k => some k ≠ (Value.slice Ah H.length ch).ownBlock) An l0.length D) ∧ Aside0 (Kd.R (Kd.int .u8) 5 w' w.heap.size (fun _ => True) (.slice Ah H.length ch) H) ∧ Aside0 (Kd.R (Kd.int .u8) 5 w' w.heap.size (fun _ => True) (.slice Avp (splice l0 at_.toNat l2).length cvp) (splice l0 at_.toNat l2)) ∧ Aside0 (Kd.R k28 28 w' w.heap.size (fun _ => True) (.slice Al L.length cl) L) ∧ Aside0 (∀ k, (Value.slice Ah H.length ch).ownBlock = some k → some k ≠ (Value.slice Al L.length cl).ownBlock ∧ some k ≠ (Value.slice Avp (splice l0 at_.toNat l2).length cvp).ownBlock) ∧ Aside0 (Below w.heap.size w w'))
    case atStart =>
      refine ⟨0, l0, [], -1, A0, c0, none, 0, rfl, rfl, rfl, rfl, ⟨by omega, by omega, rfl, HC0.out⟩, HT0, ⟨?_⟩, ⟨Kd.R_nil _ _ _ _ _⟩, HW, HA, ⟨by intro k hk; simp [Value.ownBlock] at hk⟩, HB⟩
      exact Kd.F_mono (Kd.F_below (Kd.C_F (Kd.heap_int .u8) HR0.out) HB.out) (fun k _ => by simp [Value.ownBlock])
    case round =>
      clear HT0 HW HA HB
      obtain ⟨i, D, H, last, An, cn, Ah, ch, rfl, rfl, rfl, rfl, HI, HT, HD, HH, HW, HA, HX, HB⟩ := hrel
      cases gk with
      | zero =>
        have hlt : decide (i < (L.length : Int)) = false := decide_eq_false (by have := HI.out; omega)
        have hDe := HT.out.done (by have := HI.out; omega)
        have HSame := Aside0.mk (show ∀ W : World, Kd.C (Kd.int .u8) W An l0.length D → Kd.C (Kd.int .u8) W Avp (splice l0 at_.toNat l2).length (splice l0 at_.toNat l2) → Calls Try.prog 16 #[.slice An l0.length cn, .slice Avp (splice l0 at_.toNat l2).length cvp] W (fun e w' => e = .returned (.bool true) ∧ Drawn0 W w') from fun W h1 h2 => by
          have hi := HI.out
          rw [← hi.2.2.1] at h1 ⊢
          exact tinderref04_Same.calls _ _ _ _ _ _ true _ h1 (by omega) h2 (Kd.R_reads' HW.out).2.1 (by rw [hDe]; exact ref04_Same_self _))
        clear hDe
        go_wp2_with (first
          | (go_at_call 16; refine (HSame.out _ (Kd.C_drewN (Kd.F_now HD.out) _) (Kd.C_drewN (Kd.R_reads' HW.out).2.2 _)).mono ?_; rintro e w' ⟨rfl, ⟨nd, rfl⟩⟩)
          | (go_at_call 16; refine (HSame.out _ (Kd.F_now HD.out) (Kd.R_reads' HW.out).2.2).mono ?_; rintro e w' ⟨rfl, ⟨nd, rfl⟩⟩))
        go_ret
        exact ⟨rfl, pw_below_drewN HB.out _⟩
      | succ k1 =>
        have hi := HI.out
        have hn := HN.out
        have hln := HLN.out
        have hLL := HL.out
        have hil : i.toNat < L.length := by omega
        have hrd := rd_T28_at L i hil
        obtain ⟨adp, ep, hx0, hx1⟩ := at_T28 (Kd.R_reads' HA.out).2.2 i (by omega) (by omega)
        cases ep
        have p1 : (0 ≤ i) = True := eq_true (by omega)
        have p2 : (i < (L.length : Int)) = True := eq_true (by omega)
        have hlt : decide (i < (L.length : Int)) = true := decide_eq_true (by omega)
        have hwr : IntKind.i64.wrap (i + 1) = i + 1 := (i64_w _).trans (by unfold wrap64; omega)
        have e1 : i.toNat + 1 = (i + 1).toNat := by omega
        have hDd : diskB D = true := by have := HD0.out; simp only [diskB, hi.2.2.1] at this ⊢; exact this
        by_cases hr : (rd_T28 L i).f0 = true
        · obtain ⟨hl1, hk0, hk1, hH5, hT1⟩ := HT.out.write hil (by rw [hrd]; exact hr) (by omega) (by omega) (by omega)
          rw [hrd] at hk0 hk1 hH5 hT1
          rw [e1] at hT1
          have HT1 := Aside0.mk hT1
          have HK0 := Aside0.mk hk0
          have HK1 := Aside0.mk hk1
          have HH5 := Aside0.mk hH5
          have HI1 := Aside0.mk hi
          have HDd := Aside0.mk hDd
          have HLK := Aside0.mk (Kd.R_lt HH.out)
          clear hi hn hln hLL hil hrd e1 hDd hl1 hk0 hk1 hT1 hH5
          by_cases hlk : last = (rd_T28 L i).f1
          · have hne : (last != (rd_T28 L i).f1) = false := by simp [hlk]
            have h5 := HH5.out hlk
            obtain ⟨g, cg, eg, -, -, -⟩ := Kd.R_form HH.out (by omega)
            injection eg with eg1 eg2 eg3
            subst eg1
            subst eg3
            clear eg2 hlk
            have HL5 := Aside0.mk h5
            clear h5
            go_upto_region 23 with (fail)
            have hX := HX.out g rfl
            obtain ⟨H0, hH0⟩ : ∃ H0, H0 = H := ⟨_, rfl⟩
            obtain ⟨c, hc⟩ : ∃ c, c = ch := ⟨_, rfl⟩
            have HH0 := Aside0.mk (show H0.length = 512 ∧ (last = (rd_T28 L i).f1 → H0 = H) from ⟨by rw [hH0]; exact HL5.out, fun _ => hH0⟩)
            have HD' := Aside0.mk (show Kd.F (Kd.int .u8) _ (fun k => k ≠ g) An l0.length D from Kd.F_mono HD.out (fun k hk e => by subst e; exact hk rfl))
            have HH' := Aside0.mk (show Kd.R (Kd.int .u8) 5 _ w.heap.size (fun _ => True) (.slice (some ⟨g, 0, none⟩) 512 c) H0 from by have h := HH.out; rw [HL5.out] at h; rw [hc, hH0]; exact h)
            have HXG := Aside0.mk (show (∀ k, (Value.slice (some adp) L.length cl).ownBlock = some k → k ≠ g) ∧ (∀ k, (Value.slice Avp (splice l0 at_.toNat l2).length cvp).ownBlock = some k → k ≠ g) from ⟨fun k hk e => by subst e; exact hX.1 hk.symm, fun k hk e => by subst e; exact hX.2 hk.symm⟩)
            rw [show H.length = 512 from HL5.out, ← hc]
            clear HD HH HX hX hc hH0
            have HD := HD'
            have HH := HH'
            clear HD' HH'
            obtain ⟨M, hM⟩ : ∃ M, M = mixed l2 at_ (rd_T28 L i).f1 H0 := ⟨_, rfl⟩
            have HM := Aside0.mk (show M.length = 512 ∧ M = mixed l2 at_ (rd_T28 L i).f1 H0 from ⟨by rw [hM]; exact mixed_len _ _ _ _, hM⟩)
            clear hM
            go_wp2
            go_loopg [16] 512 (fun kq v16 w' => ∃ p : Int, v16 = .int .i64 p ∧ Aside0 (0 ≤ p ∧ p + kq = 512) ∧ Aside0 (Kd.F (Kd.int .u8) w' (fun k => k ≠ g) An l0.length D) ∧ Aside0 (Kd.R (Kd.int .u8) 5 w' w.heap.size (fun _ => True) (.slice (some ⟨g, 0, none⟩) 512 c) (M.take p.toNat ++ H0.drop p.toNat)) ∧ Aside0 (Kd.R (Kd.int .u8) 5 w' w.heap.size (fun _ => True) (.slice Avp (splice l0 at_.toNat l2).length cvp) (splice l0 at_.toNat l2)) ∧ Aside0 (Kd.R k28 28 w' w.heap.size (fun _ => True) (.slice (some adp) L.length cl) L) ∧ Aside0 (Below w.heap.size w w'))
            case atStart => exact ⟨0, rfl, ⟨by omega, by omega⟩, HD, ⟨by simpa using HH.out⟩, HW, HA, HB⟩
            case round =>
              clear HD HH HW HA HB
              obtain ⟨p, rfl, HPR, HD, HH, HW, HA, HB⟩ := hrel
              cases gk with
              | zero =>
                have hlt2 : decide (p < 512) = false := decide_eq_false (by have := HPR.out; omega)
                have HHM := Aside0.mk (show Kd.R (Kd.int .u8) 5 _ w.heap.size (fun _ => True) (.slice (some ⟨g, 0, none⟩) 512 c) M from by
                  have h := HH.out
                  rw [List.drop_eq_nil_of_le (by have := HH0.out; have := HPR.out; omega), List.take_of_length_le (by have := HM.out; have := HPR.out; omega), List.append_nil] at h
                  exact h)
                have hi := HI1.out
                have hDl := hi.2.2.1
                have HWr := Aside0.mk (show ∀ W : World, Kd.C (Kd.int .u8) W An l0.length D → Kd.C (Kd.int .u8) W (some ⟨g, 0, none⟩) 512 M → Calls Try.prog 14 #[.slice An l0.length cn, .int .i64 (rd_T28 L i).f1, .slice (some ⟨g, 0, none⟩) 512 c] W (fun e w' => ∃ v0_ : Value, e = .returned (.tuple #[v0_, .int .i64 0]) ∧ Kd.R (Kd.int .u8) 5 w' W.heap.size (fun _ => True) v0_ (splice D (512 * (rd_T28 L i).f1).toNat M) ∧ Below W.heap.size W w') from fun W h1 h2 => by
                  have hm := HM.out.1
                  have hln := HLN.out
                  have hc := (Kd.R_reads' HHM.out).2.1
                  have hwf : block_Write.f D (rd_T28 L i).f1 M = some (splice D (512 * (rd_T28 L i).f1).toNat M, 0) := by
                    unfold block_Write.f
                    rw [if_pos (by omega), if_pos ⟨HDd.out, hm⟩, if_pos (by have := HK0.out; have := HK1.out; omega)]
                  rw [← hDl] at h1 ⊢
                  rw [← hm] at h2 hc ⊢
                  exact block_Write.calls _ _ _ _ _ _ _ _ _ _ h1 (by omega) h2 (by omega) hwf)
                have HLG := Aside0.mk (Kd.R_lt HH.out)
                clear HH hi hDl
                go_wp2_with (first
                  | (go_at_call 14; refine (HWr.out _ (Kd.F_now HD.out) (by have h := Kd.R_reads' HHM.out; have hm := HM.out.1; rw [hm] at h; exact h.2.2)).mono ?_; rintro e w9 ⟨v, rfl, ho, hb⟩; obtain ⟨Aw, cw, rfl⟩ := Kd.R_slice ho; have HR9 := Aside0.mk ho; have HB9 := Aside0.mk hb; have HHM9 := Aside0.mk (Kd.R_below HHM.out hb); have HW9 := Aside0.mk (Kd.R_below HW.out hb); have HA9 := Aside0.mk (Kd.R_below HA.out hb); have HB2 := Aside0.mk (below_step HB.out hb); clear HHM HW HA HB HD ho hb))
                go_roundg k1
                case measure => omega
                case rel =>
                  have hi := HI1.out
                  have hm := HM.out.1
                  have hk1 := HK1.out
                  have hk0 := HK0.out
                  have hln := HLN.out
                  have hlen : (splice D (512 * (rd_T28 L i).f1).toNat M).length = l0.length := by rw [length_splice _ _ _ (by omega)]; exact hi.2.2.1
                  have hc := (Kd.R_reads' HR9.out).2.1
                  have hTn := HT1.out H0 HH0.out.1 HH0.out.2 M HM.out.2
                  refine ⟨i + 1, splice D (512 * (rd_T28 L i).f1).toNat M, M, last, Aw, cw, some ⟨g, 0, none⟩, c, by rw [hlen], by rw [hm], rfl, rfl, ⟨by omega, by omega, hlen, by omega⟩, ⟨hTn⟩, ⟨?_⟩, ⟨by rw [hm]; exact HHM9.out⟩, HW9, HA9, ⟨fun k hk => ⟨fun e => HXG.out.1 k e.symm (Option.some.inj hk).symm, fun e => HXG.out.2 k e.symm (Option.some.inj hk).symm⟩⟩, HB2⟩
                  have h := Kd.R_F (Kd.R_tight rfl HR9.out)
                  rw [hlen] at h
                  refine Kd.F_mono h (fun k hk e => ?_)
                  have h1 := Kd.R_base HR9.out k (by rw [hlen]; exact hk.symm)
                  have h2 := HLG.out g rfl
                  have h3 : k = g := Option.some.inj e
                  omega
              | succ k2 =>
                have hp := HPR.out
                have hk := HK0.out
                have hk1 := HK1.out
                have hln := HLN.out
                have hn := HN.out
                have hlt2 : decide (p < 512) = true := decide_eq_true (by omega)
                have hw0 : IntKind.i64.wrap (p + 1) = p + 1 := (i64_w _).trans (by unfold wrap64; omega)
                have hw1 : IntKind.i64.wrap (512 * (rd_T28 L i).f1) = 512 * (rd_T28 L i).f1 := (i64_w _).trans (by unfold wrap64; omega)
                have hw2 : IntKind.i64.wrap (512 * (rd_T28 L i).f1 + p) = 512 * (rd_T28 L i).f1 + p := (i64_w _).trans (by unfold wrap64; omega)
                have hw3 : IntKind.i64.wrap (at_ + (l2.length : Int)) = at_ + (l2.length : Int) := (i64_w _).trans (by unfold wrap64; omega)
                have e2 : p.toNat + 1 = (p + 1).toNat := by omega
                by_cases cA : at_ ≤ 512 * (rd_T28 L i).f1 + p
                · have d1 : decide (at_ ≤ 512 * (rd_T28 L i).f1 + p) = true := decide_eq_true cA
                  by_cases cB : 512 * (rd_T28 L i).f1 + p < at_ + (l2.length : Int)
                  · have d2 : decide (512 * (rd_T28 L i).f1 + p < at_ + (l2.length : Int)) = true := decide_eq_true cB
                    obtain ⟨J, hJ⟩ : ∃ J, J = 512 * (rd_T28 L i).f1 + p - at_ := ⟨_, rfl⟩
                    have hw4 : IntKind.i64.wrap (512 * (rd_T28 L i).f1 + p - at_) = J := (i64_w _).trans (by unfold wrap64; omega)
                    obtain ⟨ad2, ea2, hy0⟩ := Kd.at_int (Kd.C_below HR2.out HB.out) J (by omega) (by omega)
                    have hms := mix_set M H0 p.toNat HM.out.1 HH0.out.1 (by omega) (rd l2 J) (by rw [HM.out.2, mixed_get _ _ _ _ _ (by omega), if_pos (by omega)]; rw [hJ]; congr 2; omega)
                    rw [e2] at hms
                    have HMS := Aside0.mk hms
                    have pJ1 : (0 ≤ J) = True := eq_true (by omega)
                    have pJ2 : (J < (l2.length : Int)) = True := eq_true (by omega)
                    have pp1 : (0 ≤ p) = True := eq_true (by omega)
                    have pp2 : (p < 512) = True := eq_true (by omega)
                    obtain ⟨hx37, hf37⟩ := Kd.R_celln 0 HH.out p (by omega) (by omega)
                    have GB := Aside0.mk (Kd.R_base HH.out g rfl)
                    have HP := Aside0.mk (fun x : Int => Kd.R_putn HH.out p x)
                    cases ea2
                    clear e2 hms hp hk hk1 hln hn cA cB hJ
                    go_wp2
                    go_roundg k2
                    case measure => omega
                    case rel =>
                      have hp := HPR.out
                      exact ⟨p + 1, rfl, ⟨by omega, by omega⟩, ⟨Kd.F_far HD.out (fun k hk => hk) _⟩, ⟨by have h := Kd.R_putn HH.out p (rd l2 J); rw [HMS.out] at h; exact h⟩, ⟨R_flat_put rfl HW.out HXG.out.2⟩, ⟨R_flat_put rfl HA.out HXG.out.1⟩, ⟨below_set HB.out GB.out⟩⟩
                  · have d2 : decide (512 * (rd_T28 L i).f1 + p < at_ + (l2.length : Int)) = false := decide_eq_false cB
                    have hmk := mix_keep M H0 p.toNat HM.out.1 HH0.out.1 (by omega) (by rw [HM.out.2, mixed_get _ _ _ _ _ (by omega), if_neg (by omega)]; exact rd_get H0 p.toNat (by have := HH0.out; omega))
                    rw [e2] at hmk
                    have HMK := Aside0.mk hmk
                    clear hmk e2 hp cA cB hk
                    go_wp2
                    go_roundg k2
                    case measure => omega
                    case rel =>
                      have hp := HPR.out
                      exact ⟨p + 1, rfl, ⟨by omega, by omega⟩, ⟨HD.out⟩, ⟨by have h := HH.out; rw [HMK.out] at h; exact h⟩, ⟨HW.out⟩, ⟨HA.out⟩, ⟨HB.out⟩⟩
                · have d1 : decide (at_ ≤ 512 * (rd_T28 L i).f1 + p) = false := decide_eq_false cA
                  have cB := cA
                  have hmk := mix_keep M H0 p.toNat HM.out.1 HH0.out.1 (by omega) (by rw [HM.out.2, mixed_get _ _ _ _ _ (by omega), if_neg (by omega)]; exact rd_get H0 p.toNat (by have := HH0.out; omega))
                  rw [e2] at hmk
                  have HMK := Aside0.mk hmk
                  clear hmk e2 hp cA cB hk
                  go_wp2
                  go_roundg k2
                  case measure => omega
                  case rel =>
                    have hp := HPR.out
                    exact ⟨p + 1, rfl, ⟨by omega, by omega⟩, ⟨HD.out⟩, ⟨by have h := HH.out; rw [HMK.out] at h; exact h⟩, ⟨HW.out⟩, ⟨HA.out⟩, ⟨HB.out⟩⟩
          · have hne : (last != (rd_T28 L i).f1) = true := by simp [hlk]
            have HLK2 := Aside0.mk hlk
            have HLA := Aside0.mk (Kd.R_lt HA.out)
            have HLW := Aside0.mk (Kd.R_lt HW.out)
            clear hlk
            go_upto_region 23 with (first
              | ((with_reducible refine gate_dst (N := 70) rfl ?_); refine Kd.R_make (Kd.int .u8) w.heap.size 5 rfl (N := 70) rfl 30 _ _ rfl 512 rfl rfl Try.underlying30 (.int .u8 0) 1 info5 rfl (by decide) (by omega) 0 (ok := fun _ => True) (okp := fun _ => True) rfl (fun _ hk => hk) trivial (by omega) (by omega) HB.out HB.out.size ?_; intro vn w12 ho hb hg hnew; obtain ⟨Am, cm, rfl⟩ := Kd.R_slice ho; have HM2 := Aside0.mk ho; have HB2 := Aside0.mk hb; have HG2 := Aside0.mk hg; have HNW := Aside0.mk hnew; clear ho hb hg hnew))
            obtain ⟨gm, c', em, -, -, -⟩ := Kd.R_form HM2.out (by simp)
            injection em with em1 em2 em3
            subst em1
            subst em3
            clear em2
            obtain ⟨g, hb1, hb2⟩ := HNW.out
            obtain rfl : gm = g := Option.some.inj hb1
            have hlr : (List.replicate (512 : Int).toNat (0 : Int)).length = 512 := by simp
            obtain ⟨H0, hH0⟩ : ∃ H0 : List Int, H0 = List.replicate (512 : Int).toNat 0 := ⟨_, rfl⟩
            have HH0 := Aside0.mk (show H0.length = 512 ∧ (last = (rd_T28 L i).f1 → H0 = H) from ⟨by rw [hH0]; exact hlr, fun h => absurd h HLK2.out⟩)
            have HD' := Aside0.mk (show Kd.F (Kd.int .u8) _ (fun k => k ≠ gm) An l0.length D from Kd.F_mono (Kd.F_grown (Kd.F_bound HD.out) HG2.out (fun k hk => by simp)) (fun k hk e => by have := hk.2; omega))
            have HHn := Aside0.mk (show Kd.R (Kd.int .u8) 5 _ w.heap.size (fun _ => True) (.slice (some ⟨gm, 0, none⟩) 512 cm) H0 from by have h := HM2.out; rw [hlr] at h; rw [hH0]; exact h)
            have HXG := Aside0.mk (show (∀ k, (Value.slice (some adp) L.length cl).ownBlock = some k → k ≠ gm) ∧ (∀ k, (Value.slice Avp (splice l0 at_.toNat l2).length cvp).ownBlock = some k → k ≠ gm) from ⟨fun k hk e => by have := HLA.out k hk; omega, fun k hk e => by have := HLW.out k hk; omega⟩)
            have HWn := Aside0.mk (R_flat_grown rfl HW.out HG2.out (fun k _ => by simp))
            have HAn := Aside0.mk (R_flat_grown rfl HA.out HG2.out (fun k _ => by simp))
            clear HD HH HX hH0 hlr HM2 HW HA HB HNW hb1 hb2 HLA HLW HG2
            have HD := HD'
            have HH := HHn
            have HW := HWn
            have HA := HAn
            have HB := HB2
            clear HD' HHn HWn HAn HB2
            obtain ⟨M, hM⟩ : ∃ M, M = mixed l2 at_ (rd_T28 L i).f1 H0 := ⟨_, rfl⟩
            have HM := Aside0.mk (show M.length = 512 ∧ M = mixed l2 at_ (rd_T28 L i).f1 H0 from ⟨by rw [hM]; exact mixed_len _ _ _ _, hM⟩)
            clear hM
            go_wp2
            go_loopg [16] 512 (fun kq v16 w' => ∃ p : Int, v16 = .int .i64 p ∧ Aside0 (0 ≤ p ∧ p + kq = 512) ∧ Aside0 (Kd.F (Kd.int .u8) w' (fun k => k ≠ gm) An l0.length D) ∧ Aside0 (Kd.R (Kd.int .u8) 5 w' w.heap.size (fun _ => True) (.slice (some ⟨gm, 0, none⟩) 512 cm) (M.take p.toNat ++ H0.drop p.toNat)) ∧ Aside0 (Kd.R (Kd.int .u8) 5 w' w.heap.size (fun _ => True) (.slice Avp (splice l0 at_.toNat l2).length cvp) (splice l0 at_.toNat l2)) ∧ Aside0 (Kd.R k28 28 w' w.heap.size (fun _ => True) (.slice (some adp) L.length cl) L) ∧ Aside0 (Below w.heap.size w w'))
            case atStart => exact ⟨0, rfl, ⟨by omega, by omega⟩, HD, ⟨by simpa using HH.out⟩, HW, HA, HB⟩
            case round =>
              clear HD HH HW HA HB
              obtain ⟨p, rfl, HPR, HD, HH, HW, HA, HB⟩ := hrel
              cases gk with
              | zero =>
                have hlt2 : decide (p < 512) = false := decide_eq_false (by have := HPR.out; omega)
                have HHM := Aside0.mk (show Kd.R (Kd.int .u8) 5 _ w.heap.size (fun _ => True) (.slice (some ⟨gm, 0, none⟩) 512 cm) M from by
                  have h := HH.out
                  rw [List.drop_eq_nil_of_le (by have := HH0.out; have := HPR.out; omega), List.take_of_length_le (by have := HM.out; have := HPR.out; omega), List.append_nil] at h
                  exact h)
                have hi := HI1.out
                have hDl := hi.2.2.1
                have HWr := Aside0.mk (show ∀ W : World, Kd.C (Kd.int .u8) W An l0.length D → Kd.C (Kd.int .u8) W (some ⟨gm, 0, none⟩) 512 M → Calls Try.prog 14 #[.slice An l0.length cn, .int .i64 (rd_T28 L i).f1, .slice (some ⟨gm, 0, none⟩) 512 cm] W (fun e w' => ∃ v0_ : Value, e = .returned (.tuple #[v0_, .int .i64 0]) ∧ Kd.R (Kd.int .u8) 5 w' W.heap.size (fun _ => True) v0_ (splice D (512 * (rd_T28 L i).f1).toNat M) ∧ Below W.heap.size W w') from fun W h1 h2 => by
                  have hm := HM.out.1
                  have hln := HLN.out
                  have hc := (Kd.R_reads' HHM.out).2.1
                  have hwf : block_Write.f D (rd_T28 L i).f1 M = some (splice D (512 * (rd_T28 L i).f1).toNat M, 0) := by
                    unfold block_Write.f
                    rw [if_pos (by omega), if_pos ⟨HDd.out, hm⟩, if_pos (by have := HK0.out; have := HK1.out; omega)]
                  rw [← hDl] at h1 ⊢
                  rw [← hm] at h2 hc ⊢
                  exact block_Write.calls _ _ _ _ _ _ _ _ _ _ h1 (by omega) h2 (by omega) hwf)
                have HLG := Aside0.mk (Kd.R_lt HH.out)
                clear HH hi hDl
                go_wp2_with (first
                  | (go_at_call 14; refine (HWr.out _ (Kd.F_now HD.out) (by have h := Kd.R_reads' HHM.out; have hm := HM.out.1; rw [hm] at h; exact h.2.2)).mono ?_; rintro e w9 ⟨v, rfl, ho, hb⟩; obtain ⟨Aw, cw, rfl⟩ := Kd.R_slice ho; have HR9 := Aside0.mk ho; have HB9 := Aside0.mk hb; have HHM9 := Aside0.mk (Kd.R_below HHM.out hb); have HW9 := Aside0.mk (Kd.R_below HW.out hb); have HA9 := Aside0.mk (Kd.R_below HA.out hb); have HB2 := Aside0.mk (below_step HB.out hb); clear HHM HW HA HB HD ho hb))
                go_roundg k1
                case measure => omega
                case rel =>
                  have hi := HI1.out
                  have hm := HM.out.1
                  have hk1 := HK1.out
                  have hk0 := HK0.out
                  have hln := HLN.out
                  have hlen : (splice D (512 * (rd_T28 L i).f1).toNat M).length = l0.length := by rw [length_splice _ _ _ (by omega)]; exact hi.2.2.1
                  have hc := (Kd.R_reads' HR9.out).2.1
                  have hTn := HT1.out H0 HH0.out.1 HH0.out.2 M HM.out.2
                  refine ⟨i + 1, splice D (512 * (rd_T28 L i).f1).toNat M, M, last, Aw, cw, some ⟨gm, 0, none⟩, cm, by rw [hlen], by rw [hm], rfl, rfl, ⟨by omega, by omega, hlen, by omega⟩, ⟨hTn⟩, ⟨?_⟩, ⟨by rw [hm]; exact HHM9.out⟩, HW9, HA9, ⟨fun k hk => ⟨fun e => HXG.out.1 k e.symm (Option.some.inj hk).symm, fun e => HXG.out.2 k e.symm (Option.some.inj hk).symm⟩⟩, HB2⟩
                  have h := Kd.R_F (Kd.R_tight rfl HR9.out)
                  rw [hlen] at h
                  refine Kd.F_mono h (fun k hk e => ?_)
                  have h1 := Kd.R_base HR9.out k (by rw [hlen]; exact hk.symm)
                  have h2 := HLG.out gm rfl
                  have h3 : k = gm := Option.some.inj e
                  omega
              | succ k2 =>
                have hp := HPR.out
                have hk := HK0.out
                have hk1 := HK1.out
                have hln := HLN.out
                have hn := HN.out
                have hlt2 : decide (p < 512) = true := decide_eq_true (by omega)
                have hw0 : IntKind.i64.wrap (p + 1) = p + 1 := (i64_w _).trans (by unfold wrap64; omega)
                have hw1 : IntKind.i64.wrap (512 * (rd_T28 L i).f1) = 512 * (rd_T28 L i).f1 := (i64_w _).trans (by unfold wrap64; omega)
                have hw2 : IntKind.i64.wrap (512 * (rd_T28 L i).f1 + p) = 512 * (rd_T28 L i).f1 + p := (i64_w _).trans (by unfold wrap64; omega)
                have hw3 : IntKind.i64.wrap (at_ + (l2.length : Int)) = at_ + (l2.length : Int) := (i64_w _).trans (by unfold wrap64; omega)
                have e2 : p.toNat + 1 = (p + 1).toNat := by omega
                by_cases cA : at_ ≤ 512 * (rd_T28 L i).f1 + p
                · have d1 : decide (at_ ≤ 512 * (rd_T28 L i).f1 + p) = true := decide_eq_true cA
                  by_cases cB : 512 * (rd_T28 L i).f1 + p < at_ + (l2.length : Int)
                  · have d2 : decide (512 * (rd_T28 L i).f1 + p < at_ + (l2.length : Int)) = true := decide_eq_true cB
                    obtain ⟨J, hJ⟩ : ∃ J, J = 512 * (rd_T28 L i).f1 + p - at_ := ⟨_, rfl⟩
                    have hw4 : IntKind.i64.wrap (512 * (rd_T28 L i).f1 + p - at_) = J := (i64_w _).trans (by unfold wrap64; omega)
                    obtain ⟨ad2, ea2, hy0⟩ := Kd.at_int (Kd.C_below HR2.out HB.out) J (by omega) (by omega)
                    have hms := mix_set M H0 p.toNat HM.out.1 HH0.out.1 (by omega) (rd l2 J) (by rw [HM.out.2, mixed_get _ _ _ _ _ (by omega), if_pos (by omega)]; rw [hJ]; congr 2; omega)
                    rw [e2] at hms
                    have HMS := Aside0.mk hms
                    have pJ1 : (0 ≤ J) = True := eq_true (by omega)
                    have pJ2 : (J < (l2.length : Int)) = True := eq_true (by omega)
                    have pp1 : (0 ≤ p) = True := eq_true (by omega)
                    have pp2 : (p < 512) = True := eq_true (by omega)
                    obtain ⟨hx37, hf37⟩ := Kd.R_celln 0 HH.out p (by omega) (by omega)
                    have GB := Aside0.mk (Kd.R_base HH.out gm rfl)
                    have HP := Aside0.mk (fun x : Int => Kd.R_putn HH.out p x)
                    cases ea2
                    clear e2 hms hp hk hk1 hln hn cA cB hJ
                    go_wp2
                    go_roundg k2
                    case measure => omega
                    case rel =>
                      have hp := HPR.out
                      exact ⟨p + 1, rfl, ⟨by omega, by omega⟩, ⟨Kd.F_far HD.out (fun k hk => hk) _⟩, ⟨by have h := Kd.R_putn HH.out p (rd l2 J); rw [HMS.out] at h; exact h⟩, ⟨R_flat_put rfl HW.out HXG.out.2⟩, ⟨R_flat_put rfl HA.out HXG.out.1⟩, ⟨below_set HB.out GB.out⟩⟩
                  · have d2 : decide (512 * (rd_T28 L i).f1 + p < at_ + (l2.length : Int)) = false := decide_eq_false cB
                    have hmk := mix_keep M H0 p.toNat HM.out.1 HH0.out.1 (by omega) (by rw [HM.out.2, mixed_get _ _ _ _ _ (by omega), if_neg (by omega)]; exact rd_get H0 p.toNat (by have := HH0.out; omega))
                    rw [e2] at hmk
                    have HMK := Aside0.mk hmk
                    clear hmk e2 hp cA cB hk
                    go_wp2
                    go_roundg k2
                    case measure => omega
                    case rel =>
                      have hp := HPR.out
                      exact ⟨p + 1, rfl, ⟨by omega, by omega⟩, ⟨HD.out⟩, ⟨by have h := HH.out; rw [HMK.out] at h; exact h⟩, ⟨HW.out⟩, ⟨HA.out⟩, ⟨HB.out⟩⟩
                · have d1 : decide (at_ ≤ 512 * (rd_T28 L i).f1 + p) = false := decide_eq_false cA
                  have cB := cA
                  have hmk := mix_keep M H0 p.toNat HM.out.1 HH0.out.1 (by omega) (by rw [HM.out.2, mixed_get _ _ _ _ _ (by omega), if_neg (by omega)]; exact rd_get H0 p.toNat (by have := HH0.out; omega))
                  rw [e2] at hmk
                  have HMK := Aside0.mk hmk
                  clear hmk e2 hp cA cB hk
                  go_wp2
                  go_roundg k2
                  case measure => omega
                  case rel =>
                    have hp := HPR.out
                    exact ⟨p + 1, rfl, ⟨by omega, by omega⟩, ⟨HD.out⟩, ⟨by have h := HH.out; rw [HMK.out] at h; exact h⟩, ⟨HW.out⟩, ⟨HA.out⟩, ⟨HB.out⟩⟩
        · replace hr := Bool.eq_false_iff.mpr hr
          obtain ⟨hl1, hk0, hk1, hT1⟩ := HT.out.read hil (by rw [hrd]; exact hr) (by omega) (by omega) (by omega)
          rw [hrd] at hk0 hk1 hT1
          rw [e1] at hT1
          obtain ⟨S, hS⟩ : ∃ S, S = (D.drop ((rd_T28 L i).f1 * 512).toNat).take 512 := ⟨_, rfl⟩
          rw [← hS] at hT1
          have hSl : S.length = 512 := by rw [hS, List.length_take, List.length_drop]; omega
          have hrd2 : block_Read.f D (rd_T28 L i).f1 = some (S, 0) := by rw [block_Read_eq D _ (by omega), if_pos hDd, if_pos (by omega), hS]
          have HRead := Aside0.mk (show ∀ W : World, Kd.C (Kd.int .u8) W An l0.length D → Calls Try.prog 12 #[.slice An l0.length cn, .int .i64 (rd_T28 L i).f1] W (fun e w' => ∃ v0_ : Value, e = .returned (.tuple #[v0_, .int .i64 0]) ∧ Kd.R (Kd.int .u8) 5 w' W.heap.size (fun _ => True) v0_ S ∧ Below W.heap.size W w') from fun W hC => by
            rw [← hl1] at hC ⊢
            exact block_Read.calls _ _ _ _ _ _ _ hC (by omega) hrd2)
          have HT1 := Aside0.mk hT1
          have hst : hi = hi := rfl
          have HI1 := Aside0.mk hi
          clear hst hi hn hln hLL hil hrd e1 hDd hl1 hk0 hk1 hT1 hS hSl hrd2
          go_wp2_with (first
            | (go_at_call 12; refine (HRead.out _ (Kd.F_now HD.out)).mono ?_; rintro e w7 ⟨v, rfl, ho, hb⟩; obtain ⟨As, cs, rfl⟩ := Kd.R_slice ho; have HS2 := Aside0.mk (Kd.R_lower ho HB.out.size); have HNB := Aside0.mk (Kd.R_base ho); have HD2 := Aside0.mk (Kd.F_elder' HD.out (Kd.R_base ho) hb); have HW2 := Aside0.mk (Kd.R_below HW.out hb); have HA2 := Aside0.mk (Kd.R_below HA.out hb); have HLA := Aside0.mk (Kd.R_lt HA.out); have HLW := Aside0.mk (Kd.R_lt HW.out); have HB2 := Aside0.mk (below_step HB.out hb); clear hx0 hx1 HD HW HA HB HH HX ho hb))
          go_roundg k1
          case measure => omega
          case rel =>
            have hi := HI1.out
            exact ⟨i + 1, D, S, (rd_T28 L i).f1, An, cn, As, cs, rfl, rfl, rfl, rfl, ⟨by omega, by omega, hi.2.2.1, hi.2.2.2⟩, HT1, ⟨Kd.F_mono HD2.out (fun k hk => hk.2)⟩, HS2, HW2, HA2, ⟨fun k hk => ⟨fun e => by have h1 := HNB.out k hk; have h2 := HLA.out k e.symm; omega, fun e => by have h1 := HNB.out k hk; have h2 := HLW.out k e.symm; omega⟩⟩, HB2⟩
theorem blockThrough_row (A0 : Option Addr) (c0 : Nat) (l0 : List Int) {w : World} (hr0 : Kd.C (Kd.int .u8) w A0 l0.length l0) (hc0 : l0.length ≤ c0) (hl0 : l0.length * 1 ≤ 140737488351232 ∧ ∀ a ∈ l0, (Lit.int .u8 a).wf = true) (at_ : Int) (_w : (Lit.int .i64 at_).wf = true)
    (A2 : Option Addr) (c2 : Nat) (l2 : List Int) (hr2 : Kd.C (Kd.int .u8) w A2 l2.length l2) (hc2 : l2.length ≤ c2) (_hl2 : l2.length * 1 ≤ 140737488351232 ∧ ∀ a ∈ l2, (Lit.int .u8 a).wf = true) :
    Calls Try.prog 5 #[.slice A0 l0.length c0, .int .i64 at_, .slice A2 l2.length c2] w fun e w' => e = .returned (.bool true) ∧ Below w.heap.size w w' :=
  blockThrough_walk A0 c0 l0 at_ A2 c2 l2 w hr0 hc0 (by omega) hr2 hc2
end Go.Proofs.Ytpjlhehmobhijaa.Q
