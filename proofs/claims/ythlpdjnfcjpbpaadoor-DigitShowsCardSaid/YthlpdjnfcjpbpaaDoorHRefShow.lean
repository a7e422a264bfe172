/- Numbers as texts: the reference's Show. -/
import Derived.Test.YthlpdjnfcjpbpaaDoorHShow
namespace Go.Proofs.YthlpdjnfcjpbpaaDoor.Q
open Go.RowKit Go.Proofs.YthlpdjnfcjpbpaaDoorW.PrintWords Go.Proofs.YthlpdjnfcjpbpaaDoorW.PrintLast Go.Proofs.YthlpdjnfcjpbpaaDoorW.PrintMore
theorem digit_cut_all : ((List.range 36).all fun (d : Nat) => (digitsB.extract d (d + 1)).data.toList == [UInt8.ofNat (chN d)]) = true := by kernel_rfl
def digS (d : Int) : ByteArray := ⟨[UInt8.ofNat (chN d.toNat)].toArray⟩
theorem digit_cut (d d1 : Int) (h : 0 ≤ d ∧ d < 36) (h1 : d1 = d + 1) : (⟨#[48, 49, 50, 51, 52, 53, 54, 55, 56, 57, 97, 98, 99, 100, 101, 102, 103, 104, 105, 106, 107, 108, 109, 110, 111, 112, 113, 114, 115, 116, 117, 118, 119, 120, 121, 122]⟩ : ByteArray).extract d.toNat d1.toNat = digS d := by
  have h2 := List.all_eq_true.1 digit_cut_all d.toNat (List.mem_range.2 (by omega))
  rw [beq_iff_eq] at h2
  rw [show d1.toNat = d.toNat + 1 by omega]
  show digitsB.extract d.toNat (d.toNat + 1) = digS d
  unfold digS
  generalize digitsB.extract d.toNat (d.toNat + 1) = x at h2
  obtain ⟨⟨l⟩⟩ := x
  rw [show l = _ from h2]
theorem digS_size (d : Int) : (digS d).size = 1 := rfl
def preL (kq : Nat) (b u : Int) : List UInt8 := if kq = 0 then [] else showL b.toNat u.toNat
set_option maxHeartbeats 4000000 in
set_option maxRecDepth 100000 in
theorem refShow_calls (b n : Int) (hb : 2 ≤ b ∧ b ≤ 36) (hn : 0 ≤ n ∧ n < 4294967296) (w : World) :
    Calls Tryd.prog 15 #[.int .u32 n, .int .u32 b] w fun e w' => e = .returned (.tuple #[.string (showB b n), .int .i64 0]) ∧ Below w.heap.size w w' := by
  have HBb := Aside0.mk hb
  have HN := Aside0.mk hn
  have HB := Aside0.mk (Below.refl w.heap.size w)
  have d1 : decide (b < 2) = false := decide_eq_false (by omega)
  have d3 : decide (36 < b) = false := decide_eq_false (by omega)
  obtain ⟨n0, hn0⟩ : ∃ n0, n0 = (showL b.toNat n.toNat).length := ⟨_, rfl⟩
  have hn1 : 1 ≤ n0 ∧ n0 ≤ 32 := by
    rw [hn0]
    exact ⟨showL_pos _ _, showL_len b.toNat (by omega) 31 n.toNat (by omega)⟩
  have HN0 := Aside0.mk hn0
  clear hb hn hn0
  go_enter Tryd.func15, Tryd.ntmps15
  go_wp2
  go_loopg [0, 6, 7] n0 (fun kq v0 v6 v7 w' => ∃ (u : Int) (s : ByteArray) (i : Int), v0 = .int .u32 u ∧ v6 = .string s ∧ v7 = .int .i64 i ∧ Aside0 (0 ≤ u ∧ u < 4294967296 ∧ 0 ≤ i ∧ i + kq = n0 ∧ (kq = 0 → u = 0) ∧ (1 ≤ kq → (showL b.toNat u.toNat).length = kq ∧ (i = 0 ∨ 0 < u))) ∧ Aside0 (preL kq b u ++ s.data.toList = showL b.toNat n.toNat) ∧ Aside0 (Below w.heap.size w w'))
  case atStart =>
    have h1 := HN.out
    refine ⟨n, _, 0, rfl, rfl, rfl, ⟨h1.1, h1.2, by omega, by omega, by omega, fun _ => ⟨HN0.out.symm, .inl rfl⟩⟩, ⟨?_⟩, HB⟩
    unfold preL
    rw [if_neg (by omega)]
    simp
  case round =>
    clear HB
    obtain ⟨u, s, i, rfl, rfl, rfl, HI, HS, HB⟩ := hrel
    cases gk with
    | zero =>
      have hi := HI.out
      have hu : u = 0 := hi.2.2.2.2.1 rfl
      subst hu
      have hs : s = showB b n := by
        have h := HS.out
        unfold showB
        rw [← h]
        obtain ⟨⟨l⟩⟩ := s
        rfl
      subst hs
      have d4 : (i == 0) = false := beq_eq_false_iff_ne.2 (by omega)
      by_cases h32 : i < 32
      · have d5 : decide (i < 32) = true := decide_eq_true h32
        clear hi h32
        go_wp2
        go_ret2
        exact ⟨rfl, HB.out⟩
      · have d5 : decide (i < 32) = false := decide_eq_false h32
        clear hi h32
        go_wp2
        go_ret2
        exact ⟨rfl, HB.out⟩
    | succ k1 =>
      obtain ⟨h1, h2, h3, h4, h5, h6⟩ := HI.out
      obtain ⟨h8, h9⟩ := h6 (by omega)
      have h7 := HBb.out
      have d5 : decide (i < 32) = true := decide_eq_true (by omega)
      have hm0 := Int.emod_nonneg u (show b ≠ 0 by omega)
      have hm1 := Int.emod_lt_of_pos u (show 0 < b by omega)
      have hq0 : 0 ≤ u / b := Int.ediv_nonneg h1 (by omega)
      have hq1 : u / b ≤ u := Int.ediv_le_self _ h1
      have htd : u.tdiv b = u / b := Int.tdiv_eq_ediv_of_nonneg h1
      have htm : u.tmod b = u % b := Int.tmod_eq_emod_of_nonneg h1
      have hss := HS.out
      have hsz : s.size + (k1 + 1) = n0 := by
        have h := congrArg List.length hss
        unfold preL at h
        rw [if_neg (by omega), List.length_append, h8, data_length, ← HN0.out] at h
        omega
      obtain ⟨q, hq⟩ : ∃ q : Int, q = u / b := ⟨_, rfl⟩
      obtain ⟨d, hd⟩ : ∃ d : Int, d = u % b := ⟨_, rfl⟩
      obtain ⟨dd, hdd⟩ : ∃ dd : Int, dd = d + 1 := ⟨_, rfl⟩
      have p5 : (b = 0) = False := eq_false (by omega)
      have htd2 : u.tdiv b = q := by rw [htd, hq]
      have htm2 : u.tmod b = d := by rw [htm, hd]
      rw [← hd] at hm0 hm1
      rw [← hq] at hq0 hq1
      have e1 : IntKind.u32.wrap q = q := by simp [IntKind.wrap, IntKind.bits, IntKind.signed]; omega
      have e2 : IntKind.u32.wrap d = d := by simp [IntKind.wrap, IntKind.bits, IntKind.signed]; omega
      have e3 : wrap64 d = d := by unfold wrap64; omega
      have e4 : wrap64 (d + 1) = dd := by rw [hdd]; unfold wrap64; omega
      have e5 : wrap64 (i + 1) = i + 1 := by unfold wrap64; omega
      have hcut := digit_cut d dd ⟨hm0, by omega⟩ hdd
      have hcs : (digS d).size + s.size ≤ 9223372036854775807 := by rw [digS_size]; omega
      have g1 : (0 ≤ d) = True := eq_true hm0
      have g2 : (d ≤ dd) = True := eq_true (by omega)
      have g3 : (dd ≤ 36) = True := eq_true (by omega)
      have HREL := Aside0.mk (show 0 ≤ q ∧ q < 4294967296 ∧ 0 ≤ i + 1 ∧ i + 1 + k1 = n0 ∧ (k1 = 0 → q = 0) ∧ (1 ≤ k1 → (showL b.toNat q.toNat).length = k1 ∧ (i + 1 = 0 ∨ 0 < q)) ∧ preL k1 b q ++ (digS d ++ s).data.toList = showL b.toNat n.toNat from by
        have hqn : q.toNat = u.toNat / b.toNat := by
          rw [hq]
          obtain ⟨x, rfl⟩ := Int.eq_ofNat_of_zero_le h1
          obtain ⟨m, rfl⟩ := Int.eq_ofNat_of_zero_le (show 0 ≤ b by omega)
          rfl
        have hdn : d.toNat = u.toNat % b.toNat := by
          rw [hd]
          obtain ⟨x, rfl⟩ := Int.eq_ofNat_of_zero_le h1
          obtain ⟨m, rfl⟩ := Int.eq_ofNat_of_zero_le (show 0 ≤ b by omega)
          rfl
        have hap : (digS d ++ s).data.toList = UInt8.ofNat (chN d.toNat) :: s.data.toList := by
          obtain ⟨⟨l⟩⟩ := s
          unfold digS
          rw [show (⟨⟨l⟩⟩ : ByteArray) = ⟨l.toArray⟩ from rfl, ByteArray.mk_append_mk]
          rfl
        rw [hap]
        unfold preL at hss ⊢
        rw [if_neg (by omega)] at hss
        cases k1 with
        | zero =>
          have hlt := showL_one (show 2 ≤ b.toNat by omega) h8
          have hq0' : q = 0 := by
            have : q.toNat = 0 := by rw [hqn]; exact Nat.div_eq_of_lt hlt
            omega
          refine ⟨hq0, by omega, by omega, by omega, fun _ => hq0', fun h => by omega, ?_⟩
          rw [if_pos rfl, ← hss, showL_small hlt, hdn, Nat.mod_eq_of_lt hlt]
          rfl
        | succ k2 =>
          obtain ⟨hge, hl2⟩ := showL_more (show 2 ≤ b.toNat by omega) h8
          have hqp : 0 < q := by
            have h10 : 1 ≤ u.toNat / b.toNat := (Nat.le_div_iff_mul_le (by omega)).2 (by omega)
            omega
          refine ⟨hq0, by omega, by omega, by omega, fun h => by omega, fun _ => ⟨by rw [hqn]; exact hl2, .inr hqp⟩, ?_⟩
          rw [if_neg (by omega), ← hss, showL_big (by omega) hge, hqn, hdn, List.append_assoc]
          rfl)
      have H9 := Aside0.mk h9
      clear h1 h2 h3 h4 h5 h6 h7 h8 hm0 hm1 hq0 hq1 htd htm hss hsz hq hd hdd hn1
      by_cases hup : 0 < u
      · have d6 : decide (0 < u) = true := decide_eq_true hup
        clear hup h9
        go_wp2
        go_roundg k1
        case measure => omega
        case rel =>
          have h := HREL.out
          exact ⟨q, digS d ++ s, i + 1, rfl, rfl, rfl, ⟨h.1, h.2.1, h.2.2.1, h.2.2.2.1, h.2.2.2.2.1, h.2.2.2.2.2.1⟩, ⟨h.2.2.2.2.2.2⟩, HB⟩
      · have d6 : decide (0 < u) = false := decide_eq_false hup
        have d7 : (i == 0) = true := beq_iff_eq.2 (by omega)
        clear hup h9
        go_wp2
        go_roundg k1
        case measure => omega
        case rel =>
          have h := HREL.out
          exact ⟨q, digS d ++ s, i + 1, rfl, rfl, rfl, ⟨h.1, h.2.1, h.2.2.1, h.2.2.2.1, h.2.2.2.2.1, h.2.2.2.2.2.1⟩, ⟨h.2.2.2.2.2.2⟩, HB⟩
def tinderref02_Show.f (n b : Int) : Option (ByteArray × Int) := if 0 ≤ n ∧ n < 4294967296 then (if 2 ≤ b ∧ b ≤ 36 then some (showB b n, 0) else some (⟨#[]⟩, 1)) else none
set_option maxHeartbeats 1000000 in
set_option maxRecDepth 100000 in
theorem tinderref02_Show.calls (a0 : Int) (a1 : Int) (r1 : ByteArray) (r2 : Int) (w : World) (h : tinderref02_Show.f a0 a1 = some (r1, r2)) :
    Calls Tryd.prog 15 #[.int .u32 a0, .int .u32 a1] w fun e w' => e = .returned (.tuple #[.string r1, .int .i64 r2]) ∧ Below w.heap.size w w' := by
  unfold tinderref02_Show.f at h
  split at h
  case isFalse => cases h
  rename_i hn
  by_cases hb : 2 ≤ a1 ∧ a1 ≤ 36
  · rw [if_pos hb] at h
    obtain ⟨rfl, rfl⟩ := Prod.mk.inj (Option.some.inj h)
    exact refShow_calls a1 a0 hb hn w
  · rw [if_neg hb] at h
    obtain ⟨rfl, rfl⟩ := Prod.mk.inj (Option.some.inj h)
    by_cases h2 : a1 < 2
    · have d1 : decide (a1 < 2) = true := decide_eq_true h2
      clear h hb h2 hn
      go_enter Tryd.func15, Tryd.ntmps15
      go_wp2
      go_ret2
      exact ⟨rfl, Below.refl _ _⟩
    · have d1 : decide (a1 < 2) = false := decide_eq_false h2
      have d2 : decide (36 < a1) = true := decide_eq_true (by omega)
      clear h hb h2 hn
      go_enter Tryd.func15, Tryd.ntmps15
      go_wp2
      go_ret2
      exact ⟨rfl, Below.refl _ _⟩
end Go.Proofs.YthlpdjnfcjpbpaaDoor.Q
