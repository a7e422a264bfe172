/- Contracts of Go functions and plain facts, of several texts, one behind the other; no condition. -/
import Derived.Test.YtlhnaplmphdhlaaDoorMPropDecodes1
import Derived.Test.YtlhnaplmphdhlaaDoorMPropDecodes2
import Derived.ChangeArms
import Derived.OpenShut
import Derived.SizedLaws
section
set_option linter.unusedSimpArgs false
set_option linter.unusedVariables false
namespace Go.Proofs.YtlhnaplmphdhlaaDoor.Q
open Go.RowKit Go.Proofs.YtlhnaplmphdhlaaDoorW.PrintWords Go.Proofs.YtlhnaplmphdhlaaDoorW.PrintLast Go.Proofs.YtlhnaplmphdhlaaDoorW.PrintMore
attribute [local go_sem] max2_int min2_int max_two min_two max_three min_three max_four min_four
theorem rd_B {L : List Int} (h : BytesL L) (i : Int) : 0 ≤ rd L i ∧ rd L i < 256 := by
  unfold rd
  rw [List.getD_eq_getElem?_getD]
  cases hx : L[i.toNat]? with
  | none => exact ⟨by decide, by decide⟩
  | some x => exact h x (List.mem_of_getElem? hx)
def dec (L : List Int) : Nat → Int
  | 0 => 0
  | k + 1 => dec L k * 256 + rd L (k : Int)
def intF (L : List Int) : Int × List Int × Int := if L.length < 4 then (0, [], 2) else (dec L 4, L.drop 4, 0)
theorem wrapu32 (n : Int) : IntKind.u32.wrap n = n % 4294967296 := by simp [IntKind.wrap, IntKind.bits, IntKind.signed]
theorem or_u32 (a b : Nat) (ha : a < 4294967296) (hb : b < 4294967296) : bits BinOp.or IntKind.u32 (a : Int) (b : Int) = ((a ||| b : Nat) : Int) := by
  have hx : a ||| b < 2 ^ 32 := Nat.or_lt_two_pow (by omega) (by omega)
  have h1 : (BitVec.ofInt 32 (a : Int)).toNat = a := by
    rw [BitVec.ofInt_natCast, BitVec.toNat_ofNat]; exact Nat.mod_eq_of_lt (by omega)
  have h2 : (BitVec.ofInt 32 (b : Int)).toNat = b := by
    rw [BitVec.ofInt_natCast, BitVec.toNat_ofNat]; exact Nat.mod_eq_of_lt (by omega)
  show IntKind.u32.wrap ((BitVec.ofInt 32 (a : Int) ||| BitVec.ofInt 32 (b : Int)).toNat : Int) = _
  rw [BitVec.toNat_or, h1, h2, wrapu32]
  omega
theorem or_four (a b c d : Int) (ha : 0 ≤ a ∧ a < 256) (hb : 0 ≤ b ∧ b < 256) (hc : 0 ≤ c ∧ c < 256) (hd : 0 ≤ d ∧ d < 256) : bits .or .u32 (bits .or .u32 (bits .or .u32 (((a % 4294967296) * 16777216) % 4294967296) (((b % 4294967296) * 65536) % 4294967296)) (((c % 4294967296) * 256) % 4294967296)) (d % 4294967296) = ((a * 256 + b) * 256 + c) * 256 + d := by
  obtain ⟨x, rfl⟩ := Int.eq_ofNat_of_zero_le ha.1
  obtain ⟨y, rfl⟩ := Int.eq_ofNat_of_zero_le hb.1
  obtain ⟨z, rfl⟩ := Int.eq_ofNat_of_zero_le hc.1
  obtain ⟨t, rfl⟩ := Int.eq_ofNat_of_zero_le hd.1
  have e1 : (((x : Int) % 4294967296) * 16777216) % 4294967296 = ((16777216 * x : Nat) : Int) := by omega
  have e2 : (((y : Int) % 4294967296) * 65536) % 4294967296 = ((65536 * y : Nat) : Int) := by omega
  have e3 : (((z : Int) % 4294967296) * 256) % 4294967296 = ((256 * z : Nat) : Int) := by omega
  have e4 : (t : Int) % 4294967296 = ((t : Nat) : Int) := by omega
  rw [e1, e2, e3, e4, or_u32 _ _ (by omega) (by omega)]
  have f1 : 16777216 * x ||| 65536 * y = 65536 * (256 * x + y) := by
    rw [show 16777216 * x = 2 ^ 24 * x by rfl, ← Nat.two_pow_add_eq_or_of_lt (show 65536 * y < 2 ^ 24 by omega)]
    omega
  rw [f1, or_u32 _ _ (by omega) (by omega)]
  have f2 : 65536 * (256 * x + y) ||| 256 * z = 256 * (65536 * x + 256 * y + z) := by
    rw [show 65536 * (256 * x + y) = 2 ^ 16 * (256 * x + y) by rfl, ← Nat.two_pow_add_eq_or_of_lt (show 256 * z < 2 ^ 16 by omega)]
    omega
  rw [f2, or_u32 _ _ (by omega) (by omega), show 256 * (65536 * x + 256 * y + z) = 2 ^ 8 * (65536 * x + 256 * y + z) by rfl, ← Nat.two_pow_add_eq_or_of_lt (show t < 2 ^ 8 by omega)]
  omega
theorem dec_four (L : List Int) : dec L 4 = ((rd L 0 * 256 + rd L 1) * 256 + rd L 2) * 256 + rd L 3 := by
  show (((0 * 256 + rd L 0) * 256 + rd L 1) * 256 + rd L 2) * 256 + rd L 3 = _
  omega
theorem decInt_eq (L : List Int) (hB : BytesL L) (hl : L.length ≤ 140737488351232) : prop_DecodeInt.f L = some (intF L) := by
  unfold prop_DecodeInt.f intF
  by_cases h : L.length < 4
  · rw [if_pos (by omega), if_pos h]
  · have e1 : prop_number.f L = some (dec L 4) := by
      unfold prop_number.f
      rw [if_pos (by omega), if_pos (by omega), if_pos (by omega), if_pos (by omega), or_four _ _ _ _ (rd_B hB 0) (rd_B hB 1) (rd_B hB 2) (rd_B hB 3), dec_four]
    have e2 : slices_Clone_byte_byte.f (L.drop 4) = some (L.drop 4) := by
      unfold slices_Clone_byte_byte.f
      rw [if_pos (by rw [List.length_drop]; omega)]
    rw [if_neg (by omega), if_neg h, e1, Option.bind_some, if_pos (by omega), e2]
    rfl
set_option maxHeartbeats 4000000 in
set_option maxRecDepth 100000 in
theorem refInt_calls (A : Option Addr) (c : Nat) (L : List Int) (w : World) (hC : Kd.C (Kd.int .u8) w A L.length L) (hc : L.length ≤ c) (hl : L.length ≤ 140737488351232) (hB : BytesL L) :
    Calls Tryd.prog 32 #[.slice A L.length c] w fun e w' => ∃ A c, e = .returned (.tuple #[.int .u32 (intF L).1, .slice A (intF L).2.1.length c, .int .i64 (intF L).2.2]) ∧ (intF L).2.1.length ≤ c ∧ Kd.C (Kd.int .u8) w' A (intF L).2.1.length (intF L).2.1 ∧ Below w.heap.size w w' := by
  obtain ⟨T, hT⟩ : ∃ T, T = intF L := ⟨_, rfl⟩
  rw [← hT]
  have HB0 := Aside0.mk (Below.refl w.heap.size w)
  by_cases h4 : L.length < 4
  · have d1 : decide ((L.length : Int) < 4) = true := decide_eq_true (by omega)
    rw [intF, if_pos h4] at hT
    subst hT
    clear hC hc hl hB h4
    go_enter Tryd.func32, Tryd.ntmps32
    go_wp2
    exact bodyPost_ret (results_tmp3 rfl _ _ _) rfl ⟨none, 0, rfl, Nat.le_refl _, Kd.C_nil _ _, HB0.out⟩
  · have d1 : decide ((L.length : Int) < 4) = false := decide_eq_false (by omega)
    rw [intF, if_neg h4] at hT
    have HT := Aside0.mk hT
    have HC := Aside0.mk hC
    have HK := Aside0.mk hc
    have HL := Aside0.mk hl
    have HBY := Aside0.mk hB
    have H4 := Aside0.mk h4
    clear hT hC hc hl hB h4
    go_enter Tryd.func32, Tryd.ntmps32
    go_wp2
    go_loopg [5, 6] 4 (fun kq v5 v6 w' => ∃ (n i : Int), v5 = .int .u32 n ∧ v6 = .int .i64 i ∧ Aside0 (0 ≤ i ∧ i + kq = 4) ∧ Aside0 (n = dec L i.toNat ∧ 0 ≤ n ∧ (i = 0 → n < 1) ∧ (i = 1 → n < 256) ∧ (i = 2 → n < 65536) ∧ (i = 3 → n < 16777216)) ∧ Aside0 (Below w.heap.size w w'))
    case atStart => exact ⟨0, 0, rfl, rfl, ⟨by omega, by omega⟩, ⟨rfl, by omega, by omega, by omega, by omega, by omega⟩, HB0⟩
    case round =>
      obtain ⟨n, i, rfl, rfl, HI, HN, HB⟩ := hrel
      cases gk with
      | zero =>
        have hi4 : i = 4 := by have := HI.out; omega
        subst hi4
        have hlt : decide ((4 : Int) < 4) = false := rfl
        have hn := HN.out.1
        have k2 := run_cut_lo (P := Tryd.prog) Tryd.underlying25 info5z A L.length c 4 (by omega) (by have := H4.out; omega)
        have hC2 := C_cut (Kd.C_below HC.out HB.out) HK.out 4 (L.length - 4) (by have := H4.out; omega)
        rw [List.take_of_length_le (by rw [List.length_drop]; omega)] at hC2
        have HC2 := Aside0.mk hC2
        have HE := Aside0.mk (show T = (n, L.drop 4, 0) by rw [HT.out, hn]; rfl)
        have e3 : L.length - (4 : Int).toNat = (L.drop 4).length := by rw [List.length_drop]; rfl
        have HK2 := Aside0.mk (show (L.drop 4).length ≤ c - 4 by rw [List.length_drop]; have := HK.out; omega)
        rw [e3] at k2
        have e4 : (L.drop 4).length = L.length - 4 := by rw [List.length_drop]
        rw [← e4] at HC2
        obtain ⟨R, hR⟩ : ∃ R, R = L.drop 4 := ⟨_, rfl⟩
        rw [← hR] at k2 HC2 HE HK2
        clear e3 e4 hR hn hC2
        have hA2 : cutAt A c (4 : Int).toNat 1 = cutAt A c 4 (Kd.int .u8).sz := rfl
        rw [hA2] at k2
        generalize cutAt A c 4 (Kd.int .u8).sz = A2 at k2 HC2
        have hc2 : c - (4 : Int).toNat = c - 4 := rfl
        rw [hc2] at k2
        generalize c - 4 = c2 at k2 HK2
        clear hA2 hc2
        go_wp2
        go_quiet (fail)
        go_wp2
        exact bodyPost_ret (results_tmp3 rfl _ _ _) rfl ⟨A2, c2, by rw [HE.out]; rfl, by rw [HE.out]; exact HK2.out, by rw [HE.out]; exact Kd.C_drewN HC2.out _, pw_below_drewN HB.out _⟩
      | succ k1 =>
        have hi := HI.out
        have hn := HN.out
        have hrb := rd_B HBY.out i
        have hl4 := H4.out
        have hlt : decide (i < 4) = true := decide_eq_true (by omega)
        have p1 : (0 ≤ i) = True := eq_true (by omega)
        have p2 : (i < (L.length : Int)) = True := eq_true (by omega)
        have hw : IntKind.i64.wrap (i + 1) = i + 1 := (i64_w _).trans (by unfold wrap64; omega)
        have hw2 : wrap64 (i + 1) = i + 1 := by unfold wrap64; omega
        obtain ⟨ad, eA, hx⟩ := Kd.at_int (Kd.C_below HC.out HB.out) i (by omega) (by omega)
        cases eA
        obtain ⟨x, hxx⟩ : ∃ x, x = rd L i := ⟨_, rfl⟩
        rw [← hxx] at hx hrb
        have hnb : n < 16777216 := by
          obtain h | h | h | h : i = 0 ∨ i = 1 ∨ i = 2 ∨ i = 3 := by omega
          all_goals (subst h; omega)
        obtain ⟨y, hy⟩ : ∃ y, y = n * 256 := ⟨_, rfl⟩
        obtain ⟨z, hz⟩ : ∃ z, z = y + x := ⟨_, rfl⟩
        have m1 : IntKind.u32.wrap (n * 256) = y := by rw [wrapu32]; omega
        have m2 : IntKind.u32.wrap x = x := by rw [wrapu32]; omega
        have m3 : IntKind.u32.wrap (y + x) = z := by rw [wrapu32]; omega
        have m4 : n * 256 % 4294967296 = y := by omega
        have m5 : x % 4294967296 = x := by omega
        have m6 : (y + x) % 4294967296 = z := by omega
        have HZ := Aside0.mk (show z = dec L (i + 1).toNat ∧ 0 ≤ z ∧ (i + 1 = 0 → z < 1) ∧ (i + 1 = 1 → z < 256) ∧ (i + 1 = 2 → z < 65536) ∧ (i + 1 = 3 → z < 16777216) from by
          refine ⟨?_, by omega, by omega, ?_, ?_, ?_⟩
          · rw [show (i + 1).toNat = i.toNat + 1 by omega, dec, show ((i.toNat : Nat) : Int) = i by omega, ← hn.1, ← hxx]
            omega
          · intro h
            have := hn.2.2.1 (by omega)
            omega
          · intro h
            have := hn.2.2.2.1 (by omega)
            omega
          · intro h
            have := hn.2.2.2.2.1 (by omega)
            omega)
        clear hi hn hrb hl4 hxx hnb hy hz
        go_wp2
        go_roundg k1
        case measure => omega
        case rel => exact ⟨z, i + 1, rfl, rfl, ⟨by have := HI.out; omega, by have := HI.out; omega⟩, HZ, HB⟩
theorem textOwn_calls (v : Value) (L : List Int) (w : World) (base : Nat) (hR : Kd.R (Kd.int .u8) 5 w base (fun _ => True) v L) (hl : L.length ≤ 140737488351232) :
    Calls Tryd.prog 33 #[v] w fun e w' => ∃ A c, e = .returned (.tuple #[.string (textF L).1, .slice A (textF L).2.1.length c, .int .i64 (textF L).2.2]) ∧ (textF L).2.1.length ≤ c ∧ Kd.C (Kd.int .u8) w' A (textF L).2.1.length (textF L).2.1 ∧ Below w.heap.size w w' := by
  have hown := Kd.own_of_R hR
  rcases hown.2 with ⟨rfl, hn⟩ | ⟨g, cap, cur, rfl, _⟩
  · obtain rfl : L = [] := List.eq_nil_of_length_eq_zero hn
    exact decText_nil_calls w
  · obtain ⟨_, hc, hC⟩ := Kd.R_reads' hR
    exact decText_calls ⟨g, 0, none⟩ cap L w hC hc hl
set_option maxRecDepth 100000 in
set_option maxHeartbeats 8000000 in
theorem propDecodes_row {w : World} (ht : Tabs w) (A : Option Addr) (c : Nat) (L : List Int) (hC : Kd.C (Kd.int .u8) w A L.length L) (hc : L.length ≤ c) (hg : L.length * 1 ≤ 140737488351232 ∧ ∀ a ∈ L, (Lit.int .u8 a).wf = true) :
    Calls Tryd.prog 7 #[.slice A L.length c] w fun e w' => e = .returned (.bool true) ∧ Below w.heap.size w w' := by
  clear ht
  have hl : L.length ≤ 140737488351232 := by omega
  have hB : BytesL L := fun a ha => by
    have := hg.2 a ha
    simp only [Lit.wf, Bool.and_eq_true, decide_eq_true_eq, show IntKind.u8.min = 0 from rfl, show IntKind.u8.max = 255 from rfl] at this
    omega
  obtain ⟨n, R, e0, hI⟩ : ∃ n R e0, intF L = (n, R, e0) := ⟨_, _, _, rfl⟩
  obtain ⟨s, U, g0, hT⟩ : ∃ s U g0, textF L = (s, U, g0) := ⟨_, _, _, rfl⟩
  have HCP := Aside0.mk (show ∀ W : World, Below w.heap.size w W → Calls Tryd.prog 30 #[.slice A L.length c] W (fun e w' => ∃ A c, e = .returned (.slice A L.length c) ∧ L.length ≤ c ∧ Kd.C (Kd.int .u8) w' A L.length L ∧ Kd.R (Kd.int .u8) 5 w' W.heap.size (fun _ => True) (.slice A L.length c) L ∧ Below W.heap.size W w') from fun W hW => by
    refine (tinderref04_Copy.calls A c L L W (Kd.C_below hC hW) hc (by unfold tinderref04_Copy.f; rw [if_pos (by simp; omega)]; rfl)).mono ?_
    rintro e w' ⟨v, rfl, hR, hb⟩
    have hR2 := hR
    obtain ⟨A, c, rfl, hc, hC⟩ := Kd.R_reads hR
    exact ⟨A, c, rfl, hc, hC, hR2, hb⟩)
  have HPI := Aside0.mk (show ∀ (A : Option Addr) (c : Nat) (W : World), Kd.C (Kd.int .u8) W A L.length L → L.length ≤ c → Calls Tryd.prog 31 #[.slice A L.length c] W (fun e w' => ∃ A c, e = .returned (.tuple #[.int .u32 n, .slice A R.length c, .int .i64 e0]) ∧ R.length ≤ c ∧ Kd.C (Kd.int .u8) w' A R.length R ∧ Below W.heap.size W w') from fun A c W hC hc => by
    refine (prop_DecodeInt.calls A c L n R e0 W hC hc (by rw [decInt_eq L hB hl, hI])).mono ?_
    rintro e w' ⟨v, rfl, hR, hb⟩
    obtain ⟨A, c, rfl, hc, hC⟩ := Kd.R_reads hR
    exact ⟨A, c, rfl, hc, hC, hb⟩)
  have HRI := Aside0.mk (show ∀ W : World, Below w.heap.size w W → Calls Tryd.prog 32 #[.slice A L.length c] W (fun e w' => ∃ A c, e = .returned (.tuple #[.int .u32 n, .slice A R.length c, .int .i64 e0]) ∧ R.length ≤ c ∧ Kd.C (Kd.int .u8) w' A R.length R ∧ Below W.heap.size W w') from fun W hW => by
    have h := refInt_calls A c L W (Kd.C_below hC hW) hc hl hB
    rw [hI] at h
    exact h)
  have HPT := Aside0.mk (show ∀ (v : Value) (W : World) (base : Nat), Kd.R (Kd.int .u8) 5 W base (fun _ => True) v L → Calls Tryd.prog 33 #[v] W (fun e w' => ∃ A c, e = .returned (.tuple #[.string s, .slice A U.length c, .int .i64 g0]) ∧ U.length ≤ c ∧ Kd.C (Kd.int .u8) w' A U.length U ∧ Below W.heap.size W w') from fun v W base hR => by
    have h := textOwn_calls v L W base hR hl
    rw [hT] at h
    exact h)
  have HRT := Aside0.mk (show ∀ W : World, Below w.heap.size w W → Calls Tryd.prog 34 #[.slice A L.length c] W (fun e w' => ∃ A c, e = .returned (.tuple #[.string s, .slice A U.length c, .int .i64 g0]) ∧ U.length ≤ c ∧ Kd.C (Kd.int .u8) w' A U.length U ∧ Below W.heap.size W w') from fun W hW => by
    have h := refText_calls A c L W (Kd.C_below hC hW) hc hl hB
    rw [hT] at h
    exact h)
  have HC := Aside0.mk hC
  have HK := Aside0.mk hc
  have HSM := Aside0.mk (fun (A : Option Addr) (c : Nat) (B : Option Addr) (d : Nat) (M : List Int) (W : World) (h1 : Kd.C (Kd.int .u8) W A M.length M) (hc : M.length ≤ c) (h2 : Kd.C (Kd.int .u8) W B M.length M) (hd : M.length ≤ d) => same_at A c M.length B d M W rfl h1 hc h2 hd)
  obtain ⟨m, hm⟩ : ∃ m, m = L.length := ⟨_, rfl⟩
  rw [← hm] at HCP HPI HRI HRT HK ⊢
  have HM := Aside0.mk hm
  clear hI hT hC hc hg hl hB hm
  go_enter Tryd.func7, Tryd.ntmps7
  go_wp2_with (first
    | (go_at_call 14; (with_reducible refine (alive_calls _).mono ?_); rintro e w1 ⟨rfl, hb⟩; have HB1 := Aside0.mk hb; clear hb)
    | (go_at_call 30; (with_reducible refine (HCP.out _ HB1.out).mono ?_); rintro e w2 ⟨A2, c2, rfl, hc, hC, hR, hb⟩; have HB2 := Aside0.mk (below_step HB1.out hb); have HC2 := Aside0.mk hC; have HK2 := Aside0.mk hc; have HR2 := Aside0.mk hR; clear hc hC hR hb)
    | (go_at_call 31; (with_reducible refine (HPI.out _ _ _ HC2.out HK2.out).mono ?_); rintro e w3 ⟨A3, c3, rfl, hc, hC, hb⟩; have HB3 := Aside0.mk (below_step HB2.out hb); have HC3 := Aside0.mk hC; have HK3 := Aside0.mk hc; have HR3 := Aside0.mk (Kd.R_below HR2.out hb); have HD3 := Aside0.mk (Kd.C_below HC2.out hb); clear hc hC hb)
    | (go_at_call 32; (with_reducible refine (HRI.out _ HB3.out).mono ?_); rintro e w4 ⟨A4, c4, rfl, hc, hC, hb⟩; have HB4 := Aside0.mk (below_step HB3.out hb); have HC4 := Aside0.mk hC; have HK4 := Aside0.mk hc; have HR4 := Aside0.mk (Kd.R_below HR3.out hb); have HD4 := Aside0.mk (Kd.C_below HD3.out hb); have HC34 := Aside0.mk (Kd.C_below HC3.out hb); clear hc hC hb)
    | (go_at_call 33; (with_reducible refine (HPT.out _ _ _ HR4.out).mono ?_); rintro e w5 ⟨A5, c5, rfl, hc, hC, hb⟩; have HB5 := Aside0.mk (below_step HB4.out hb); have HC5 := Aside0.mk hC; have HK5 := Aside0.mk hc; have HD5 := Aside0.mk (Kd.C_below HD4.out hb); have HC35 := Aside0.mk (Kd.C_below HC34.out hb); have HC45 := Aside0.mk (Kd.C_below HC4.out hb); clear hc hC hb)
    | (go_at_call 34; (with_reducible refine (HRT.out _ HB5.out).mono ?_); rintro e w6 ⟨A6, c6, rfl, hc, hC, hb⟩; have HB6 := Aside0.mk (below_step HB5.out hb); have HC6 := Aside0.mk hC; have HK6 := Aside0.mk hc; have HD6 := Aside0.mk (Kd.C_below HD5.out hb); have HC36 := Aside0.mk (Kd.C_below HC35.out hb); have HC46 := Aside0.mk (Kd.C_below HC45.out hb); have HC56 := Aside0.mk (Kd.C_below HC5.out hb); clear hc hC hb)
    | (go_at_call 19; (with_reducible refine (HSM.out _ _ _ _ R _ HC36.out HK3.out HC46.out HK4.out).mono ?_); rintro e w7 ⟨rfl, hb⟩; have HB7 := Aside0.mk (below_step HB6.out hb); have HD7 := Aside0.mk (Kd.C_below HD6.out hb); have HC57 := Aside0.mk (Kd.C_below HC56.out hb); have HC67 := Aside0.mk (Kd.C_below HC6.out hb); clear hb HC36)
    | (go_at_call 19; (with_reducible refine (HSM.out _ _ _ _ U _ HC57.out HK5.out HC67.out HK6.out).mono ?_); rintro e w8 ⟨rfl, hb⟩; have HB8 := Aside0.mk (below_step HB7.out hb); have HD8 := Aside0.mk (Kd.C_below HD7.out hb); clear hb HC57)
    | (go_at_call 19; (with_reducible refine (same_at _ _ _ _ _ L _ HM.out.symm HD8.out HK2.out (HM.out ▸ Kd.C_below HC.out HB8.out) HK.out).mono ?_); rintro e w9 ⟨rfl, hb⟩; have HB9 := Aside0.mk (below_step HB8.out hb); clear hb))
  go_ret
  exact ⟨rfl, HB9.out⟩
end Go.Proofs.YtlhnaplmphdhlaaDoor.Q
end
section
namespace Go.Proofs.YtlhnaplmphdhlaaDoor.Q
open Go.RowKit Go.Proofs.YtlhnaplmphdhlaaDoorW.PrintWords Go.Proofs.YtlhnaplmphdhlaaDoorW.PrintLast Go.Proofs.YtlhnaplmphdhlaaDoorW.PrintMore
def Opens {α : Type} (P : Program) (t : TypeId) (d : Kd α) (G : α → Prop) : Prop :=
  ∀ (H : Type) (enc : TypeId × Value → H) (W : World) (fuel : Nat) (cs : List Value) (x : DataW H × List MemPlace), DataW.trod enc P W 0 (fun _ => true) true fuel t cs = some x → (∀ n ∈ x.1.weights P t, n ≤ reachBytes) → ∃ a, d.K W a cs ∧ G a
section
variable {P : Program} {t e : TypeId}
theorem opens_int {k : IntKind} (ht : P.underlying t = some (.int k)) : Opens P t (Kd.int k) (fun n => (Lit.int k n).wf = true) := by
  intro H enc W fuel cs x h _
  obtain ⟨n, rfl, _, hw⟩ := DataW.trod_int ht h
  exact ⟨n, rfl, hw⟩
theorem opens_bool (ht : P.underlying t = some .bool) : Opens P t Kd.bool (fun _ => True) := by
  intro H enc W fuel cs x h _
  obtain ⟨b, rfl, _⟩ := DataW.trod_bool ht h
  exact ⟨b, rfl, trivial⟩
theorem opens_string (ht : P.underlying t = some .string) : Opens P t Kd.string (fun s => s.size ≤ 140737488351232) := by
  intro H enc W fuel cs x h hw
  obtain ⟨s, rfl, rfl, _⟩ := DataW.trod_string ht h
  have := hw s.data.toList.length (by simp [DataW.weights])
  exact ⟨s, rfl, by simpa [reachBytes] using this⟩
theorem weights_all {H : Type} {P : Program} {e : TypeId} : ∀ {l : List (DataW H)} {d : DataW H}, d ∈ l → ∀ n ∈ d.weights P e, n ∈ DataW.weightsAll P e l
  | d0 :: l, d, hd, n, hn => by
    simp only [DataW.weightsAll, List.mem_append]
    rcases List.mem_cons.1 hd with rfl | hd
    · exact .inl hn
    · exact .inr (weights_all hd n hn)
theorem cells_get {W : World} {base : Nat} {a : Addr} {n : Nat} {c : List Value} (h : W.cells? base a n = some c) : c.length = n ∧ ∀ i u, c[i]? = some u → W.cell? (a.add i) = some u := by
  unfold World.cells? at h
  split at h
  · have hl := mapM_some_length h
    refine ⟨by simpa using hl, fun i u hu => ?_⟩
    have hi : i < n := by
      have := (List.getElem?_eq_some_iff.1 hu).1
      simp at hl
      omega
    have := mapM_some_get h i i (by simp [hi])
    rw [this, hu]
  · cases h
theorem opens_slice {α : Type} {d : Kd α} {G : α → Prop} (ht : P.underlying t = some (.slice e)) (hc : P.cellsOf e = d.sz) (b : Nat) (hb : P.bytesOf e = b) (he : Opens P e d G) :
    Opens P t (Kd.slice e d) (fun xs => xs.length * b ≤ 140737488351232 ∧ ∀ a ∈ xs, G a) := by
  intro H enc W fuel cs x h hw
  rcases DataW.trod_slice ht h with ⟨rfl, _⟩ | ⟨a, len, cap, elems, rest, n, _, rfl, rfl, _, hl, hm, hlen, hel, _⟩
  · exact ⟨[], ⟨none, 0, rfl, Nat.le_refl _, Kd.C_nil d W⟩, by simp, fun a h => by cases h⟩
  · have hwt : (elems.length + rest.length) * b ≤ 140737488351232 := by
      have := hw ((elems.length + rest.length) * P.bytesOf e) (by simp [DataW.weights, ht])
      rw [hb] at this
      simpa [reachBytes] using this
    have hall : ∀ i : Fin len, ∃ p : α, ∃ c, c.length = d.sz ∧ d.K W p c ∧ G p ∧ ∀ j u, c[j]? = some u → W.cell? (a.add (i.1 * d.sz + j)) = some u := by
      intro i
      have hi : i.1 < elems.length := by have := i.2; omega
      have h1 := hel i.1 i.2
      rw [List.getElem?_eq_getElem hi] at h1
      obtain ⟨c, hcs, htr⟩ := Option.bind_eq_some_iff.1 h1
      obtain ⟨hcl, hcg⟩ := cells_get hcs
      obtain ⟨p, hK, hG⟩ := he H enc W n c _ htr (fun m hm => hw m (by
        simp only [DataW.weights, ht, List.mem_cons, List.mem_append]
        exact .inr (.inl (weights_all (List.mem_map.2 ⟨_, List.getElem_mem hi, rfl⟩) m hm))))
      refine ⟨p, c, by rw [hcl, hc], hK, hG, fun j u hu => ?_⟩
      have := hcg j u hu
      rw [add_add, hc] at this
      exact this
    refine ⟨List.ofFn fun i => Classical.choose (hall i), ⟨some a, cap, by simp, by simpa using hl, by simp, by simp only [maxLen] at hm; simp; omega, fun _ => ⟨a, rfl, fun j p hj => ?_⟩⟩, ?_, ?_⟩
    · obtain ⟨hjl, hjp⟩ := List.getElem?_eq_some_iff.1 hj
      simp only [List.length_ofFn] at hjl
      have h2 := Classical.choose_spec (hall ⟨j, hjl⟩)
      rw [List.getElem_ofFn] at hjp
      rw [hjp] at h2
      obtain ⟨c, h3, h4, _, h6⟩ := h2
      exact ⟨c, h3, h4, h6⟩
    · rw [List.length_ofFn]
      refine Nat.le_trans (Nat.mul_le_mul_right b ?_) hwt
      omega
    · intro p hp
      obtain ⟨i, rfl⟩ := (List.mem_ofFn).1 hp
      obtain ⟨_, _, _, h5, _⟩ := Classical.choose_spec (hall i)
      exact h5
/-- The fields of a struct from one on, one behind the other. -/
def OpensFields {α : Type} (P : Program) (fs : List Field) (off : Nat) (d : Kd α) (G : α → Prop) : Prop :=
  ∀ (H : Type) (enc : TypeId × Value → H) (W : World) (fuel : Nat) (cs : List Value) (xs : List (DataW H × List MemPlace)), off + d.sz = cs.length → xs.length = fs.length →
    (∀ (i : Nat) (f : Field), fs[i]? = some f → DataW.trod enc P W 0 (fun _ => true) true fuel f.type ((cs.drop f.offset).take (P.cellsOf f.type)) = xs[i]?) →
    (∀ n ∈ DataW.weightsEach P (fs.map (·.type)) (xs.map (·.1)), n ≤ reachBytes) → ∃ a, d.K W a (cs.drop off) ∧ G a
theorem opens_one {α : Type} {d : Kd α} {G : α → Prop} {f : Field} {off : Nat} (ho : f.offset = off) (hc : P.cellsOf f.type = d.sz) (he : Opens P f.type d G) : OpensFields P [f] off d G := by
  intro H enc W fuel cs xs hl hx hf hw
  match xs, hx with
  | [x], _ =>
    have h0 := hf 0 f rfl
    rw [ho, hc, List.take_of_length_le (by rw [List.length_drop]; omega)] at h0
    exact he H enc W fuel _ x h0 (fun n hn => hw n (by simpa [DataW.weightsEach] using hn))
theorem opens_more {α β : Type} {d : Kd α} {d2 : Kd β} {G : α → Prop} {G2 : β → Prop} {f : Field} {fs : List Field} {off : Nat} (ho : f.offset = off) (hc : P.cellsOf f.type = d.sz) (he : Opens P f.type d G) (hs : OpensFields P fs (off + d.sz) d2 G2) :
    OpensFields P (f :: fs) off (Kd.pair d d2) (fun p => G p.1 ∧ G2 p.2) := by
  intro H enc W fuel cs xs hl hx hf hw
  have hl' : off + (d.sz + d2.sz) = cs.length := hl
  match xs, hx with
  | x :: xs, hx =>
    have h0 := hf 0 f rfl
    rw [ho, hc] at h0
    obtain ⟨a, h1, h2⟩ := he H enc W fuel _ x h0 (fun n hn => hw n (by simp only [List.map_cons, DataW.weightsEach, List.mem_append]; exact .inl hn))
    obtain ⟨b, h3, h4⟩ := hs H enc W fuel cs xs (by omega) (by simpa using hx) (fun i g hg => by simpa using hf (i + 1) g (by simpa using hg)) (fun n hn => hw n (by simp only [List.map_cons, DataW.weightsEach, List.mem_append]; exact .inr hn))
    refine ⟨(a, b), ⟨_, _, ?_, h1, h3⟩, h2, h4⟩
    rw [← List.drop_drop, List.take_append_drop]
theorem opens_struct {α : Type} {d : Kd α} {G : α → Prop} {fs : Array Field} (ht : P.underlying t = some (.struct fs)) (hc : P.cellsOf t = d.sz) (hf : OpensFields P fs.toList 0 d G) : Opens P t d G := by
  intro H enc W fuel cs x h hw
  obtain ⟨xs, n, _, rfl, hl, hlen, hg⟩ := DataW.trod_struct ht h
  have := hf H enc W n cs xs (by omega) (by simpa using hlen) (fun i f hi => hg i f (by simpa using hi)) (fun m hm => hw m (by simpa [DataW.weights, ht] using hm))
  simpa using this
theorem opens_iso {α β : Type} {d : Kd α} {G : α → Prop} (f : β → α) (g : α → β) (hfg : ∀ a, f (g a) = a) (h : Opens P t d G) : Opens P t (Kd.iso d f) (fun b => G (f b)) := by
  intro H enc W fuel cs x hx hw
  obtain ⟨a, h1, h2⟩ := h H enc W fuel cs x hx hw
  exact ⟨g a, by show d.K W (f (g a)) cs; rw [hfg]; exact h1, by show G (f (g a)); rw [hfg]; exact h2⟩
/-- An array's elements, one behind the other. -/
theorem opens_array {α : Type} {d : Kd α} {G : α → Prop} {n : Nat} (ht : P.underlying t = some (.array n e)) (hc : P.cellsOf e = d.sz) (hct : P.cellsOf t = n * d.sz) (he : Opens P e d G)
    {H : Type} (enc : TypeId × Value → H) (W : World) (fuel : Nat) (cs : List Value) (x : DataW H × List MemPlace) (h : DataW.trod enc P W 0 (fun _ => true) true fuel t cs = some x) (hw : ∀ m ∈ x.1.weights P t, m ≤ reachBytes) :
    ∃ xs : List α, xs.length = n ∧ Reps (d.K W) d.sz xs cs ∧ ∀ a ∈ xs, G a := by
  obtain ⟨ys, m, _, rfl, hl, hlen, hg⟩ := DataW.trod_array ht h
  have hall : ∀ i : Fin n, ∃ p : α, d.K W p ((cs.drop (i.1 * d.sz)).take d.sz) ∧ G p := by
    intro i
    have hi : i.1 < ys.length := by have := i.2; omega
    have h1 := hg i.1 i.2
    rw [List.getElem?_eq_getElem hi, hc] at h1
    exact he H enc W m _ _ h1 (fun k hk => hw k (by
      simp only [DataW.weights, ht]
      exact weights_all (List.mem_map.2 ⟨_, List.getElem_mem hi, rfl⟩) k hk))
  refine ⟨List.ofFn fun i => Classical.choose (hall i), by simp, ⟨by rw [hl, hct, List.length_ofFn], fun j p hj => ?_⟩, fun p hp => ?_⟩
  · obtain ⟨hjl, hjp⟩ := List.getElem?_eq_some_iff.1 hj
    simp only [List.length_ofFn] at hjl
    have h2 := Classical.choose_spec (hall ⟨j, hjl⟩)
    rw [List.getElem_ofFn] at hjp
    rw [hjp] at h2
    exact h2.1
  · obtain ⟨i, rfl⟩ := (List.mem_ofFn).1 hp
    exact (Classical.choose_spec (hall i)).2
theorem okWide_array {W : World} {r : Reach} {b0 n : Nat} {v : Value} (ht : P.underlying t = some (.array n e)) (h : Value.okWide P W r b0 t v) : ∃ cs, v = .agg cs := by
  simp only [Value.okWide, ht] at h
  obtain ⟨cs, h1, _, _⟩ := h
  exact ⟨cs, h1⟩
theorem weights_each {H : Type} {P : Program} {ts : List TypeId} {ds : List (DataW H)} (h : (DataW.weightsEach P ts ds).all (· ≤ reachBytes) = true) {j : Nat} {t : TypeId} {d : DataW H} (ht : ts[j]? = some t) (hd : ds[j]? = some d) : ∀ n ∈ d.weights P t, n ≤ reachBytes := fun n hn => by
  simpa using List.all_eq_true.1 h _ (DataW.weights_mem_each ht hd n hn)
end
end Go.Proofs.YtlhnaplmphdhlaaDoor.Q
end
