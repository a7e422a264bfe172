/- The walk of the law NvramCuts. -/
import Derived.Test.YtlpagilpbdiniaaHNvApP
import Derived.Test.YtlpagilpbdiniaaHNvPlanC
import Derived.Test.YtlpagilpbdiniaaHNvCutP
import Derived.Test.YtlpagilpbdiniaaQTinderref04Same
namespace Go.Proofs.Ytlpagilpbdiniaa.Q
open Go.RowKit Go.Proofs.YtlpagilpbdiniaaW.PrintWords Go.Proofs.YtlpagilpbdiniaaW.PrintLast Go.Proofs.YtlpagilpbdiniaaW.PrintMore
theorem at_slice {α : Type} {e : Nat} {d : Kd α} {w : World} {A : Option Addr} {n : Nat} {xs : List (List α)} (h : (Kd.slice e d).C w A n xs) (i : Int) (h0 : 0 ≤ i) (h1 : i < n) :
    ∃ ad A' c', A = some ad ∧ w.cell? (ad.add i.toNat) = some (.slice A' (xs.getD i.toNat []).length c') ∧ (xs.getD i.toNat []).length ≤ c' ∧ d.C w A' (xs.getD i.toNat []).length (xs.getD i.toNat []) := by
  obtain ⟨ad, c, hA, hc, ⟨A', c', rfl, hl, hC⟩, hcell⟩ := ReadsRow.get_ h [] i h0 h1
  refine ⟨ad, A', c', hA, ?_, hl, hC⟩
  have h2 := hcell 0 _ rfl
  have h3 : (Kd.slice e d).sz = 1 := rfl
  rw [h3, Nat.mul_one, Nat.add_zero] at h2
  exact h2
set_option maxHeartbeats 4000000 in
set_option maxRecDepth 100000 in
theorem nvramCuts_row (A0 : Option Addr) (c0 : Nat) (l0 : List Int) {w : World} (hr0 : Kd.C (Kd.int .u8) w A0 l0.length l0) (hc0 : l0.length ≤ c0) (hg0 : l0.length * 1 ≤ 140737488351232 ∧ ∀ a ∈ l0, (Lit.int .u8 a).wf = true)
    (A1 : Option Addr) (c1 : Nat) (l1 : List (List Int)) (hr1 : Kd.C (Kd.slice 5 (Kd.int .u8)) w A1 l1.length l1) (_hc1 : l1.length ≤ c1) (hg1 : l1.length * 24 ≤ 140737488351232 ∧ ∀ p ∈ l1, p.length * 1 ≤ 140737488351232 ∧ ∀ a ∈ p, (Lit.int .u8 a).wf = true)
    (A2 : Option Addr) (c2 : Nat) (l2 : List Int) (hr2 : Kd.C (Kd.int .i64) w A2 l2.length l2) (_hc2 : l2.length ≤ c2) (hg2 : l2.length * 8 ≤ 140737488351232 ∧ ∀ a ∈ l2, (Lit.int .i64 a).wf = true) :
    Calls Try.prog 8 #[.slice A0 l0.length c0, .slice A1 l1.length c1, .slice A2 l2.length c2] w fun e w' => e = .returned (.bool true) ∧ Below w.heap.size w w' := by
  have HAl := Aside0.mk (show ∀ W : World, Calls Try.prog 10 #[] W (fun e w' => e = .returned (.bool true) ∧ Below W.heap.size W w') from fun W => tinderlaw18_alive.calls 40 true W (alive18 40 (by omega)))
  have HByt := Aside0.mk (show Bytes l0 from bytes_wf hg0.2)
  have HD8 := Aside0.mk (show ∀ i : Int, 0 ≤ i → i < l1.length → Bytes (l1.getD i.toNat []) from fun i h0 h1 => by
    rw [List.getD_eq_getElem?_getD, List.getElem?_eq_getElem (show i.toNat < l1.length by omega)]
    exact bytes_wf (hg1.2 _ (List.getElem_mem _)).2)
  have HR0 := Aside0.mk hr0
  have HR1 := Aside0.mk hr1
  have HR2 := Aside0.mk hr2
  have HC0 := Aside0.mk hc0
  have HB := Aside0.mk (Below.refl w.heap.size w)
  have hl2 : l2.length ≤ 140737488351232 := by omega
  clear hr0 hr1 hr2 hg0 hg1 hg2 hc0 _hc1 _hc2
  by_cases h5 : l0.length = 512
  · by_cases h50 : l1.length ≤ 50
    · have d1 : (((l0.length : Nat) : Int) != 512) = false := by simp [h5]
      have d2 : decide (50 < (l1.length : Int)) = false := decide_eq_false (by omega)
      have HL5 := Aside0.mk h5
      have HRef := Aside0.mk (show ∀ W : World, Kd.C (Kd.int .u8) W A0 l0.length l0 → Calls Try.prog 15 #[.slice A0 l0.length c0] W (fun e w' => ∃ v0_ : Value, e = .returned (.tuple #[v0_, .int .i64 (recF l0).2.1, .bool (recF l0).2.2]) ∧ Kd.R (Kd.int .u8) 5 w' W.heap.size (fun _ => True) v0_ (recF l0).1 ∧ Below W.heap.size W w') from fun W h => by
        have e : tinderref18_Recover.f l0 = some (recF l0) := by unfold tinderref18_Recover.f; rw [if_pos (bytesB_iff.2 HByt.out), rec_eq l0 HByt.out]
        exact tinderref18_Recover.calls _ _ _ _ _ _ _ h HC0.out e)
      clear h5
      have h50' := Aside0.mk h50
      clear h50
      go_enter Try.func8, Try.ntmps8
      go_wp2_with (first
        | (go_at_call 10; (with_reducible refine (HAl.out _).mono ?_); rintro e w1 ⟨rfl, hb⟩; have HB1 := Aside0.mk (below_step HB.out hb); have HC1 := Aside0.mk (Kd.C_below HR0.out hb); clear hb)
        | (go_at_call 15; (with_reducible refine (HRef.out _ HC1.out).mono ?_); rintro e w2 ⟨v, rfl, ho, hb⟩; obtain ⟨An, cn, rfl⟩ := Kd.R_slice ho; have HN := Aside0.mk ho; have HB2 := Aside0.mk (below_step HB1.out hb); clear ho hb))
      go_loopg [0, 7, 9, 10] l1.length (fun kq v0 v7 v9 v10 w' => ∃ (i : Int) (L N : List Int) (ok : Bool) (Av : Option Addr) (cv : Nat) (An : Option Addr) (cn : Nat), v0 = .slice Av L.length cv ∧ v7 = .slice An N.length cn ∧ v9 = .bool ok ∧ v10 = .int .i64 i ∧ Aside0 (0 ≤ i ∧ i + kq = l1.length) ∧ Aside0 (L.length = 512 ∧ Bytes L ∧ (recF L).1 = N ∧ (recF L).2.2 = ok ∧ L.length ≤ cv ∧ N.length ≤ cn) ∧ Aside0 (Kd.C (Kd.int .u8) w' Av L.length L) ∧ Aside0 (Kd.C (Kd.int .u8) w' An N.length N) ∧ Aside0 (Kd.C (Kd.slice 5 (Kd.int .u8)) w' A1 l1.length l1) ∧ Aside0 (Kd.C (Kd.int .i64) w' A2 l2.length l2) ∧ Aside0 (Below w.heap.size w w'))
      case atStart =>
        have hN := Kd.R_reads' HN.out
        exact ⟨0, l0, (recF l0).1, (recF l0).2.2, A0, c0, An, cn, rfl, rfl, rfl, rfl, ⟨by omega, by omega⟩, ⟨HL5.out, HByt.out, rfl, rfl, HC0.out, hN.2.1⟩, ⟨Kd.C_below HR0.out HB2.out⟩, ⟨hN.2.2⟩, ⟨Kd.C_below HR1.out HB2.out⟩, ⟨Kd.C_below HR2.out HB2.out⟩, HB2⟩
      case round =>
        clear HN HB1 HB2 HC1 HR0 HR1 HR2 HB HC0 HByt HL5 HRef HAl d1 d2
        obtain ⟨i, L, N, ok, Av, cv, An, cn, rfl, rfl, rfl, rfl, HI, HF, HV, HN, HS, HQ, HB⟩ := hrel
        cases gk with
        | zero =>
          have hlt : decide (i < (l1.length : Int)) = false := decide_eq_false (by have := HI.out; omega)
          go_wp2
          go_ret
          exact ⟨rfl, HB.out⟩
        | succ k1 =>
          have hi := HI.out
          have h50 := h50'.out
          have hlt : decide (i < (l1.length : Int)) = true := decide_eq_true (by omega)
          have p1 : (0 ≤ i) = True := eq_true (by omega)
          have p2 : (i < (l1.length : Int)) = True := eq_true (by omega)
          have hw : IntKind.i64.wrap (i + 1) = i + 1 := (i64_w _).trans (by unfold wrap64; omega)
          obtain ⟨ad, AD, cD, eA, hxD, hcD, hCD⟩ := at_slice HS.out i (by omega) (by omega)
          have hDb := HD8.out i (by omega) (by omega)
          obtain ⟨D, hD⟩ : ∃ D, D = l1.getD i.toNat [] := ⟨_, rfl⟩
          rw [← hD] at hxD hcD hCD hDb
          cases eA
          have HCD := Aside0.mk hCD
          have HcD := Aside0.mk hcD
          obtain ⟨hL5, hLb, hLN, hLok, hcv, hcn⟩ := HF.out
          clear hD hCD hcD HF
          have HCV := Aside0.mk hcv
          have HCN := Aside0.mk hcn
          clear hcv hcn
          by_cases h248 : D.length ≤ 248
          · obtain ⟨rows, hrows⟩ : ∃ rows, rows = rowsF (baseF L) (genF L) D := ⟨_, rfl⟩
            have hrl : rows.length = D.length + 9 := by rw [hrows]; exact rowsF_len _ _ _
            have HPl := Aside0.mk (show ∀ W : World, Kd.C (Kd.int .u8) W Av L.length L → Kd.C (Kd.int .u8) W AD D.length D → Calls Try.prog 17 #[.slice Av L.length cv, .slice AD D.length cD] W (fun e w' => ∃ v0_ : Value, e = .returned (.tuple #[v0_, .int .i64 0]) ∧ Kd.R k62 62 w' W.heap.size (fun _ => True) v0_ rows ∧ Below W.heap.size W w') from fun W h1 h2 => by
              refine nvram_Plan.calls _ _ _ _ _ _ _ _ _ h1 HCV.out h2 HcD.out ?_
              unfold nvram_Plan.f planF
              rw [if_pos (bytesB_iff.2 hLb), if_pos hL5, if_pos h248, hrows])
            have hcut : ∀ n : Int, Bytes (applyF L rows n) ∧ (applyF L rows n).length = 512 ∧ ((D.length : Int) + 9 ≤ n → ∃ k, recF (applyF L rows n) = (D, k, true)) ∧ (n < (D.length : Int) + 9 → recF (applyF L rows n) = recF L) := fun n => by rw [hrows]; exact cut_rec L D n hL5 h248 hLb hDb
            clear hrows
            have hap : ∀ n : Int, ∀ (W : World) (Ar : Option Addr) (cr : Nat), Kd.C (Kd.int .u8) W Av L.length L → Kd.C k62 W Ar rows.length rows → rows.length ≤ cr → Calls Try.prog 20 #[.slice Av L.length cv, .slice Ar rows.length cr, .int .i64 n] W (fun e w' => ∃ v0_ : Value, e = .returned v0_ ∧ Kd.R (Kd.int .u8) 5 w' W.heap.size (fun _ => True) v0_ (applyF L rows n) ∧ Below W.heap.size W w') := fun n W Ar cr h1 h2 h3 =>
              nvram_Apply.calls (rows.length + 1) _ _ _ _ _ _ _ _ _ h1 HCV.out h2 h3 (apply_eq _ _ _ _ (by omega) (by omega) (by omega))
            have HSame := Aside0.mk (show ∀ (l : List Int) (W : World) (Aa : Option Addr) (ca : Nat) (Ab : Option Addr) (cb : Nat), Kd.C (Kd.int .u8) W Aa l.length l → l.length ≤ ca → Kd.C (Kd.int .u8) W Ab l.length l → l.length ≤ cb → Calls Try.prog 16 #[.slice Aa l.length ca, .slice Ab l.length cb] W (fun e w' => e = .returned (.bool true) ∧ Below W.heap.size W w') from fun l W Aa ca Ab cb h1 h2 h3 h4 =>
              (tinderref04_Same.calls _ _ _ _ _ _ _ _ h1 h2 h3 h4 (by unfold tinderref04_Same.f; simp)).mono (fun e w' h => ⟨h.1, h.2.below⟩))
            have HCUT := Aside0.mk hcut
            have HAPP := Aside0.mk hap
            have HLN := Aside0.mk hLN
            have HLok := Aside0.mk hLok
            have HL5 := Aside0.mk hL5
            have HLb := Aside0.mk hLb
            have HDb := Aside0.mk hDb
            have HI1 := Aside0.mk hi
            clear hcut hap hLN hLok hL5 hLb hDb h248 hi
            have hi0 : 0 ≤ i := HI1.out.1
            by_cases hc2 : i < (l2.length : Int)
            · by_cases hge : (rows.length : Int) ≤ rd l2 i
              · obtain ⟨ad2, eA2, hx2⟩ := Kd.at_int HQ.out i hi0 hc2
                cases eA2
                obtain ⟨n, hn⟩ : ∃ n, n = rd l2 i := ⟨_, rfl⟩
                rw [← hn] at hx2 hge
                have q2 : (i < (l2.length : Int)) = True := eq_true hc2
                have d3 : decide (i < (l2.length : Int)) = true := decide_eq_true hc2
                clear hn
                have d4 : decide ((rows.length : Int) ≤ n) = true := decide_eq_true (by omega)
                obtain ⟨hb1, hb2, hb3, hb4⟩ := HCUT.out n
                have HAp := Aside0.mk (HAPP.out n)
                obtain ⟨L2, hL2⟩ : ∃ L2, L2 = applyF L rows n := ⟨_, rfl⟩
                rw [← hL2] at hb1 hb2 hb3 hb4 HAp
                obtain ⟨kk, hk⟩ := hb3 (by omega)
                have hrk : recF L2 = (D, (recF L2).2.1, true) := by rw [hk]
                obtain ⟨j2, hj2⟩ : ∃ j2, j2 = (recF L2).2.1 := ⟨_, rfl⟩
                rw [← hj2] at hrk
                have HRc := Aside0.mk (show ∀ (W : World) (Av : Option Addr) (cv : Nat), Kd.C (Kd.int .u8) W Av L2.length L2 → L2.length ≤ cv → Calls Try.prog 14 #[.slice Av L2.length cv] W (fun e w' => ∃ v0_ : Value, e = .returned (.tuple #[v0_, .int .i64 j2, .bool true]) ∧ Kd.R (Kd.int .u8) 5 w' W.heap.size (fun _ => True) v0_ D ∧ Below W.heap.size W w') from fun W Av cv h1 h2 => nvram_Recover.calls _ _ _ _ _ _ _ h1 h2 (by unfold nvram_Recover.f; rw [if_pos (bytesB_iff.2 hb1), hrk]))
                have HNEW := Aside0.mk (show L2.length = 512 ∧ Bytes L2 ∧ (recF L2).1 = D ∧ (recF L2).2.2 = true from ⟨hb2, hb1, by rw [hrk], by rw [hrk]⟩)
                clear hb1 hb2 hb3 hb4 hrk hj2 hL2 hrl hge hi0 hc2 hl2 h50 HCUT HAPP hk
                go_wp2_with (first
                  | (go_at_call 17; (with_reducible refine (HPl.out _ ?cp ?cq).mono ?_); (case cp => exact HV.out); (case cq => exact HCD.out); rintro e w3 ⟨v, rfl, ho, hb⟩; obtain ⟨Ar, cr, rfl⟩ := Kd.R_slice ho; have HO3 := Aside0.mk (Kd.R_reads' ho); have hxD3 := pw_cell_below hb hxD; have hx23 := pw_cell_below hb hx2; clear hx2; have HV3 := Aside0.mk (Kd.C_below HV.out hb); have HN3 := Aside0.mk (Kd.C_below HN.out hb); have HS3 := Aside0.mk (Kd.C_below HS.out hb); have HQ3 := Aside0.mk (Kd.C_below HQ.out hb); have HCD3 := Aside0.mk (Kd.C_below HCD.out hb); have HB3 := Aside0.mk (below_step HB.out hb); clear hxD ho hb HV HN HS HQ HCD HB)
                  | (go_at_call 20; (with_reducible refine (HAp.out _ _ _ ?cp ?cq ?cr).mono ?_); (case cp => exact HV3.out); (case cq => exact HO3.out.2.2); (case cr => exact HO3.out.2.1); rintro e w4 ⟨v, rfl, ho, hb⟩; obtain ⟨Av4, cv4, rfl⟩ := Kd.R_slice ho; have HV4 := Aside0.mk (Kd.R_reads' ho); have hxD4 := pw_cell_below hb hxD3; have HN4 := Aside0.mk (Kd.C_below HN3.out hb); have HS4 := Aside0.mk (Kd.C_below HS3.out hb); have HQ4 := Aside0.mk (Kd.C_below HQ3.out hb); have HCD4 := Aside0.mk (Kd.C_below HCD3.out hb); have HB4 := Aside0.mk (below_step HB3.out hb); clear hxD3 ho hb HN3 HS3 HQ3 HCD3 HB3)
                  | (go_at_call 14; (with_reducible refine (HRc.out _ _ _ ?cp ?cq).mono ?_); (case cp => exact HV4.out.2.2); (case cq => exact HV4.out.2.1); rintro e w5 ⟨v, rfl, ho, hb⟩; obtain ⟨An5, cn5, rfl⟩ := Kd.R_slice ho; have HR5 := Aside0.mk (Kd.R_reads' ho); have HV5 := Aside0.mk (Kd.C_below HV4.out.2.2 hb); have HN5 := Aside0.mk (Kd.C_below HN4.out hb); have HS5 := Aside0.mk (Kd.C_below HS4.out hb); have HQ5 := Aside0.mk (Kd.C_below HQ4.out hb); have HCD5 := Aside0.mk (Kd.C_below HCD4.out hb); have HB5 := Aside0.mk (below_step HB4.out hb); clear hxD4 ho hb HN4 HS4 HQ4 HCD4 HB4)
                  | (go_at_call 16; (with_reducible refine (HSame.out _ _ _ _ _ _ ?cp ?cq ?cr ?cs).mono ?_); (case cp => exact HR5.out.2.2); (case cq => exact HR5.out.2.1); (case cr => exact HCD5.out); (case cs => exact HcD.out); rintro e w6 ⟨rfl, hb⟩; have HV6 := Aside0.mk (Kd.C_below HV5.out hb); have HN6 := Aside0.mk (Kd.C_below HN5.out hb); have HS6 := Aside0.mk (Kd.C_below HS5.out hb); have HQ6 := Aside0.mk (Kd.C_below HQ5.out hb); have HCD6 := Aside0.mk (Kd.C_below HCD5.out hb); have HB6 := Aside0.mk (below_step HB5.out hb); clear hb HV5 HN5 HS5 HQ5 HCD5 HB5))
                go_roundg k1
                case measure => omega
                case rel =>
                  have hi := HI1.out
                  have hn := HNEW.out
                  exact ⟨i + 1, L2, D, true, Av4, cv4, AD, cD, rfl, rfl, rfl, rfl, ⟨by omega, by omega⟩, ⟨hn.1, hn.2.1, hn.2.2.1, hn.2.2.2, HV4.out.2.1, HcD.out⟩, HV6, HCD6, HS6, HQ6, HB6⟩
              · obtain ⟨ad2, eA2, hx2⟩ := Kd.at_int HQ.out i hi0 hc2
                cases eA2
                obtain ⟨n, hn⟩ : ∃ n, n = rd l2 i := ⟨_, rfl⟩
                rw [← hn] at hx2 hge
                have q2 : (i < (l2.length : Int)) = True := eq_true hc2
                have d3 : decide (i < (l2.length : Int)) = true := decide_eq_true hc2
                clear hn
                have d4 : decide ((rows.length : Int) ≤ n) = false := decide_eq_false (by omega)
                obtain ⟨hb1, hb2, hb3, hb4⟩ := HCUT.out n
                have HAp := Aside0.mk (HAPP.out n)
                obtain ⟨L2, hL2⟩ : ∃ L2, L2 = applyF L rows n := ⟨_, rfl⟩
                rw [← hL2] at hb1 hb2 hb3 hb4 HAp
                have hrk : recF L2 = (N, (recF L2).2.1, ok) := by rw [hb4 (by omega), ← HLN.out, ← HLok.out]
                have hne : (ok != ok) = false := by cases ok <;> rfl
                obtain ⟨j2, hj2⟩ : ∃ j2, j2 = (recF L2).2.1 := ⟨_, rfl⟩
                rw [← hj2] at hrk
                have HRc := Aside0.mk (show ∀ (W : World) (Av : Option Addr) (cv : Nat), Kd.C (Kd.int .u8) W Av L2.length L2 → L2.length ≤ cv → Calls Try.prog 14 #[.slice Av L2.length cv] W (fun e w' => ∃ v0_ : Value, e = .returned (.tuple #[v0_, .int .i64 j2, .bool ok]) ∧ Kd.R (Kd.int .u8) 5 w' W.heap.size (fun _ => True) v0_ N ∧ Below W.heap.size W w') from fun W Av cv h1 h2 => nvram_Recover.calls _ _ _ _ _ _ _ h1 h2 (by unfold nvram_Recover.f; rw [if_pos (bytesB_iff.2 hb1), hrk]))
                have HNEW := Aside0.mk (show L2.length = 512 ∧ Bytes L2 ∧ (recF L2).1 = N ∧ (recF L2).2.2 = ok from ⟨hb2, hb1, by rw [hrk], by rw [hrk]⟩)
                clear hb1 hb2 hb3 hb4 hrk hj2 hL2 hrl hge hi0 hc2 hl2 h50 HCUT HAPP
                go_wp2_with (first
                  | (go_at_call 17; (with_reducible refine (HPl.out _ ?cp ?cq).mono ?_); (case cp => exact HV.out); (case cq => exact HCD.out); rintro e w3 ⟨v, rfl, ho, hb⟩; obtain ⟨Ar, cr, rfl⟩ := Kd.R_slice ho; have HO3 := Aside0.mk (Kd.R_reads' ho); have hxD3 := pw_cell_below hb hxD; have hx23 := pw_cell_below hb hx2; clear hx2; have HV3 := Aside0.mk (Kd.C_below HV.out hb); have HN3 := Aside0.mk (Kd.C_below HN.out hb); have HS3 := Aside0.mk (Kd.C_below HS.out hb); have HQ3 := Aside0.mk (Kd.C_below HQ.out hb); have HCD3 := Aside0.mk (Kd.C_below HCD.out hb); have HB3 := Aside0.mk (below_step HB.out hb); clear hxD ho hb HV HN HS HQ HCD HB)
                  | (go_at_call 20; (with_reducible refine (HAp.out _ _ _ ?cp ?cq ?cr).mono ?_); (case cp => exact HV3.out); (case cq => exact HO3.out.2.2); (case cr => exact HO3.out.2.1); rintro e w4 ⟨v, rfl, ho, hb⟩; obtain ⟨Av4, cv4, rfl⟩ := Kd.R_slice ho; have HV4 := Aside0.mk (Kd.R_reads' ho); have hxD4 := pw_cell_below hb hxD3; have HN4 := Aside0.mk (Kd.C_below HN3.out hb); have HS4 := Aside0.mk (Kd.C_below HS3.out hb); have HQ4 := Aside0.mk (Kd.C_below HQ3.out hb); have HCD4 := Aside0.mk (Kd.C_below HCD3.out hb); have HB4 := Aside0.mk (below_step HB3.out hb); clear hxD3 ho hb HN3 HS3 HQ3 HCD3 HB3)
                  | (go_at_call 14; (with_reducible refine (HRc.out _ _ _ ?cp ?cq).mono ?_); (case cp => exact HV4.out.2.2); (case cq => exact HV4.out.2.1); rintro e w5 ⟨v, rfl, ho, hb⟩; obtain ⟨An5, cn5, rfl⟩ := Kd.R_slice ho; have HR5 := Aside0.mk (Kd.R_reads' ho); have HV5 := Aside0.mk (Kd.C_below HV4.out.2.2 hb); have HN5 := Aside0.mk (Kd.C_below HN4.out hb); have HS5 := Aside0.mk (Kd.C_below HS4.out hb); have HQ5 := Aside0.mk (Kd.C_below HQ4.out hb); have HCD5 := Aside0.mk (Kd.C_below HCD4.out hb); have HB5 := Aside0.mk (below_step HB4.out hb); clear hxD4 ho hb HN4 HS4 HQ4 HCD4 HB4)
                  | (go_at_call 16; (with_reducible refine (HSame.out _ _ _ _ _ _ ?cp ?cq ?cr ?cs).mono ?_); (case cp => exact HR5.out.2.2); (case cq => exact HR5.out.2.1); (case cr => exact HN5.out); (case cs => exact HCN.out); rintro e w6 ⟨rfl, hb⟩; have HV6 := Aside0.mk (Kd.C_below HV5.out hb); have HN6 := Aside0.mk (Kd.C_below HN5.out hb); have HS6 := Aside0.mk (Kd.C_below HS5.out hb); have HQ6 := Aside0.mk (Kd.C_below HQ5.out hb); have HCD6 := Aside0.mk (Kd.C_below HCD5.out hb); have HB6 := Aside0.mk (below_step HB5.out hb); clear hb HV5 HN5 HS5 HQ5 HCD5 HB5))
                go_roundg k1
                case measure => omega
                case rel =>
                  have hi := HI1.out
                  have hn := HNEW.out
                  exact ⟨i + 1, L2, N, ok, Av4, cv4, An, cn, rfl, rfl, rfl, rfl, ⟨by omega, by omega⟩, ⟨hn.1, hn.2.1, hn.2.2.1, hn.2.2.2, HV4.out.2.1, HCN.out⟩, HV6, HN6, HS6, HQ6, HB6⟩
            · obtain ⟨n, hn⟩ : ∃ n, n = (rows.length : Int) := ⟨_, rfl⟩
              have hge : (rows.length : Int) ≤ n := by omega
              have d3 : decide (i < (l2.length : Int)) = false := decide_eq_false (by omega)
              have d4 : decide ((rows.length : Int) ≤ (rows.length : Int)) = true := decide_eq_true (by omega)
              obtain ⟨hb1, hb2, hb3, hb4⟩ := HCUT.out (rows.length : Int)
              have HAp := Aside0.mk (HAPP.out (rows.length : Int))
              obtain ⟨L2, hL2⟩ : ∃ L2, L2 = applyF L rows (rows.length : Int) := ⟨_, rfl⟩
              rw [← hL2] at hb1 hb2 hb3 hb4 HAp
              obtain ⟨kk, hk⟩ := hb3 (by omega)
              have hrk : recF L2 = (D, (recF L2).2.1, true) := by rw [hk]
              obtain ⟨j2, hj2⟩ : ∃ j2, j2 = (recF L2).2.1 := ⟨_, rfl⟩
              rw [← hj2] at hrk
              have HRc := Aside0.mk (show ∀ (W : World) (Av : Option Addr) (cv : Nat), Kd.C (Kd.int .u8) W Av L2.length L2 → L2.length ≤ cv → Calls Try.prog 14 #[.slice Av L2.length cv] W (fun e w' => ∃ v0_ : Value, e = .returned (.tuple #[v0_, .int .i64 j2, .bool true]) ∧ Kd.R (Kd.int .u8) 5 w' W.heap.size (fun _ => True) v0_ D ∧ Below W.heap.size W w') from fun W Av cv h1 h2 => nvram_Recover.calls _ _ _ _ _ _ _ h1 h2 (by unfold nvram_Recover.f; rw [if_pos (bytesB_iff.2 hb1), hrk]))
              have HNEW := Aside0.mk (show L2.length = 512 ∧ Bytes L2 ∧ (recF L2).1 = D ∧ (recF L2).2.2 = true from ⟨hb2, hb1, by rw [hrk], by rw [hrk]⟩)
              clear hb1 hb2 hb3 hb4 hrk hj2 hL2 hrl hge hi0 hc2 hl2 h50 HCUT HAPP hk hn
              go_wp2_with (first
                | (go_at_call 17; (with_reducible refine (HPl.out _ ?cp ?cq).mono ?_); (case cp => exact HV.out); (case cq => exact HCD.out); rintro e w3 ⟨v, rfl, ho, hb⟩; obtain ⟨Ar, cr, rfl⟩ := Kd.R_slice ho; have HO3 := Aside0.mk (Kd.R_reads' ho); have hxD3 := pw_cell_below hb hxD; have HV3 := Aside0.mk (Kd.C_below HV.out hb); have HN3 := Aside0.mk (Kd.C_below HN.out hb); have HS3 := Aside0.mk (Kd.C_below HS.out hb); have HQ3 := Aside0.mk (Kd.C_below HQ.out hb); have HCD3 := Aside0.mk (Kd.C_below HCD.out hb); have HB3 := Aside0.mk (below_step HB.out hb); clear hxD ho hb HV HN HS HQ HCD HB)
                | (go_at_call 20; (with_reducible refine (HAp.out _ _ _ ?cp ?cq ?cr).mono ?_); (case cp => exact HV3.out); (case cq => exact HO3.out.2.2); (case cr => exact HO3.out.2.1); rintro e w4 ⟨v, rfl, ho, hb⟩; obtain ⟨Av4, cv4, rfl⟩ := Kd.R_slice ho; have HV4 := Aside0.mk (Kd.R_reads' ho); have hxD4 := pw_cell_below hb hxD3; have HN4 := Aside0.mk (Kd.C_below HN3.out hb); have HS4 := Aside0.mk (Kd.C_below HS3.out hb); have HQ4 := Aside0.mk (Kd.C_below HQ3.out hb); have HCD4 := Aside0.mk (Kd.C_below HCD3.out hb); have HB4 := Aside0.mk (below_step HB3.out hb); clear hxD3 ho hb HN3 HS3 HQ3 HCD3 HB3)
                | (go_at_call 14; (with_reducible refine (HRc.out _ _ _ ?cp ?cq).mono ?_); (case cp => exact HV4.out.2.2); (case cq => exact HV4.out.2.1); rintro e w5 ⟨v, rfl, ho, hb⟩; obtain ⟨An5, cn5, rfl⟩ := Kd.R_slice ho; have HR5 := Aside0.mk (Kd.R_reads' ho); have HV5 := Aside0.mk (Kd.C_below HV4.out.2.2 hb); have HN5 := Aside0.mk (Kd.C_below HN4.out hb); have HS5 := Aside0.mk (Kd.C_below HS4.out hb); have HQ5 := Aside0.mk (Kd.C_below HQ4.out hb); have HCD5 := Aside0.mk (Kd.C_below HCD4.out hb); have HB5 := Aside0.mk (below_step HB4.out hb); clear hxD4 ho hb HN4 HS4 HQ4 HCD4 HB4)
                | (go_at_call 16; (with_reducible refine (HSame.out _ _ _ _ _ _ ?cp ?cq ?cr ?cs).mono ?_); (case cp => exact HR5.out.2.2); (case cq => exact HR5.out.2.1); (case cr => exact HCD5.out); (case cs => exact HcD.out); rintro e w6 ⟨rfl, hb⟩; have HV6 := Aside0.mk (Kd.C_below HV5.out hb); have HN6 := Aside0.mk (Kd.C_below HN5.out hb); have HS6 := Aside0.mk (Kd.C_below HS5.out hb); have HQ6 := Aside0.mk (Kd.C_below HQ5.out hb); have HCD6 := Aside0.mk (Kd.C_below HCD5.out hb); have HB6 := Aside0.mk (below_step HB5.out hb); clear hb HV5 HN5 HS5 HQ5 HCD5 HB5))
              go_roundg k1
              case measure => omega
              case rel =>
                have hi := HI1.out
                have hn := HNEW.out
                exact ⟨i + 1, L2, D, true, Av4, cv4, AD, cD, rfl, rfl, rfl, rfl, ⟨by omega, by omega⟩, ⟨hn.1, hn.2.1, hn.2.2.1, hn.2.2.2, HV4.out.2.1, HcD.out⟩, HV6, HCD6, HS6, HQ6, HB6⟩
          · have h3 := decide_eq_true (show 248 < (D.length : Int) by omega)
            obtain ⟨X, hX⟩ : ∃ X, X = (planF L D).1 := ⟨_, rfl⟩
            have HPl := Aside0.mk (show ∀ W : World, Kd.C (Kd.int .u8) W Av L.length L → Kd.C (Kd.int .u8) W AD D.length D → Calls Try.prog 17 #[.slice Av L.length cv, .slice AD D.length cD] W (fun e w' => ∃ v0_ : Value, e = .returned (.tuple #[v0_, .int .i64 3]) ∧ Kd.R k62 62 w' W.heap.size (fun _ => True) v0_ X ∧ Below W.heap.size W w') from fun W h1 h2 => by
              refine nvram_Plan.calls _ _ _ _ _ _ _ _ _ h1 HCV.out h2 HcD.out ?_
              have e3 : (planF L D).2 = 3 := by unfold planF; rw [if_pos hL5, if_neg h248]
              unfold nvram_Plan.f
              rw [if_pos (bytesB_iff.2 hLb), hX, ← e3])
            clear hX hLb hL5 hLN hLok hDb h248 hi
            go_wp2_with (first
              | (go_at_call 17; (with_reducible refine (HPl.out _ ?cp ?cq).mono ?_); (case cp => exact HV.out); (case cq => exact HCD.out); rintro e w3 ⟨v, rfl, ho, hb⟩; obtain ⟨Ar, cr, rfl⟩ := Kd.R_slice ho; have hxD3 := pw_cell_below hb hxD; have HB3 := Aside0.mk (below_step HB.out hb); clear hxD ho hb))
            go_ret
            exact ⟨rfl, HB3.out⟩
    · have d1 : (((l0.length : Nat) : Int) != 512) = false := by simp [h5]
      have d2 : decide (50 < (l1.length : Int)) = true := decide_eq_true (by omega)
      clear h5 h50 hl2
      go_enter Try.func8, Try.ntmps8
      go_wp2_with (first
        | (go_at_call 10; (with_reducible refine (HAl.out _).mono ?_); rintro e w1 ⟨rfl, hb⟩; have HB1 := Aside0.mk (below_step HB.out hb); clear hb))
      go_ret
      exact ⟨rfl, HB1.out⟩
  · have d1 : (((l0.length : Nat) : Int) != 512) = true := by simp; omega
    clear h5 hl2
    go_enter Try.func8, Try.ntmps8
    go_wp2_with (first
      | (go_at_call 10; (with_reducible refine (HAl.out _).mono ?_); rintro e w1 ⟨rfl, hb⟩; have HB1 := Aside0.mk (below_step HB.out hb); clear hb))
    go_ret
    exact ⟨rfl, HB1.out⟩
end Go.Proofs.Ytlpagilpbdiniaa.Q
