/- The row of bytes that nvram.Plan answers. -/
import Derived.Test.YtlpagilpbdiniaaHNvLay
namespace Go.Proofs.Ytlpagilpbdiniaa.Q
open Go.RowKit Go.Proofs.YtlpagilpbdiniaaW.PrintWords Go.Proofs.YtlpagilpbdiniaaW.PrintLast Go.Proofs.YtlpagilpbdiniaaW.PrintMore
def genF (nv : List Int) : Int := if 0 ≤ countsF nv then (rd nv (countsF nv * 256 + 1) + 1) % 256 else 1
def baseF (nv : List Int) : Int := if 0 ≤ countsF nv then (1 - countsF nv) * 256 else 0
def rowsF (base g : Int) (data : List Int) : List S62 :=
  layF base (layF base (layF base [⟨base, 0⟩] [g, (data.length : Int) / 256 % 256, (data.length : Int) % 256]) (fourF (sumF g data))) data ++ [⟨base, 165⟩]
def planF (nv data : List Int) : List S62 × Int :=
  if nv.length = 512 then (if data.length ≤ 248 then (rowsF (baseF nv) (genF nv) data, 0) else ([], 3)) else ([], 1)
theorem rowsF_len (base g : Int) (data : List Int) : (rowsF base g data).length = data.length + 9 := by
  unfold rowsF
  rw [List.length_append, layF_len, layF_len, layF_len]
  simp [fourF]
  omega
theorem reps_single (W : World) (base : Nat) (ok : Nat → Prop) (b v : Int) : Reps (k62.M W base ok) k62.sz [(⟨b, v⟩ : S62)] [.int .i64 b, .int .u8 v] := by
  refine ⟨rfl, fun m q hm => ?_⟩
  have h0 : m = 0 := by
    have := (List.getElem?_eq_some_iff.1 hm).1
    simp at this
    exact this
  subst h0
  simp at hm
  subst hm
  exact k62_mkM W base ok (⟨b, v⟩ : S62)
set_option maxHeartbeats 8000000 in
set_option maxRecDepth 100000 in
theorem plan_calls (A0 : Option Addr) (c0 : Nat) (nv : List Int) (A1 : Option Addr) (c1 : Nat) (data : List Int) (w : World) (hr0 : Kd.C (Kd.int .u8) w A0 nv.length nv) (hc0 : nv.length ≤ c0) (hb0 : Bytes nv) (hr1 : Kd.C (Kd.int .u8) w A1 data.length data) (hc1 : data.length ≤ c1) :
    Calls Try.prog 17 #[.slice A0 nv.length c0, .slice A1 data.length c1] w fun e w' => ∃ v : Value, e = .returned (.tuple #[v, .int .i64 (planF nv data).2]) ∧ Kd.R k62 62 w' w.heap.size (fun _ => True) v (planF nv data).1 ∧ Below w.heap.size w w' := by
  obtain ⟨Z, hZ⟩ : ∃ Z, Z = byteCells (List.replicate 512 0) := ⟨_, rfl⟩
  obtain ⟨L, hL⟩ : ∃ L, L = bothF nv := ⟨_, rfl⟩
  obtain ⟨k, hk⟩ : ∃ k, k = countsF L := ⟨_, rfl⟩
  obtain ⟨ok, hok⟩ : ∃ ok, ok = decide (nv.length = 512) := ⟨_, rfl⟩
  obtain ⟨R, hR⟩ : ∃ R, R = planF nv data := ⟨_, rfl⟩
  rw [← hR]
  have hLl : L.length = 512 := by rw [hL]; exact bothF_len nv
  have hLb : Bytes L := hL ▸ bothF_bytes hb0
  have HLB := Aside0.mk hLb
  have HZL := Aside0.mk (show Z.length = 512 by rw [hZ, byteCells_len]; simp)
  have HLC := Aside0.mk (show (byteCells L).length = 512 by rw [byteCells_len]; exact hLl)
  have HLL := Aside0.mk hLl
  have HZ := Aside0.mk hZ
  have hkc := countsF_cases L
  rw [← hk] at hkc
  have HBo := Aside0.mk (show Calls Try.prog 23 #[.slice A0 nv.length c0] w (fun e w' => e = .returned (.tuple #[.agg (byteCells L).toArray, .bool ok]) ∧ Below w.heap.size w w') from by rw [hL, hok]; exact both_calls A0 c0 nv w hr0 hc0)
  have HCo := Aside0.mk (show ∀ (g : Nat) (W : World), Kd.C (Kd.int .u8) W (some ⟨g, 0, none⟩) 512 L → Calls Try.prog 24 #[.pointer (some ⟨g, 0, none⟩)] W (fun e w' => e = .returned (.int .i64 k) ∧ Below W.heap.size W w') from fun g W h => by rw [hk]; exact counts_calls g L W h HLB.out)
  have HR1 := Aside0.mk hr1
  have HC1 := Aside0.mk hc1
  by_cases hl : nv.length = 512
  · have hLn : L = nv := by rw [hL]; unfold bothF; rw [if_pos hl]
    subst hLn
    obtain rfl : ok = true := by rw [hok]; exact decide_eq_true hl
    unfold planF at hR
    rw [if_pos hl] at hR
    by_cases hd : data.length ≤ 248
    · rw [if_pos hd] at hR
      have hlt : decide ((248 : Int) < (data.length : Int)) = false := decide_eq_false (by omega)
      have HDL := Aside0.mk hd
      by_cases hk0 : 0 ≤ k
      · have hge : decide (0 ≤ k) = true := decide_eq_true hk0
        obtain ⟨x, hx⟩ : ∃ x, x = rd L (k * 256 + 1) := ⟨_, rfl⟩
        obtain ⟨g, hg⟩ : ∃ g, g = (x + 1) % 256 := ⟨_, rfl⟩
        obtain ⟨tg, htg⟩ : ∃ tg, tg = 1 - k := ⟨_, rfl⟩
        obtain ⟨base, hbase⟩ : ∃ b, b = tg * 256 := ⟨_, rfl⟩
        have hw1 : IntKind.i64.wrap (1 - k) = tg := (i64_w _).trans (by unfold wrap64; omega)
        have hw2 : IntKind.u8.wrap (x + 1) = g := by rw [wrap_u8]; exact hg.symm
        have hw3 : IntKind.i64.wrap (tg * 256) = base := (i64_w _).trans (by unfold wrap64; omega)
        have p1 : (0 ≤ k) = True := eq_true hk0
        have p2 : (k < 2) = True := eq_true (by omega)
        have hRr : R = (rowsF base g data, 0) := by
          rw [hR]
          unfold baseF genF
          rw [← hk, if_pos hk0, if_pos hk0, ← hx, ← hg, ← htg, ← hbase]
        have HRr := Aside0.mk hRr
        have HBB := Aside0.mk (show 0 ≤ base ∧ base ≤ 1000 by omega)
        have HX := Aside0.mk (show ∀ (W : World) (q : Nat), Kd.C (Kd.int .u8) W (some ⟨q, 0, none⟩) 512 L → W.cell? ⟨q, k.toNat * 256 + 1, none⟩ = some (.int .u8 x) from fun W q h => by
          obtain ⟨ad', ea, h2⟩ := Kd.at_int h (k * 256 + 1) (by omega) (by omega)
          cases ea
          rw [Addr.add_mid, ← hx] at h2
          rw [show k.toNat * 256 + 1 = 0 + (k * 256 + 1).toNat by omega]
          exact h2)
        clear hR hRr hx hg htg hbase hk hok hL hZ hLl hLb hkc hk0 hd hl hr0 hc0 hr1 hc1 hb0
        go_enter Try.func17, Try.ntmps17
        go_wp2_with (first
          | (go_at_call 23; (with_reducible refine HBo.out.mono ?_); rintro e w1 ⟨rfl, hb⟩; have HB := Aside0.mk (below_step (Below.refl _ _) hb); clear hb)
          | ((with_reducible refine gate_dst (N := 6) rfl ?_); refine box_event ?hg (N := 6) ?hd (cs := Z.toArray) (t := 50) ?hr ?_; (case hd => rfl); (case hg => rfl); (case hr => have hZ2 := HZ.out; first | (go_simp; done) | (go_simp; rfl)); intro ga hg w2 hbox hb; have BK := Aside0.mk hbox; have GA := Aside0.mk (show w.heap.size ≤ ga from hg ▸ HB.out.size); have HB2 := Aside0.mk (below_step HB.out hb); clear hbox hb hg HB)
          | ((with_reducible refine gate_ (.store 50 (.tmp 6) (.tmp 17)) rfl ?_); refine wpList_store_arr (w0 := w) rfl 50 (.tmp 6) (.tmp 17) rfl ga 0 (byteCells L) rfl rfl ?ht (by rw [HLC.out]; exact size50) (byteCells_one L) HB2.out GA.out ?_; (case ht => exact fun j hj => ⟨by rw [blk_cell BK.out]; have := HLC.out; have := HZL.out; simp; omega, blk_frozen BK.out _⟩); intro w3 hrg hb _; have HC3 := Aside0.mk (C_of_range (L := L) (n := 512) hrg HLL.out (by decide)); have HB3 := Aside0.mk hb; clear hrg hb BK HB2)
          | (go_at_call 24; (with_reducible refine (HCo.out ga _ ?cc).mono ?_); (case cc => exact HC3.out); rintro e w4 ⟨rfl, hb⟩; have HC4 := Aside0.mk (Kd.C_below HC3.out hb); have HB4 := Aside0.mk (below_step HB3.out hb); clear hb))
        have hx9 := HX.out _ ga HC4.out
        refine start_ (n := 9) (S := fun w' => w'.cell? ⟨ga, k.toNat * 256 + 1, none⟩ = some (.int .u8 x)) (ds := []) #[false, false, false, false, false, false, false, false, false] (by kernel_rfl) rfl rfl hx9 (fun hHeld => ?_)
        refine pure_ (i := 0) (N := some 29) (v := ?_) (a' := ?_) #[true, false, false, false, false, false, false, false, false] rfl rfl (by kernel_rfl) (fun _ _ _ h => h) (Or.inl ⟨by rfl, ?_⟩) ?_ ?_
        rotate_left
        · intro w'
          go_simp
          with_reducible rfl
        rotate_left
        · simp only [Act.put, List.setIfInBounds_toArray, List.set_cons_zero, List.set_cons_succ]
          rfl
        refine pure_ (i := 1) (N := some 30) (v := ?_) (a' := ?_) #[true, true, false, false, false, false, false, false, false] rfl rfl (by kernel_rfl) (fun _ _ _ h => h) (Or.inl ⟨by rfl, ?_⟩) ?_ ?_
        rotate_left
        · intro w'
          go_simp
          with_reducible rfl
        rotate_left
        · simp only [Act.put, List.setIfInBounds_toArray, List.set_cons_zero, List.set_cons_succ]
          rfl
        refine pure_ (i := 2) (N := some 31) (v := ?_) (a' := ?_) #[true, true, true, false, false, false, false, false, false] rfl rfl (by kernel_rfl) (fun _ _ _ h => h) (Or.inl ⟨by rfl, ?_⟩) ?_ ?_
        rotate_left
        · intro w'
          go_simp
          with_reducible rfl
        rotate_left
        · simp only [Act.put, List.setIfInBounds_toArray, List.set_cons_zero, List.set_cons_succ]
          rfl
        refine pure_ (i := 3) (N := some 32) (v := ?_) (a' := ?_) #[true, true, true, true, false, false, false, false, false] rfl rfl (by kernel_rfl) (fun _ _ _ h => h) (Or.inl ⟨by rfl, ?_⟩) ?_ ?_
        rotate_left
        · intro w'
          go_simp
          with_reducible rfl
        rotate_left
        · simp only [Act.put, List.setIfInBounds_toArray, List.set_cons_zero, List.set_cons_succ]
          rfl
        refine pure_ (i := 4) (N := some 33) (v := ?_) (a' := ?_) #[true, true, true, true, true, false, false, false, false] rfl rfl (by kernel_rfl) (fun _ _ _ h => h) (Or.inl ⟨by rfl, ?_⟩) ?_ ?_
        rotate_left
        · intro w'
          go_simp
          with_reducible rfl
        rotate_left
        · simp only [Act.put, List.setIfInBounds_toArray, List.set_cons_zero, List.set_cons_succ]
          rfl
        refine take_ (i := 5) (N := some 34) (v := .int .u8 x) (a' := ?_) #[true, true, true, true, true, true, false, false, false] rfl rfl (by kernel_rfl) (fun _ _ _ h => h) (Or.inl ⟨by rfl, ?_⟩) hHeld ?_ ?_
        rotate_left
        rotate_left
        · simp only [Act.put, List.setIfInBounds_toArray, List.set_cons_zero, List.set_cons_succ]
          rfl
        rotate_left
        · rintro w' s0
          go_simp
        refine pure_ (i := 6) (N := some 35) (v := ?_) (a' := ?_) #[true, true, true, true, true, true, true, false, false] rfl rfl (by kernel_rfl) (fun _ _ _ h => h) (Or.inl ⟨by rfl, ?_⟩) ?_ ?_
        rotate_left
        · intro w'
          go_simp
          with_reducible rfl
        rotate_left
        · simp only [Act.put, List.setIfInBounds_toArray, List.set_cons_zero, List.set_cons_succ]
          rfl
        refine pure_ (i := 7) (N := some 8) (v := ?_) (a' := ?_) #[true, true, true, true, true, true, true, true, false] rfl rfl (by kernel_rfl) (fun _ _ _ h => h) (Or.inl ⟨by rfl, ?_⟩) ?_ ?_
        rotate_left
        · intro w'
          go_simp
          with_reducible rfl
        rotate_left
        · simp only [Act.put, List.setIfInBounds_toArray, List.set_cons_zero, List.set_cons_succ]
          rfl
        refine pure_ (i := 8) (N := some 9) (v := ?_) (a' := ?_) #[true, true, true, true, true, true, true, true, true] rfl rfl (by kernel_rfl) (fun _ _ _ h => h) (Or.inl ⟨by rfl, ?_⟩) ?_ ?_
        rotate_left
        · intro w'
          go_simp
          with_reducible rfl
        rotate_left
        · simp only [Act.put, List.setIfInBounds_toArray, List.set_cons_zero, List.set_cons_succ]
          rfl
        refine done_ (n := 0) (by kernel_rfl) ?_
        clear hx9 hHeld
        go_wp2_with (first
          | ((with_reducible refine gate_dst (N := 11) rfl ?_); refine box_event ?hg (N := 11) ?hd (cs := #[.int .i64 0]) (t := 3) ?hr ?_; (case hd => rfl); (case hg => rfl); (case hr => first | (go_simp; done) | (go_simp; rfl)); intro gb hg w5 hbox hb; have BB := Aside0.mk hbox; have GB := Aside0.mk (show w.heap.size ≤ gb from hg ▸ (below_drew HB4.out).size); have HB5 := Aside0.mk (below_step (below_drew HB4.out) hb); clear hbox hb hg; have hz5 := (blk_cell BB.out 0).trans rfl; have hf5 := blk_frozen BB.out 0; have hcs5 : ∀ x : Value, (w5.setCell ⟨gb, 0, none⟩ x).cell? ⟨gb, 0, none⟩ = some x := fun x => (blk_cell (blk_put BB.out 0 x rfl) 0).trans rfl)
          | ((with_reducible refine gate_dst (N := 40) rfl ?_); refine Kd.R_lit (w0 := w) k62 w.heap.size 62 ?hg (N := 40) ?hd (xs := ([⟨base, 0⟩] : List S62)) (inner := [.int .i64 base, .int .u8 0]) (ok := fun _ => True) (okp := fun _ => True) ?hr ?hp (fun _ hk => hk) trivial ?hB ?hS (by simp) ?_; (case hd => rfl); (case hg => rfl); (case hr => first | (go_simp; done) | (go_simp; rfl)); (case hp => exact reps_single _ _ _ _ _); (case hB => exact below_set HB5.out GB.out); (case hS => exact (below_set HB5.out GB.out).size); intro v6 w6 ho hb hg hnew; obtain ⟨A6, n6, c6, rfl⟩ : ∃ A n c, v6 = .slice A n c := (by obtain ⟨A, c, e⟩ := Kd.R_slice ho; exact ⟨A, _, c, e⟩); have BB6 := Aside0.mk (blk_grown (blk_put BB.out 0 (.int .i64 base) rfl) hg (by simp)); have HR6 := Aside0.mk ho; have HB6 := Aside0.mk hb; clear ho hb hg hnew hz5 hf5 hcs5 BB HB5)
          | ((with_reducible refine gate_dst (N := 12) rfl ?_); refine box_event ?hg (N := 12) ?hd (cs := #[.slice none 0 0]) (t := 32) ?hr ?_; (case hd => rfl); (case hg => rfl); (case hr => first | (go_simp; done) | (go_simp; rfl)); intro gr hg w7 hbox hb; have BR7 := Aside0.mk hbox; have GR := Aside0.mk (show w.heap.size ≤ gr from hg ▸ HB6.out.size); have BB7 := Aside0.mk (blk_below BB6.out hb); have HR7 := Aside0.mk (Kd.R_below HR6.out hb); have HB7 := Aside0.mk (below_step HB6.out hb); clear hbox hb hg BB6 HR6 HB6; have hz7 := (blk_cell BR7.out 0).trans rfl; have hf7 := blk_frozen BR7.out 0)
          | ((with_reducible refine gate_dst (N := 51) rfl ?_); refine Kd.R_lit (w0 := w) (Kd.int .u8) w.heap.size 5 ?hg (N := 51) ?hd (xs := ([g, (data.length : Int) / 256 % 256, (data.length : Int) % 256] : List Int)) (inner := [.int .u8 g, .int .u8 ((data.length : Int) / 256 % 256), .int .u8 ((data.length : Int) % 256)]) (ok := fun _ => True) (okp := fun _ => True) ?hr ?hp (fun _ hk => hk) trivial ?hB ?hS (by simp) ?_; (case hd => rfl); (case hg => rfl); (case hr => first | (go_simp; done) | (go_simp; rfl)); (case hp => exact (Reps.one (show Kd.M (Kd.int .u8) _ _ _ g [.int .u8 g] from rfl) (Reps.one (show Kd.M (Kd.int .u8) _ _ _ ((data.length : Int) / 256 % 256) [.int .u8 ((data.length : Int) / 256 % 256)] from rfl) (Reps.one (show Kd.M (Kd.int .u8) _ _ _ ((data.length : Int) % 256) [.int .u8 ((data.length : Int) % 256)] from rfl) (Reps.none _ _))))); (case hB => exact below_set HB7.out GR.out); (case hS => exact (below_set HB7.out GR.out).size); intro v8 w8 ho hb hg hnew; obtain ⟨A8, c8, rfl⟩ := Kd.R_slice ho; have BR8 := Aside0.mk (blk_grown (blk_put BR7.out 0 (.slice A6 n6 c6) rfl) hg (by simp)); have BB8 := Aside0.mk (blk_grown (blk_far (p := ⟨gr, 0, none⟩) BB7.out (blk_ne BB7.out BR7.out (by decide)) (.slice A6 n6 c6)) hg (by simp)); have HR8 := Aside0.mk (R_flat_grown rfl (Kd.R_set HR7.out BR7.out (by decide) 0 (.slice A6 n6 c6)) hg (fun k _ => by simp)); have HO8 := Aside0.mk ho; have HB8 := Aside0.mk hb; clear ho hb hg hnew hz7 hf7 BR7 BB7 HR7 HB7)
          | (go_at_call 29; refine (lay_calls w _ gr gb base _ ([⟨base, 0⟩] : List S62) A8 c8 ([g, (data.length : Int) / 256 % 256, (data.length : Int) % 256] : List Int) HB8.out GR.out BR8.out BB8.out HR8.out ?f8 (by simp) HBB.out).mono ?_; (case f8 => refine Kd.F_mono (Kd.R_F (Kd.R_tight rfl HO8.out)) (fun k hk => ⟨fun e => Kd.R_ne HO8.out BR8.out (by decide) (e ▸ hk), fun e => (by obtain ⟨c1_, h1_⟩ := Kd.R_typed HO8.out k hk.symm; obtain ⟨c2_, h2_⟩ := Kd.R_typed HR8.out k e.symm; rw [h1_] at h2_; injection h2_ with h2_; injection h2_ with _ h2_ _; exact absurd h2_ (by decide))⟩)); rintro e w9 ⟨rfl, rv9, h1, h2, h3, h4⟩; have BR9 := Aside0.mk h1; have BB9 := Aside0.mk h2; have HR9 := Aside0.mk h3; have HB9 := Aside0.mk h4; clear h1 h2 h3 h4 BR8 BB8 HR8 HB8 HO8)
          | (go_at_call 11; refine (nvram_Sum.calls _ _ _ _ _ _ (Kd.C_below HR1.out HB9.out) HC1.out rfl).mono ?_; rintro e w10 ⟨rfl, hb⟩; have BR10 := Aside0.mk (blk_below BR9.out hb); have BB10 := Aside0.mk (blk_below BB9.out hb); have HR10 := Aside0.mk (Kd.R_below HR9.out hb); have HB10 := Aside0.mk (below_step HB9.out hb); clear hb BR9 BB9 HR9 HB9)
          | (go_at_call 30; refine (nvram_four.calls (sumF g data) (fourF (sumF g data)) _ rfl).mono ?_; rintro e w11 ⟨v11, rfl, ho, hb⟩; obtain ⟨A11, c11, rfl⟩ := Kd.R_slice ho; have BR11 := Aside0.mk (blk_below BR10.out hb); have BB11 := Aside0.mk (blk_below BB10.out hb); have HR11 := Aside0.mk (Kd.R_below HR10.out hb); have HO11 := Aside0.mk (Kd.R_lower ho HB10.out.size); have HB11 := Aside0.mk (below_step HB10.out hb); clear ho hb BR10 BB10 HR10 HB10)
          | (go_at_call 29; refine (lay_calls w _ gr gb base _ (layF base ([⟨base, 0⟩] : List S62) ([g, (data.length : Int) / 256 % 256, (data.length : Int) % 256] : List Int)) A11 c11 (fourF (sumF g data)) HB11.out GR.out BR11.out BB11.out HR11.out ?f11 (by rw [layF_len]; simp [fourF]) HBB.out).mono ?_; (case f11 => refine Kd.F_mono (Kd.R_F (Kd.R_tight rfl HO11.out)) (fun k hk => ⟨fun e => Kd.R_ne HO11.out BR11.out (by decide) (e ▸ hk), fun e => (by obtain ⟨c1_, h1_⟩ := Kd.R_typed HO11.out k hk.symm; obtain ⟨c2_, h2_⟩ := Kd.R_typed HR11.out k e.symm; rw [h1_] at h2_; injection h2_ with h2_; injection h2_ with _ h2_ _; exact absurd h2_ (by decide))⟩)); rintro e w12 ⟨rfl, rv12, h1, h2, h3, h4⟩; have BR12 := Aside0.mk h1; have BB12 := Aside0.mk h2; have HR12 := Aside0.mk h3; have HB12 := Aside0.mk h4; clear h1 h2 h3 h4 BR11 BB11 HR11 HB11 HO11)
          | (go_at_call 29; refine (lay_calls w _ gr gb base _ (layF base (layF base ([⟨base, 0⟩] : List S62) ([g, (data.length : Int) / 256 % 256, (data.length : Int) % 256] : List Int)) (fourF (sumF g data))) A1 c1 data HB12.out GR.out BR12.out BB12.out HR12.out ?f12 (by rw [layF_len, layF_len]; have := HDL.out; simp [fourF]; omega) HBB.out).mono ?_; (case f12 => exact Kd.F_mono (Kd.F_below (Kd.C_F (Kd.heap_int .u8) HR1.out) HB12.out) (fun k hk => ⟨fun e => by have := GR.out; omega, fun e => by have := Kd.R_base HR12.out k e.symm; omega⟩)); rintro e w13 ⟨rfl, rv13, h1, h2, h3, h4⟩; have BR13 := Aside0.mk h1; have BB13 := Aside0.mk h2; have HR13 := Aside0.mk h3; have HB13 := Aside0.mk h4; clear h1 h2 h3 h4 BR12 BB12 HR12 HB12; have hz13 := (blk_cell BR13.out 0).trans rfl; have hb13 := (blk_cell BB13.out 0).trans rfl)
          | ((with_reducible refine gate_builtin (b := .append) (xs := #[.tmp 62, .tmp 65]) rfl ?_); at_builtin; refine Kd.R_append k62 (w0 := w) w.heap.size rfl (.tmp 62) (.tmp 65) 32 62 (.agg #[(.int .i64 0), (.int .u8 0)]) 16 rfl Try.underlying32 info62 rfl (by decide) (by omega) rv13 (layF base (layF base (layF base ([⟨base, 0⟩] : List S62) ([g, (data.length : Int) / 256 % 256, (data.length : Int) % 256] : List Int)) (fourF (sumF g data))) data) (⟨base, 165⟩ : S62) [.int .i64 base, .int .u8 165] (fun _ => True) (fun _ => False) rfl (by first | (go_simp; done) | (go_simp; rfl)) ?aP (fun _ hk => hk.elim) ?aF ?aO ?aB ?aS ?aL ?_; (case aP => exact k62_mkM _ _ _ (⟨base, 165⟩ : S62)); (case aB => exact HB13.out); (case aF => exact (fun _ _ => trivial)); (case aO => exact HR13.out); (case aS => exact HB13.out.size); (case aL => rw [layF_len, layF_len, layF_len]; have := HDL.out; simp [fourF]; omega); intro v14 w14 ho hb hg hat; have HR14 := Aside0.mk ho; have HB14 := Aside0.mk hb; clear hz13 hb13 ho hb hg hat))
        go_ret2
        rw [HRr.out]
        exact ⟨_, rfl, HR14.out, HB14.out⟩
      · have hge : decide (0 ≤ k) = false := decide_eq_false hk0
        have hRr : R = (rowsF 0 1 data, 0) := by
          rw [hR]
          unfold baseF genF
          rw [← hk, if_neg hk0, if_neg hk0]
        have HRr := Aside0.mk hRr
        have HBB := Aside0.mk (show (0 : Int) ≤ 0 ∧ (0 : Int) ≤ 1000 by omega)
        clear hR hRr hk hok hL hZ hLl hLb hkc hk0 hd hl hr0 hc0 hr1 hc1 hb0
        go_enter Try.func17, Try.ntmps17
        go_wp2_with (first
          | (go_at_call 23; (with_reducible refine HBo.out.mono ?_); rintro e w1 ⟨rfl, hb⟩; have HB := Aside0.mk (below_step (Below.refl _ _) hb); clear hb)
          | ((with_reducible refine gate_dst (N := 6) rfl ?_); refine box_event ?hg (N := 6) ?hd (cs := Z.toArray) (t := 50) ?hr ?_; (case hd => rfl); (case hg => rfl); (case hr => have hZ2 := HZ.out; first | (go_simp; done) | (go_simp; rfl)); intro ga hg w2 hbox hb; have BK := Aside0.mk hbox; have GA := Aside0.mk (show w.heap.size ≤ ga from hg ▸ HB.out.size); have HB2 := Aside0.mk (below_step HB.out hb); clear hbox hb hg HB)
          | ((with_reducible refine gate_ (.store 50 (.tmp 6) (.tmp 17)) rfl ?_); refine wpList_store_arr (w0 := w) rfl 50 (.tmp 6) (.tmp 17) rfl ga 0 (byteCells L) rfl rfl ?ht (by rw [HLC.out]; exact size50) (byteCells_one L) HB2.out GA.out ?_; (case ht => exact fun j hj => ⟨by rw [blk_cell BK.out]; have := HLC.out; have := HZL.out; simp; omega, blk_frozen BK.out _⟩); intro w3 hrg hb _; have HC3 := Aside0.mk (C_of_range (L := L) (n := 512) hrg HLL.out (by decide)); have HB3 := Aside0.mk hb; clear hrg hb BK HB2)
          | (go_at_call 24; (with_reducible refine (HCo.out ga _ ?cc).mono ?_); (case cc => exact HC3.out); rintro e w4 ⟨rfl, hb⟩; have HC4 := Aside0.mk (Kd.C_below HC3.out hb); have HB4 := Aside0.mk (below_step HB3.out hb); clear hb)
          | ((with_reducible refine gate_dst (N := 11) rfl ?_); refine box_event ?hg (N := 11) ?hd (cs := #[.int .i64 0]) (t := 3) ?hr ?_; (case hd => rfl); (case hg => rfl); (case hr => first | (go_simp; done) | (go_simp; rfl)); intro gb hg w5 hbox hb; have BB := Aside0.mk hbox; have GB := Aside0.mk (show w.heap.size ≤ gb from hg ▸ HB4.out.size); have HB5 := Aside0.mk (below_step HB4.out hb); clear hbox hb hg; have hz5 := (blk_cell BB.out 0).trans rfl; have hf5 := blk_frozen BB.out 0; have hcs5 : ∀ x : Value, (w5.setCell ⟨gb, 0, none⟩ x).cell? ⟨gb, 0, none⟩ = some x := fun x => (blk_cell (blk_put BB.out 0 x rfl) 0).trans rfl)
          | ((with_reducible refine gate_dst (N := 40) rfl ?_); refine Kd.R_lit (w0 := w) k62 w.heap.size 62 ?hg (N := 40) ?hd (xs := ([⟨0, 0⟩] : List S62)) (inner := [.int .i64 0, .int .u8 0]) (ok := fun _ => True) (okp := fun _ => True) ?hr ?hp (fun _ hk => hk) trivial ?hB ?hS (by simp) ?_; (case hd => rfl); (case hg => rfl); (case hr => first | (go_simp; done) | (go_simp; rfl)); (case hp => exact reps_single _ _ _ _ _); (case hB => exact below_set HB5.out GB.out); (case hS => exact (below_set HB5.out GB.out).size); intro v6 w6 ho hb hg hnew; obtain ⟨A6, n6, c6, rfl⟩ : ∃ A n c, v6 = .slice A n c := (by obtain ⟨A, c, e⟩ := Kd.R_slice ho; exact ⟨A, _, c, e⟩); have BB6 := Aside0.mk (blk_grown (blk_put BB.out 0 (.int .i64 0) rfl) hg (by simp)); have HR6 := Aside0.mk ho; have HB6 := Aside0.mk hb; clear ho hb hg hnew hz5 hf5 hcs5 BB HB5)
          | ((with_reducible refine gate_dst (N := 12) rfl ?_); refine box_event ?hg (N := 12) ?hd (cs := #[.slice none 0 0]) (t := 32) ?hr ?_; (case hd => rfl); (case hg => rfl); (case hr => first | (go_simp; done) | (go_simp; rfl)); intro gr hg w7 hbox hb; have BR7 := Aside0.mk hbox; have GR := Aside0.mk (show w.heap.size ≤ gr from hg ▸ HB6.out.size); have BB7 := Aside0.mk (blk_below BB6.out hb); have HR7 := Aside0.mk (Kd.R_below HR6.out hb); have HB7 := Aside0.mk (below_step HB6.out hb); clear hbox hb hg BB6 HR6 HB6; have hz7 := (blk_cell BR7.out 0).trans rfl; have hf7 := blk_frozen BR7.out 0)
          | ((with_reducible refine gate_dst (N := 51) rfl ?_); refine Kd.R_lit (w0 := w) (Kd.int .u8) w.heap.size 5 ?hg (N := 51) ?hd (xs := ([1, (data.length : Int) / 256 % 256, (data.length : Int) % 256] : List Int)) (inner := [.int .u8 1, .int .u8 ((data.length : Int) / 256 % 256), .int .u8 ((data.length : Int) % 256)]) (ok := fun _ => True) (okp := fun _ => True) ?hr ?hp (fun _ hk => hk) trivial ?hB ?hS (by simp) ?_; (case hd => rfl); (case hg => rfl); (case hr => first | (go_simp; done) | (go_simp; rfl)); (case hp => exact (Reps.one (show Kd.M (Kd.int .u8) _ _ _ 1 [.int .u8 1] from rfl) (Reps.one (show Kd.M (Kd.int .u8) _ _ _ ((data.length : Int) / 256 % 256) [.int .u8 ((data.length : Int) / 256 % 256)] from rfl) (Reps.one (show Kd.M (Kd.int .u8) _ _ _ ((data.length : Int) % 256) [.int .u8 ((data.length : Int) % 256)] from rfl) (Reps.none _ _))))); (case hB => exact below_set HB7.out GR.out); (case hS => exact (below_set HB7.out GR.out).size); intro v8 w8 ho hb hg hnew; obtain ⟨A8, c8, rfl⟩ := Kd.R_slice ho; have BR8 := Aside0.mk (blk_grown (blk_put BR7.out 0 (.slice A6 n6 c6) rfl) hg (by simp)); have BB8 := Aside0.mk (blk_grown (blk_far (p := ⟨gr, 0, none⟩) BB7.out (blk_ne BB7.out BR7.out (by decide)) (.slice A6 n6 c6)) hg (by simp)); have HR8 := Aside0.mk (R_flat_grown rfl (Kd.R_set HR7.out BR7.out (by decide) 0 (.slice A6 n6 c6)) hg (fun k _ => by simp)); have HO8 := Aside0.mk ho; have HB8 := Aside0.mk hb; clear ho hb hg hnew hz7 hf7 BR7 BB7 HR7 HB7)
          | (go_at_call 29; refine (lay_calls w _ gr gb 0 _ ([⟨0, 0⟩] : List S62) A8 c8 ([1, (data.length : Int) / 256 % 256, (data.length : Int) % 256] : List Int) HB8.out GR.out BR8.out BB8.out HR8.out ?f8 (by simp) HBB.out).mono ?_; (case f8 => refine Kd.F_mono (Kd.R_F (Kd.R_tight rfl HO8.out)) (fun k hk => ⟨fun e => Kd.R_ne HO8.out BR8.out (by decide) (e ▸ hk), fun e => (by obtain ⟨c1_, h1_⟩ := Kd.R_typed HO8.out k hk.symm; obtain ⟨c2_, h2_⟩ := Kd.R_typed HR8.out k e.symm; rw [h1_] at h2_; injection h2_ with h2_; injection h2_ with _ h2_ _; exact absurd h2_ (by decide))⟩)); rintro e w9 ⟨rfl, rv9, h1, h2, h3, h4⟩; have BR9 := Aside0.mk h1; have BB9 := Aside0.mk h2; have HR9 := Aside0.mk h3; have HB9 := Aside0.mk h4; clear h1 h2 h3 h4 BR8 BB8 HR8 HB8 HO8)
          | (go_at_call 11; refine (nvram_Sum.calls _ _ _ _ _ _ (Kd.C_below HR1.out HB9.out) HC1.out rfl).mono ?_; rintro e w10 ⟨rfl, hb⟩; have BR10 := Aside0.mk (blk_below BR9.out hb); have BB10 := Aside0.mk (blk_below BB9.out hb); have HR10 := Aside0.mk (Kd.R_below HR9.out hb); have HB10 := Aside0.mk (below_step HB9.out hb); clear hb BR9 BB9 HR9 HB9)
          | (go_at_call 30; refine (nvram_four.calls (sumF 1 data) (fourF (sumF 1 data)) _ rfl).mono ?_; rintro e w11 ⟨v11, rfl, ho, hb⟩; obtain ⟨A11, c11, rfl⟩ := Kd.R_slice ho; have BR11 := Aside0.mk (blk_below BR10.out hb); have BB11 := Aside0.mk (blk_below BB10.out hb); have HR11 := Aside0.mk (Kd.R_below HR10.out hb); have HO11 := Aside0.mk (Kd.R_lower ho HB10.out.size); have HB11 := Aside0.mk (below_step HB10.out hb); clear ho hb BR10 BB10 HR10 HB10)
          | (go_at_call 29; refine (lay_calls w _ gr gb 0 _ (layF 0 ([⟨0, 0⟩] : List S62) ([1, (data.length : Int) / 256 % 256, (data.length : Int) % 256] : List Int)) A11 c11 (fourF (sumF 1 data)) HB11.out GR.out BR11.out BB11.out HR11.out ?f11 (by rw [layF_len]; simp [fourF]) HBB.out).mono ?_; (case f11 => refine Kd.F_mono (Kd.R_F (Kd.R_tight rfl HO11.out)) (fun k hk => ⟨fun e => Kd.R_ne HO11.out BR11.out (by decide) (e ▸ hk), fun e => (by obtain ⟨c1_, h1_⟩ := Kd.R_typed HO11.out k hk.symm; obtain ⟨c2_, h2_⟩ := Kd.R_typed HR11.out k e.symm; rw [h1_] at h2_; injection h2_ with h2_; injection h2_ with _ h2_ _; exact absurd h2_ (by decide))⟩)); rintro e w12 ⟨rfl, rv12, h1, h2, h3, h4⟩; have BR12 := Aside0.mk h1; have BB12 := Aside0.mk h2; have HR12 := Aside0.mk h3; have HB12 := Aside0.mk h4; clear h1 h2 h3 h4 BR11 BB11 HR11 HB11 HO11)
          | (go_at_call 29; refine (lay_calls w _ gr gb 0 _ (layF 0 (layF 0 ([⟨0, 0⟩] : List S62) ([1, (data.length : Int) / 256 % 256, (data.length : Int) % 256] : List Int)) (fourF (sumF 1 data))) A1 c1 data HB12.out GR.out BR12.out BB12.out HR12.out ?f12 (by rw [layF_len, layF_len]; have := HDL.out; simp [fourF]; omega) HBB.out).mono ?_; (case f12 => exact Kd.F_mono (Kd.F_below (Kd.C_F (Kd.heap_int .u8) HR1.out) HB12.out) (fun k hk => ⟨fun e => by have := GR.out; omega, fun e => by have := Kd.R_base HR12.out k e.symm; omega⟩)); rintro e w13 ⟨rfl, rv13, h1, h2, h3, h4⟩; have BR13 := Aside0.mk h1; have BB13 := Aside0.mk h2; have HR13 := Aside0.mk h3; have HB13 := Aside0.mk h4; clear h1 h2 h3 h4 BR12 BB12 HR12 HB12; have hz13 := (blk_cell BR13.out 0).trans rfl; have hb13 := (blk_cell BB13.out 0).trans rfl)
          | ((with_reducible refine gate_builtin (b := .append) (xs := #[.tmp 62, .tmp 65]) rfl ?_); at_builtin; refine Kd.R_append k62 (w0 := w) w.heap.size rfl (.tmp 62) (.tmp 65) 32 62 (.agg #[(.int .i64 0), (.int .u8 0)]) 16 rfl Try.underlying32 info62 rfl (by decide) (by omega) rv13 (layF 0 (layF 0 (layF 0 ([⟨0, 0⟩] : List S62) ([1, (data.length : Int) / 256 % 256, (data.length : Int) % 256] : List Int)) (fourF (sumF 1 data))) data) (⟨0, 165⟩ : S62) [.int .i64 0, .int .u8 165] (fun _ => True) (fun _ => False) rfl (by first | (go_simp; done) | (go_simp; rfl)) ?aP (fun _ hk => hk.elim) ?aF ?aO ?aB ?aS ?aL ?_; (case aP => exact k62_mkM _ _ _ (⟨0, 165⟩ : S62)); (case aB => exact HB13.out); (case aF => exact (fun _ _ => trivial)); (case aO => exact HR13.out); (case aS => exact HB13.out.size); (case aL => rw [layF_len, layF_len, layF_len]; have := HDL.out; simp [fourF]; omega); intro v14 w14 ho hb hg hat; have HR14 := Aside0.mk ho; have HB14 := Aside0.mk hb; clear hz13 hb13 ho hb hg hat))
        go_ret2
        rw [HRr.out]
        exact ⟨_, rfl, HR14.out, HB14.out⟩
    · rw [if_neg hd] at hR
      have hlt : decide ((248 : Int) < (data.length : Int)) = true := decide_eq_true (by omega)
      have HRr := Aside0.mk hR
      clear hR hk hok hL hZ hLl hLb hkc hd hl hr0 hc0 hr1 hc1 hb0
      go_enter Try.func17, Try.ntmps17
      go_wp2_with (first
        | (go_at_call 23; (with_reducible refine HBo.out.mono ?_); rintro e w1 ⟨rfl, hb⟩; have HB := Aside0.mk (below_step (Below.refl _ _) hb); clear hb)
        | ((with_reducible refine gate_dst (N := 6) rfl ?_); refine box_event ?hg (N := 6) ?hd (cs := Z.toArray) (t := 50) ?hr ?_; (case hd => rfl); (case hg => rfl); (case hr => have hZ2 := HZ.out; first | (go_simp; done) | (go_simp; rfl)); intro ga hg w2 hbox hb; have BK := Aside0.mk hbox; have GA := Aside0.mk (show w.heap.size ≤ ga from hg ▸ HB.out.size); have HB2 := Aside0.mk (below_step HB.out hb); clear hbox hb hg HB)
        | ((with_reducible refine gate_ (.store 50 (.tmp 6) (.tmp 17)) rfl ?_); refine wpList_store_arr (w0 := w) rfl 50 (.tmp 6) (.tmp 17) rfl ga 0 (byteCells L) rfl rfl ?ht (by rw [HLC.out]; exact size50) (byteCells_one L) HB2.out GA.out ?_; (case ht => exact fun j hj => ⟨by rw [blk_cell BK.out]; have := HLC.out; have := HZL.out; simp; omega, blk_frozen BK.out _⟩); intro w3 hrg hb _; have HC3 := Aside0.mk (C_of_range (L := L) (n := 512) hrg HLL.out (by decide)); have HB3 := Aside0.mk hb; clear hrg hb BK HB2)
        | (go_at_call 24; (with_reducible refine (HCo.out ga _ ?cc).mono ?_); (case cc => exact HC3.out); rintro e w4 ⟨rfl, hb⟩; have HC4 := Aside0.mk (Kd.C_below HC3.out hb); have HB4 := Aside0.mk (below_step HB3.out hb); clear hb))
      go_ret2
      rw [HRr.out]
      exact ⟨_, rfl, Kd.R_nil _ _ _ _ _, HB3.out⟩
  · obtain rfl : ok = false := by rw [hok]; exact decide_eq_false hl
    unfold planF at hR
    rw [if_neg hl] at hR
    have HRr := Aside0.mk hR
    clear hR hk hok hL hZ hLl hLb hkc hl hr0 hc0 hr1 hc1 hb0
    go_enter Try.func17, Try.ntmps17
    go_wp2_with (first
      | (go_at_call 23; (with_reducible refine HBo.out.mono ?_); rintro e w1 ⟨rfl, hb⟩; have HB := Aside0.mk (below_step (Below.refl _ _) hb); clear hb)
      | ((with_reducible refine gate_dst (N := 6) rfl ?_); refine box_event ?hg (N := 6) ?hd (cs := Z.toArray) (t := 50) ?hr ?_; (case hd => rfl); (case hg => rfl); (case hr => have hZ2 := HZ.out; first | (go_simp; done) | (go_simp; rfl)); intro ga hg w2 hbox hb; have BK := Aside0.mk hbox; have GA := Aside0.mk (show w.heap.size ≤ ga from hg ▸ HB.out.size); have HB2 := Aside0.mk (below_step HB.out hb); clear hbox hb hg HB)
      | ((with_reducible refine gate_ (.store 50 (.tmp 6) (.tmp 17)) rfl ?_); refine wpList_store_arr (w0 := w) rfl 50 (.tmp 6) (.tmp 17) rfl ga 0 (byteCells L) rfl rfl ?ht (by rw [HLC.out]; exact size50) (byteCells_one L) HB2.out GA.out ?_; (case ht => exact fun j hj => ⟨by rw [blk_cell BK.out]; have := HLC.out; have := HZL.out; simp; omega, blk_frozen BK.out _⟩); intro w3 hrg hb _; have HC3 := Aside0.mk (C_of_range (L := L) (n := 512) hrg HLL.out (by decide)); have HB3 := Aside0.mk hb; clear hrg hb BK HB2)
      | (go_at_call 24; (with_reducible refine (HCo.out ga _ ?cc).mono ?_); (case cc => exact HC3.out); rintro e w4 ⟨rfl, hb⟩; have HC4 := Aside0.mk (Kd.C_below HC3.out hb); have HB4 := Aside0.mk (below_step HB3.out hb); clear hb))
    go_ret2
    rw [HRr.out]
    exact ⟨_, rfl, Kd.R_nil _ _ _ _ _, HB3.out⟩
end Go.Proofs.Ytlpagilpbdiniaa.Q
