/- The two banks of an NVRAM; which of them counts. -/
import Derived.Test.YtlpagilpbdiniaaHNvArr
import Derived.Laws.ResultCell
namespace Go.Proofs.Ytlpagilpbdiniaa.Q
open Go.RowKit Go.Proofs.YtlpagilpbdiniaaW.PrintWords Go.Proofs.YtlpagilpbdiniaaW.PrintLast Go.Proofs.YtlpagilpbdiniaaW.PrintMore
def bothF (nv : List Int) : List Int := if nv.length = 512 then nv else List.replicate 512 0
theorem results_arr {P : Program} {fn : Func} {p u : Tmp} {ty : TypeId} {v : Value} (h : fn.results = #[.cell p ty, .tmp u]) (tmps : Array Value) (w : World) (ad : Addr) (hp : tmps.getD p undef = .pointer (some ad)) (hv : tmps.getD u undef = v) (cs : List Value) (d : TypeDesc) (hc : ∀ j v, cs[j]? = some v → w.cell? (ad.add j) = some v)
    (hu : P.underlying ty = some d) (hd : d.isRow = true) (hi : (P.info? ty).map (·.size) = some cs.length) : (results fn tmps).run P w = .ok (.tuple #[.agg cs.toArray, v]) w := by
  rw [results_cell_tmp h, hp, hv]
  simp [asAddr, run_loadVar_any w ad ty cs d hc hu hd hi]
set_option maxHeartbeats 4000000 in
set_option maxRecDepth 100000 in
theorem both_calls (A0 : Option Addr) (c0 : Nat) (nv : List Int) (w : World) (hr0 : Kd.C (Kd.int .u8) w A0 nv.length nv) (hc0 : nv.length ≤ c0) :
    Calls Try.prog 23 #[.slice A0 nv.length c0] w fun e w' => e = .returned (.tuple #[.agg (byteCells (bothF nv)).toArray, .bool (decide (nv.length = 512))]) ∧ Below w.heap.size w w' := by
  obtain ⟨Z, hZ⟩ : ∃ Z, Z = byteCells (List.replicate 512 0) := ⟨_, rfl⟩
  have hZl : Z.length = 512 := by rw [hZ, byteCells_len]; simp
  have ha : ∀ W : World, (Instr.alloc 50 true undef).run Try.prog W = .ok (.pointer (some ⟨W.heap.size, 0, none⟩)) (W.alloc (.cells Z.toArray 50 (0, 0))) := fun W => by rw [hZ]; exact alloc50 true W
  by_cases hl : nv.length = 512
  · rw [hl] at hr0 hc0 ⊢
    have HL := Aside0.mk hl
    have HC0 := Aside0.mk hc0
    have HR0 := Aside0.mk hr0
    have HZL := Aside0.mk hZl
    have HZ := Aside0.mk hZ
    clear hl hc0 hr0 hZl hZ
    go_enter Try.func23, Try.ntmps23
    go_wp2_with (first
      | ((with_reducible refine gate_dst (N := 2) rfl ?_); refine box_event ?hg (N := 2) ?hd (cs := Z.toArray) (t := 50) ?hr ?_; (case hd => rfl); (case hg => rfl); (case hr => have hZ2 := HZ.out; first | (go_simp; done) | (go_simp; rfl)); intro gb hg w1 hbox hb; have BK := Aside0.mk hbox; have HB := Aside0.mk hb; have GB := Aside0.mk (show w.heap.size ≤ gb from hg ▸ Nat.le_refl _); clear hbox hb hg))
    have hBK := BK.out
    have HT := Aside0.mk (show w1.there gb 0 512 from fun j hj => ⟨by rw [blk_cell hBK]; simp [HZL.out]; omega, blk_frozen hBK _⟩)
    go_loopg [9] 2 (fun kq v9 w' => ∃ i : Int, v9 = .int .i64 i ∧ Aside0 (0 ≤ i ∧ i + kq = 2) ∧ Aside0 (w'.there gb 0 512) ∧ Aside0 (w'.rangeAt gb 0 (byteCells (nv.take (i * 256).toNat))) ∧ Aside0 (Below w.heap.size w w'))
    case atStart => exact ⟨0, rfl, ⟨by omega, by omega⟩, HT, ⟨fun j v h => by simp [byteCells] at h⟩, HB⟩
    case round =>
      clear BK hBK HT HB
      obtain ⟨i, rfl, HI, HT, HR, HB⟩ := hrel
      cases gk with
      | zero =>
        have hi2 : i = 2 := by have := HI.out; omega
        subst hi2
        have hR := HR.out
        rw [List.take_of_length_le (by have := HL.out; omega)] at hR
        have hlt : decide ((2 : Int) < 2) = false := rfl
        have HRC := Aside0.mk (show ∀ j v, (byteCells nv)[j]? = some v → wr.cell? ((⟨gb, 0, none⟩ : Addr).add j) = some v from fun j v h => by rw [Addr.add_mid]; exact hR j v h)
        have HNL := Aside0.mk (show (byteCells nv).length = 512 by rw [byteCells_len]; exact HL.out)
        clear hR
        go_wp2_with (first
          | ((with_reducible refine gate_dst (N := 24) rfl ?_); refine wpList_load_any rfl 50 (.tmp 2) rfl ⟨gb, 0, none⟩ rfl (byteCells nv) (.array 2 49) HRC.out Try.underlying50 rfl (by rw [HNL.out]; exact size50) ?_)
          | ((with_reducible refine gate_ (.store 50 (.tmp 2) (.tmp 24)) rfl ?_); refine wpList_store_mid rfl 50 (.tmp 2) (.tmp 24) rfl gb 0 (byteCells nv).toArray rfl rfl ?ht (by rw [List.size_toArray, HNL.out]; exact size50) (all_oneCell_toArray (byteCells_one nv)) ?_; (case ht => rw [List.size_toArray, HNL.out]; exact HT.out)))
        have hS := Aside0.mk (show (wr.setCells gb 0 (byteCells nv)).rangeAt gb 0 (byteCells nv) from World.rangeAt_setCells_same wr gb 0 _ (by rw [HNL.out]; exact HT.out))
        refine bodyPost_ret (v := .tuple #[.agg (byteCells nv).toArray, .bool true]) ?_ rfl ⟨?_, below_setCells HB.out GB.out _⟩
        · exact results_arr (p := 2) (u := 3) (ty := 50) (v := .bool true) rfl _ _ ⟨gb, 0, none⟩ rfl rfl (byteCells nv) (.array 2 49) (fun j v h => by rw [Addr.add_mid]; exact hS.out j v h) Try.underlying50 rfl (by rw [HNL.out]; exact size50)
        · unfold bothF
          rw [if_pos HL.out]
          rfl
      | succ k1 =>
        have hi := HI.out
        have hm : i = 0 ∨ i = 1 := by omega
        have hlt : decide (i < 2) = true := decide_eq_true (by omega)
        have hw1 : IntKind.i64.wrap (i + 1) = i + 1 := (i64_w _).trans (by unfold wrap64; omega)
        have hw2 : IntKind.i64.wrap (i * 256) = i * 256 := (i64_w _).trans (by unfold wrap64; omega)
        have hw3 : IntKind.i64.wrap ((i + 1) * 256) = (i + 1) * 256 := (i64_w _).trans (by unfold wrap64; omega)
        obtain ⟨ad, ea, -⟩ := Kd.at_int HR0.out 0 (by omega) (by omega)
        have hcut : ∀ W : World, (Instr.slice 22 (.slice A0 512 c0) (some (.int .i64 (i * 256))) (some (.int .i64 ((i + 1) * 256))) none).run Try.prog W = .ok (.slice (some (ad.add (i * 256).toNat)) 256 (c0 - (i * 256).toNat)) W := fun W => by
          rw [run_cut_lohi (P := Try.prog) (sz := 1) Try.underlying22 (by kernel_rfl) A0 512 c0 (i * 256) ((i + 1) * 256) (by omega) (by omega) (by have := HC0.out; omega), ea]
          unfold cutAt
          rw [if_neg (by have := HC0.out; omega), show ((i + 1) * 256).toNat - (i * 256).toNat = 256 by omega, Nat.mul_one]
          rfl
        have hcc : Kd.C (Kd.int .u8) w (some (ad.add (i * 256).toNat)) 256 ((nv.drop (i * 256).toNat).take 256) := by
          have h := C_cut HR0.out HC0.out (i * 256).toNat 256 (by omega)
          rw [ea] at h
          unfold cutAt at h
          rw [if_neg (by have := HC0.out; omega)] at h
          have e1 : (i * 256).toNat * (Kd.int .u8).sz = (i * 256).toNat := Nat.mul_one _
          rw [e1] at h
          exact h
        have HCC := Aside0.mk hcc
        obtain ⟨V, hV⟩ : ∃ V, V = byteCells ((nv.drop (i * 256).toNat).take 256) := ⟨_, rfl⟩
        have HV := Aside0.mk hV
        have HVL := Aside0.mk (show V.length = 256 by rw [hV, byteCells_len, List.length_take, List.length_drop, HL.out]; omega)
        have harr : ∀ W : World, (Instr.arrayAt 49 (.slice (some (ad.add (i * 256).toNat)) 256 (c0 - (i * 256).toNat))).run Try.prog W = .ok (.pointer (some (ad.add (i * 256).toNat))) W := fun W => run_arrayAt W 49 5 256 _ _ _ Try.underlying49 (by omega)
        have p1 : (0 ≤ i) = True := eq_true (by omega)
        have p2 : (i < 2) = True := eq_true (by omega)
        clear hcc hV hi hm ea
        go_wp2_with (first
          | ((with_reducible refine gate_dst (N := 21) rfl ?_); refine wpList_load_any rfl 49 (.tmp 20) rfl (ad.add (i * 256).toNat) rfl V (.array 256 5) ?hc Try.underlying49 rfl (by rw [HVL.out]; exact size49) ?_; (case hc => rw [HV.out]; exact C_cells (Kd.C_below HCC.out HB.out)))
          | ((with_reducible refine gate_ (.store 49 (.tmp 22) (.tmp 21)) rfl ?_); refine wpList_store_mid rfl 49 (.tmp 22) (.tmp 21) rfl gb (i.toNat * 256) V.toArray rfl rfl ?ht (by rw [List.size_toArray, HVL.out]; exact size49) (all_oneCell_toArray (by rw [HV.out]; exact byteCells_one _)) ?_; (case ht => rw [List.size_toArray, HVL.out]; exact fun j hj => by have := HT.out (i.toNat * 256 + j) (by have := HI.out; omega); rwa [Nat.zero_add] at this)))
        go_roundg k1
        case measure => omega
        case rel =>
          have hi := HI.out
          have e1 : i.toNat * 256 = (i * 256).toNat := by omega
          have e2 : byteCells (nv.take ((i + 1) * 256).toNat) = byteCells (nv.take (i * 256).toNat) ++ V := by
            rw [HV.out]
            unfold byteCells
            rw [← List.map_append, show ((i + 1) * 256).toNat = (i * 256).toNat + 256 by omega, List.take_add]
          have e3 : (byteCells (nv.take (i * 256).toNat)).length = i.toNat * 256 := by rw [byteCells_len, List.length_take, HL.out]; omega
          refine ⟨i + 1, rfl, ⟨by omega, by omega⟩, ⟨World.there_setCells HT.out _ _ _⟩, ⟨?_⟩, ⟨below_setCells HB.out GB.out _⟩⟩
          rw [e2]
          refine range_append (World.rangeAt_setCells_apart HR.out _ _ _ (.inr (.inl (by omega)))) ?_
          rw [e3, Nat.zero_add]
          exact World.rangeAt_setCells_same wr gb _ _ (fun j hj => by have := HT.out (i.toNat * 256 + j) (by have := HVL.out; omega); rwa [Nat.zero_add] at this)
  · have hne : ((nv.length : Int) != 512) = true := by simp; omega
    have HL := Aside0.mk hl
    have HZL := Aside0.mk hZl
    have HZ := Aside0.mk hZ
    clear hl hZl hZ hr0 hc0
    go_enter Try.func23, Try.ntmps23
    go_wp2_with (first
      | ((with_reducible refine gate_dst (N := 2) rfl ?_); refine box_event ?hg (N := 2) ?hd (cs := Z.toArray) (t := 50) ?hr ?_; (case hd => rfl); (case hg => rfl); (case hr => have hZ2 := HZ.out; first | (go_simp; done) | (go_simp; rfl)); intro gb hg w1 hbox hb; have BK := Aside0.mk hbox; have HB := Aside0.mk hb; have GB := Aside0.mk (show w.heap.size ≤ gb from hg ▸ Nat.le_refl _); clear hbox hb hg)
      | ((with_reducible refine gate_dst (N := 8) rfl ?_); refine wpList_load_any rfl 50 (.tmp 2) rfl ⟨gb, 0, none⟩ rfl Z (.array 2 49) (fun j v h => by rw [Addr.add_mid, blk_cell BK.out]; simpa using h) Try.underlying50 rfl (by rw [HZL.out]; exact size50) ?_)
      | ((with_reducible refine gate_ (.store 50 (.tmp 2) (.tmp 8)) rfl ?_); refine wpList_store_mid rfl 50 (.tmp 2) (.tmp 8) rfl gb 0 Z.toArray rfl rfl ?ht (by rw [List.size_toArray, HZL.out]; exact size50) (all_oneCell_toArray (by rw [HZ.out]; exact byteCells_one _)) ?_; (case ht => exact fun j hj => ⟨by rw [blk_cell BK.out]; simp at hj ⊢; omega, blk_frozen BK.out _⟩)))
    have hS := Aside0.mk (show (w1.setCells gb 0 Z).rangeAt gb 0 Z from World.rangeAt_setCells_same w1 gb 0 _ (fun j hj => ⟨by rw [blk_cell BK.out]; simp; omega, blk_frozen BK.out _⟩))
    refine bodyPost_ret (v := .tuple #[.agg Z.toArray, .bool false]) ?_ rfl ⟨?_, below_setCells HB.out GB.out _⟩
    · exact results_arr (p := 2) (u := 3) (ty := 50) (v := .bool false) rfl _ _ ⟨gb, 0, none⟩ rfl rfl Z (.array 2 49) (fun j v h => by rw [Addr.add_mid]; exact hS.out j v h) Try.underlying50 rfl (by rw [HZL.out]; exact size50)
    · unfold bothF
      rw [if_neg HL.out, ← HZ.out, decide_eq_false HL.out]
end Go.Proofs.Ytlpagilpbdiniaa.Q
