/- The closure of nvram.Plan that lays bytes behind a row. -/
import Derived.Test.YtlpagilpbdiniaaHNvRecC
namespace Go.Proofs.Ytlpagilpbdiniaa.Q
open Go.RowKit Go.Proofs.YtlpagilpbdiniaaW.PrintWords Go.Proofs.YtlpagilpbdiniaaW.PrintLast Go.Proofs.YtlpagilpbdiniaaW.PrintMore
def layF (base : Int) (rows : List S62) (l : List Int) : List S62 := l.foldl (fun r c => r ++ [⟨base + r.length, c⟩]) rows
theorem layF_len (base : Int) (l : List Int) : ∀ rows : List S62, (layF base rows l).length = rows.length + l.length := by
  induction l with
  | nil => intro rows; simp [layF]
  | cons c l ih =>
    intro rows
    show (layF base (rows ++ [⟨base + rows.length, c⟩]) l).length = _
    rw [ih]
    simp
    omega
set_option maxHeartbeats 4000000 in
set_option maxRecDepth 100000 in
theorem lay_calls (w0 w : World) (gr gb : Nat) (base : Int) (rv : Value) (rows : List S62) (A : Option Addr) (c : Nat) (l : List Int)
    (hB : Below w0.heap.size w0 w) (hgr : w0.heap.size ≤ gr) (hrow : w.heap[gr]? = some (.cells #[rv] 32 (0, 0))) (hbase : w.heap[gb]? = some (.cells #[.int .i64 base] 3 (0, 0)))
    (hR : Kd.R k62 62 w w0.heap.size (fun _ => True) rv rows) (hF : Kd.F (Kd.int .u8) w (fun k => k ≠ gr ∧ some k ≠ rv.ownBlock) A l.length l) (hlen : rows.length + l.length ≤ 1000) (hb : 0 ≤ base ∧ base ≤ 1000) :
    Calls Try.prog 29 #[.slice A l.length c, .pointer (some ⟨gr, 0, none⟩), .pointer (some ⟨gb, 0, none⟩)] w fun e w' => e = .returned (.tuple #[]) ∧ ∃ rv' : Value, w'.heap[gr]? = some (.cells #[rv'] 32 (0, 0)) ∧ w'.heap[gb]? = some (.cells #[.int .i64 base] 3 (0, 0)) ∧ Kd.R k62 62 w' w0.heap.size (fun _ => True) rv' (layF base rows l) ∧ Below w0.heap.size w0 w' := by
  have HB := Aside0.mk hB
  have GR := Aside0.mk hgr
  have BR := Aside0.mk hrow
  have BB := Aside0.mk hbase
  have HR := Aside0.mk hR
  have HF := Aside0.mk hF
  have HL := Aside0.mk hlen
  have HBB := Aside0.mk hb
  clear hB hgr hrow hbase hR hF hlen hb
  go_enter Try.func29, Try.ntmps29
  go_wp2
  go_loopg [8] l.length (fun kq v8 w' => ∃ (i : Int) (rv' : Value), v8 = .int .i64 i ∧ Aside0 (0 ≤ i ∧ i + kq = l.length) ∧ Aside0 (w'.heap[gr]? = some (.cells #[rv'] 32 (0, 0))) ∧ Aside0 (w'.heap[gb]? = some (.cells #[.int .i64 base] 3 (0, 0))) ∧ Aside0 (Kd.R k62 62 w' w0.heap.size (fun _ => True) rv' (layF base rows (l.take i.toNat))) ∧ Aside0 (Kd.F (Kd.int .u8) w' (fun k => k ≠ gr ∧ some k ≠ rv'.ownBlock) A l.length l) ∧ Aside0 (Below w0.heap.size w0 w'))
  case atStart => exact ⟨0, rv, rfl, ⟨by omega, by omega⟩, BR, BB, HR, HF, HB⟩
  case round =>
    clear BR BB HR HF HB
    obtain ⟨i, rv', rfl, HI, BR, BB, HR, HF, HB⟩ := hrel
    cases gk with
    | zero =>
      have hlt : decide (i < (l.length : Int)) = false := decide_eq_false (by have := HI.out; omega)
      have hR := HR.out
      rw [List.take_of_length_le (by have := HI.out; omega)] at hR
      go_wp2
      go_end0
      exact ⟨rfl, rv', BR.out, BB.out, hR, HB.out⟩
    | succ k1 =>
      have hi := HI.out
      have hll := HL.out
      have hbb := HBB.out
      have hlt : decide (i < (l.length : Int)) = true := decide_eq_true (by omega)
      have hwr : IntKind.i64.wrap (i + 1) = i + 1 := (i64_w _).trans (by unfold wrap64; omega)
      obtain ⟨xs, hxs⟩ : ∃ xs, xs = layF base rows (l.take i.toNat) := ⟨_, rfl⟩
      rw [← hxs] at HR
      have hxl : xs.length = rows.length + i.toNat := by rw [hxs, layF_len, List.length_take]; omega
      have hwl : IntKind.i64.wrap (base + (xs.length : Int)) = base + xs.length := (i64_w _).trans (by unfold wrap64; omega)
      have hnx : layF base rows (l.take (i + 1).toNat) = xs ++ [⟨base + xs.length, rd l i⟩] := by
        rw [show (i + 1).toNat = i.toNat + 1 by omega, List.take_succ_eq_append_getElem (show i.toNat < l.length by omega)]
        unfold layF
        rw [List.foldl_append]
        show (layF base rows (l.take i.toNat)) ++ [⟨base + (layF base rows (l.take i.toNat)).length, _⟩] = _
        rw [← hxs]
        simp [rd, List.getD_eq_getElem?_getD, List.getElem?_eq_getElem (show i.toNat < l.length by omega)]
      obtain ⟨ad, ea, hx0⟩ := Kd.at_int (Kd.F_now HF.out) i (by omega) (by omega)
      cases ea
      have p1 : (0 ≤ i) = True := eq_true (by omega)
      have p2 : (i < (l.length : Int)) = True := eq_true (by omega)
      obtain ⟨Ar, cr, rfl⟩ := Kd.R_slice HR.out
      have hcr := (blk_cell BR.out 0).trans rfl
      have hcb := (blk_cell BB.out 0).trans rfl
      have hfr := blk_frozen BR.out 0
      have HNR := Aside0.mk (Kd.R_ne HR.out BR.out (by decide))
      have HNB := Aside0.mk (Kd.R_ne HR.out BB.out (by decide))
      have HNX := Aside0.mk hnx
      have HXL := Aside0.mk hxl
      clear hi hll hbb hxs hxl hnx
      go_wp2_with (first
        | ((with_reducible refine gate_builtin (b := .append) (xs := #[.tmp 12, .tmp 19]) rfl ?_); at_builtin; refine Kd.R_append k62 (w0 := w0) w0.heap.size rfl (.tmp 12) (.tmp 19) 32 62 (.agg #[(.int .i64 0), (.int .u8 0)]) 16 rfl Try.underlying32 info62 rfl (by decide) (by omega) (.slice Ar xs.length cr) xs (⟨base + xs.length, rd l i⟩ : S62) [.int .i64 (base + xs.length), .int .u8 (rd l i)] (fun _ => True) (fun _ => False) rfl (by first | (go_simp; done) | (go_simp; rfl)) ?aP (fun _ hk => hk.elim) ?aF ?aO ?aB ?aS ?aL ?_; (case aP => exact k62_mkM _ _ _ (⟨base + xs.length, rd l i⟩ : S62)); (case aB => exact HB.out); (case aF => exact (fun _ _ => trivial)); (case aO => exact HR.out); (case aS => exact HB.out.size); (case aL => have := HXL.out; have := HL.out; have := HI.out; omega); intro v1 w1 ho hb hg hat; obtain ⟨A1, n1, c1, rfl⟩ : ∃ A n c, v1 = .slice A n c := (by obtain ⟨A, c, e⟩ := Kd.R_slice ho; exact ⟨A, _, c, e⟩); have BR1 := Aside0.mk (blk_grown BR.out hg HNR.out); have BB1 := Aside0.mk (blk_grown BB.out hg HNB.out); have HR1 := Aside0.mk ho; have HF1 := Aside0.mk (Kd.F_after HF.out hg hat); have HB1 := Aside0.mk hb; clear hcr hcb hfr hx0 ho hb hg hat; have hcz := (blk_cell BR1.out 0).trans rfl; have hfz := blk_frozen BR1.out 0))
      go_roundg k1
      case measure => omega
      case rel =>
        have hi := HI.out
        refine ⟨i + 1, .slice A1 n1 c1, rfl, ⟨by omega, by omega⟩, ⟨blk_put BR1.out 0 _ rfl⟩, ⟨blk_far BB1.out (p := ⟨gr, 0, none⟩) (blk_ne BB1.out BR1.out (by decide)) _⟩, ⟨?_⟩, ⟨Kd.F_far (p := ⟨gr, 0, none⟩) HF1.out (fun k hk => hk.1) _⟩, ⟨below_set HB1.out GR.out⟩⟩
        rw [HNX.out]
        exact Kd.R_set HR1.out BR1.out (by decide) 0 _
end Go.Proofs.Ytlpagilpbdiniaa.Q
