/- A row of 512 bytes with spare room whose cells are known: appends within the room. -/
import Derived.Test.YtnbomjfpnpmllaaHCross
import Derived.Test.YtnbomjfpnpmllaaQPropEncodeInt
namespace Go.Proofs.Ytnbomjfpnpmllaa.Q
open Go.RowKit Go.Proofs.YtnbomjfpnpmllaaW.PrintWords Go.Proofs.YtnbomjfpnpmllaaW.PrintLast Go.Proofs.YtnbomjfpnpmllaaW.PrintMore
def zerosL (n : Nat) : List Int := List.replicate n 0
def Spare (w : World) (g : Nat) (L : List Int) : Prop := w.heap[g]? = some (.cells (byteCells (L ++ zerosL (512 - L.length))).toArray 5 (0, 0))
theorem info5s : (Try.prog.info? 5).map (fun i => (i.zero, i.size, i.bytes)) = some (some (.int .u8 0), 1, 1) := by kernel_rfl
theorem zeros_drop (n m : Nat) : (zerosL n).drop m = zerosL (n - m) := by simp [zerosL]
theorem C_blk {w : World} {g t : Nat} {L : List Int} (h : w.heap[g]? = some (.cells (byteCells L).toArray t (0, 0))) (n : Nat) (hn : L.length = n) (hm : n ≤ 9223372036854775807) : Kd.C (Kd.int .u8) w (some ⟨g, 0, none⟩) n L :=
  C_of_range (fun j v hv => by rw [Nat.zero_add, blk_cell h]; simpa using hv) hn hm
theorem C_of_spare {w : World} {g : Nat} {L : List Int} (h : Spare w g L) (n : Nat) (hn : L.length = n) (hm : n ≤ 512) : Kd.C (Kd.int .u8) w (some ⟨g, 0, none⟩) n L :=
  C_of_range (fun j v hv => by
    rw [Nat.zero_add, blk_cell h]
    have hj := (List.getElem?_eq_some_iff.1 hv).1
    unfold byteCells at hv hj ⊢
    rw [List.map_append]
    simp only [List.getElem?_toArray]
    rw [List.getElem?_append_left hj]
    exact hv) hn (by omega)
theorem cross_at (A : Option Addr) (c n : Nat) (l : List Int) (w : World) (hl : l.length = n) (hn : n ≤ 140737488351232) (hC : Kd.C (Kd.int .u8) w A n l) :
    Calls Try.prog 25 #[.slice A n c] w fun e w' => e = .returned (.agg #[.int .u8 (crossF l).1, .int .u8 (crossF l).2]) ∧ Below w.heap.size w w' := by
  subst hl
  exact cross_calls A c l w hC hn
theorem made_zero : madeCells #[Value.int .u8 0] (512 * 1) = (byteCells ([] ++ zerosL (512 - 0))).toArray := by kernel_rfl
theorem run_append_spare {P : Program} (hu : P.underlying 27 = some (.slice 5)) (hinf : (P.info? 5).map (fun i => (i.zero, i.size, i.bytes)) = some (some (.int .u8 0), 1, 1)) {w : World} {g : Nat} {L M : List Int} {A : Option Addr} {m c : Nat} (h : Spare w g L) (hC : Kd.C (Kd.int .u8) w A m M) (hm : 0 < m) (hr : L.length + m ≤ 512) (ty : TypeId) :
    ∃ w', (Builtin.append_ #[27, 27] ty #[.slice (some ⟨g, 0, none⟩) L.length 512, .slice A m c]).run P w = .ok (.slice (some ⟨g, 0, none⟩) (L.length + m) 512) w' ∧ Spare w' g (L ++ M) ∧ w.grownBy w' (some g) := by
  obtain ⟨i0, hi, hz0, hz1, hz2⟩ := info_parts hinf
  have hM : M.length = m := hC.1
  obtain ⟨ad, rfl, _⟩ := hC.2.2 hm
  have hcs := C_cells hC
  have hs : (byteCells (L ++ zerosL (512 - L.length))).length = 512 := by rw [byteCells_len, List.length_append]; simp [zerosL]; omega
  have hrun := run_append_room (P := P) w 27 ty 5 i0 hu hi g L.length 512 _ h ad m c (byteCells M) (by rw [byteCells_len, hM, hz1, Nat.mul_one]) hcs (byteCells_one M) hr (by rw [byteCells_len, hz1]; simp only [List.size_toArray]; rw [hs]; omega)
  refine ⟨_, hrun, ?_, setRow_grown _ _ _⟩
  unfold Spare
  rw [setRow_heap w g _ _ 5 (0, 0) h, hz1, Nat.mul_one]
  refine congrArg some (congrArg (fun x => Obj.cells (List.toArray x) 5 (0, 0)) ?_)
  unfold byteCells
  rw [← List.map_take, ← List.map_drop, ← List.map_append, ← List.map_append]
  congr 1
  rw [List.take_left' rfl, List.length_map, hM]
  congr 1
  rw [List.drop_append, List.drop_of_length_le (by omega), List.nil_append, zeros_drop, List.length_append]
  congr 1
  omega
theorem wp_append_spare {P : Program} (hu : P.underlying 27 = some (.slice 5)) (hinf : (P.info? 5).map (fun i => (i.zero, i.size, i.bytes)) = some (some (.int .u8 0), 1, 1)) {o : Oper} {a : Act} {K : Act → World → Prop} {Q : Exit → Act → World → Prop} {w : World} (s x : Operand)
    (ho : o.op = .call { callee := .builtin .append, args := #[s, x], argTypes := #[27, 27] }) (g : Nat) (L M : List Int) (A : Option Addr) (m c : Nat) (n : Nat) (hs : a.eval s = .slice (some ⟨g, 0, none⟩) n 512) (hx : a.eval x = .slice A m c) (hn : n = L.length)
    (h : Spare w g L) (hC : Kd.C (Kd.int .u8) w A m M) (hm : 0 < m) (hr : L.length + m ≤ 512)
    (hK : ∀ w', Spare w' g (L ++ M) → w.grownBy w' (some g) → K (a.put o.dst (.slice (some ⟨g, 0, none⟩) (n + m) 512)) w') : o.wp P a w K Q := by
  subst hn
  obtain ⟨w', hrun, h1, h2⟩ := run_append_spare hu hinf h hC hm hr o.type (c := c)
  unfold Oper.wp execOp
  simp only [ho, resolve, invoke, builtin, Sem.run_bind, Sem.run_pure, Result.andThen_ok, List.map_toArray, List.map_cons, List.map_nil, hs, hx, hrun]
  exact hK w' h1 h2
/-- append within the room, in a straight row of operations. -/
theorem wpList_append_spare {ops : Array Oper} {rest : List Oper} {o : Oper} {a : Act} {Q : Exit → Act → World → Prop} {w : World} (hgd : o.guard = none) (s x : Operand)
    (ho : o.op = .call { callee := .builtin .append, args := #[s, x], argTypes := #[27, 27] }) (g : Nat) (L M : List Int) (A : Option Addr) (m c : Nat) (n : Nat) (hs : a.eval s = .slice (some ⟨g, 0, none⟩) n 512) (hx : a.eval x = .slice A m c) (hn : n = L.length)
    (h : Spare w g L) (hC : Kd.C (Kd.int .u8) w A m M) (hm : 0 < m) (hr : L.length + m ≤ 512)
    (hK : ∀ w', Spare w' g (L ++ M) → w.grownBy w' (some g) → wpList Try.prog ops Q rest (a.put o.dst (.slice (some ⟨g, 0, none⟩) (n + m) 512)) w') : wpList Try.prog ops Q (o :: rest) a w :=
  wpList_plain hgd fun _ hK' => wp_append_spare Try.underlying27 info5s s x ho g L M A m c n hs hx hn h hC hm hr fun w' h1 h2 => hK' _ _ (hK w' h1 h2)
theorem make_spare {ops : Array Oper} {rest : List Oper} {o : Oper} {a : Act} {Q : Exit → Act → World → Prop} {W : World} (hgd : o.guard = none) (x y : Operand) (ho : o.op = .makeSlice 27 x y) (hx : a.eval x = .int .i64 0) (hy : a.eval y = .int .i64 512)
    (h : Spare (W.alloc (.cells (madeCells #[Value.int .u8 0] (512 * 1)) 5)) W.heap.size [] → wpList Try.prog ops Q rest (a.put o.dst (.slice (some ⟨W.heap.size, 0, none⟩) 0 512)) (W.alloc (.cells (madeCells #[Value.int .u8 0] (512 * 1)) 5))) : wpList Try.prog ops Q (o :: rest) a W := by
  obtain ⟨i0, hi, hz0, hz1, hz2⟩ := info_parts info5s
  have hr := run_make (P := Try.prog) W 27 5 i0 (.int .u8 0) Try.underlying27 hi hz0 .i64 .i64 0 512 (by omega) (by omega) (by rw [hz2]; decide) (by omega)
  rw [hz1] at hr
  refine Kd.event_run hgd (w1 := W.alloc (.cells (madeCells #[Value.int .u8 0] (512 * 1)) 5)) (v := .slice (some ⟨W.heap.size, 0, none⟩) 0 512) (by simp only [execOp, ho, hx, hy]; rw [Sem.run_bind, hr]; rfl) (h ?_)
  unfold Spare
  rw [made_zero]
  exact blk_new W _
end Go.Proofs.Ytnbomjfpnpmllaa.Q
