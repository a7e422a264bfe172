/- The fixed fact of layer 2: it holds, where the tables hold what their initialisers lay. -/
import Derived.Test.YthlpdjnfcjpbpaaDoorHLaid
import Derived.Test.YthlpdjnfcjpbpaaDoorHShelf
import Derived.Test.YthlpdjnfcjpbpaaDoorHDigitP
namespace Go.Proofs.YthlpdjnfcjpbpaaDoor.Q
open Go.RowKit Go.Proofs.YthlpdjnfcjpbpaaDoorW.PrintWords Go.Proofs.YthlpdjnfcjpbpaaDoorW.PrintLast Go.Proofs.YthlpdjnfcjpbpaaDoorW.PrintMore
theorem below_grow {w w1 : World} (h : Below w.heap.size w w1) (os : Array Obj) : Below w.heap.size w (Go.Sort.grow w1 os) :=
  ⟨h.os, h.tape, h.output, by rw [Go.Sort.size_grow]; exact Nat.le_trans h.size (Nat.le_add_right _ _), fun i hi => by
    rw [← h.block i hi]
    show (w1.heap ++ os)[i]? = w1.heap[i]?
    rw [Array.getElem?_append_left (Nat.lt_of_lt_of_le hi h.size)]⟩
theorem itoa_m1 : (⟨(Go.Lib.itoa (-1)).toArray⟩ : ByteArray) = ⟨#[45, 49]⟩ := by kernel_rfl
theorem parse_ff : parF (⟨#[45, 102, 102]⟩ : ByteArray) 16 = (4294967041, 0) := by kernel_rfl
def tinderlaw02_alive.f : Option Bool := some true
set_option maxHeartbeats 1000000 in
theorem signed_m1 (w : World) (ht : Tabs w) : Calls Tryd.prog 16 #[.int .u32 4294967295, .int .u32 10] w fun e w' => e = .returned (.tuple #[.string ⟨#[45, 49]⟩, .int .i64 0]) ∧ Below w.heap.size w w' := by
  have HI := Aside0.mk (fun W (hT : Tabs W) => Tryd.strconv_FormatInt_10 (-1) (by decide) (by decide) W hT.strconv_uint64pow10)
  have HT := Aside0.mk ht
  have HB := Aside0.mk (Below.refl w.heap.size w)
  clear ht
  have e1 : wrap64 (wrap32 4294967295) = -1 := by kernel_rfl
  go_enter Tryd.func16, Tryd.ntmps16
  go_wp2_with (first
    | (go_at_call 22; refine (digit_fit.calls 10 true _ rfl).mono ?_; rintro e w1 ⟨rfl, hd⟩; have HB1 := Aside0.mk hd.below; have HT1 := Aside0.mk (HT.out.below hd.below); clear hd)
    | (go_at_call 26; refine (HI.out _ HT1.out).mono ?_; rintro e w2 ⟨rfl, k, os, hw⟩; rw [itoa_m1]; have HB2 := Aside0.mk (show Below w.heap.size w w2 from by rw [hw]; exact below_grow (pw_below_drewN HB1.out k) os); clear hw))
  go_ret2
  exact ⟨rfl, HB2.out⟩
set_option maxHeartbeats 1000000 in
theorem tinderlaw02_alive.calls (r : Bool) (w : World) (ht : Tabs w) (h : tinderlaw02_alive.f = some r) :
    Calls Tryd.prog 9 #[] w fun e w' => e = .returned (.bool r) ∧ Below w.heap.size w w' := by
  obtain rfl := Option.some.inj h
  have HI := Aside0.mk (signed_m1 w ht)
  have hp : digit_Parse.f 100 (⟨#[45, 102, 102]⟩ : ByteArray) 16 = some (4294967041, 0) := by rw [parse_eq _ _ _ (by decide) (by decide), parse_ff]
  have HP := Aside0.mk (fun W => digit_Parse.calls 100 (⟨#[45, 102, 102]⟩ : ByteArray) 16 4294967041 0 W hp)
  have HB := Aside0.mk (Below.refl w.heap.size w)
  clear ht h hp
  go_enter Tryd.func9, Tryd.ntmps9
  go_wp2_with (first
    | (go_at_call 16; refine HI.out.mono ?_; rintro e w1 ⟨rfl, hb⟩; have HB1 := Aside0.mk hb; clear hb)
    | (go_at_call 12; refine (HP.out _).mono ?_; rintro e w2 ⟨rfl, hd⟩; have HB2 := Aside0.mk (below_step HB1.out hd.below); clear hd))
  go_ret
  exact ⟨rfl, HB2.out⟩
end Go.Proofs.YthlpdjnfcjpbpaaDoor.Q
