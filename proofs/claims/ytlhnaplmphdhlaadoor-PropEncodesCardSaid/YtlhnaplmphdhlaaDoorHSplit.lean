/- strings.SplitSeq at one byte: the pieces that its iterator hands on. -/
import Derived.TacticsInMore
import Derived.LoopNIn
import Derived.LoopIn
import Derived.Maps.AppendAt
import Derived.Sort.QuietIn
import Derived.Lib.IndexLaws
import Derived.Test.YtlhnaplmphdhlaaDoorHRangeL
import Derived.Test.YtlhnaplmphdhlaaDoorHWords
import Derived.Test.YtlhnaplmphdhlaaDoorHShelf
namespace Go.Proofs.YtlhnaplmphdhlaaDoor.Q
open Go.RowKit Go.Shelf Go.Proofs.YtlhnaplmphdhlaaDoorW.PrintWords Go.Proofs.YtlhnaplmphdhlaaDoorW.PrintLast
attribute [local go_sem] Oper.semAt_some
/-- The pieces of a row of bytes at c. -/
def cuts (c : UInt8) : List UInt8 → List (List UInt8)
  | [] => [[]]
  | a :: l => if a = c then [] :: cuts c l else match cuts c l with | p :: ps => (a :: p) :: ps | [] => [[a]]
theorem cuts_ne (c : UInt8) : ∀ l, cuts c l ≠ []
  | [] => by simp [cuts]
  | a :: l => by
    rw [cuts]
    split
    · simp
    · split <;> simp
theorem cuts_none (c : UInt8) : ∀ {l : List UInt8}, Lib.indexByte l c = -1 → cuts c l = [l]
  | [], _ => rfl
  | a :: l, h => by
    have h0 := Lib.indexByte_none h 0
    have ha : ¬ a = c := fun e => h0 (by rw [e]; rfl)
    have hl : Lib.indexByte l c = -1 := by
      rw [Lib.indexByte] at h
      have hb : (a == c) = false := by simp [ha]
      rw [hb] at h
      simp only [Bool.false_eq_true, if_false] at h
      split at h
      · rename_i h1; exact eq_of_beq h1
      · have := Lib.indexByte_ge l c
        omega
    rw [cuts, if_neg ha, cuts_none c hl]
theorem cuts_some (c : UInt8) : ∀ {l : List UInt8} {i : Nat}, Lib.indexByte l c = i → cuts c l = l.take i :: cuts c (l.drop (i + 1))
  | [], i, h => by rw [Lib.indexByte] at h; omega
  | a :: l, i, h => by
    rw [cuts]
    by_cases ha : a = c
    · have h0 : i = 0 := by
        rw [Lib.indexByte, if_pos (by simp [ha])] at h
        omega
      rw [if_pos ha, h0]
      rfl
    · rw [if_neg ha]
      have hb : (a == c) = false := by simp [ha]
      rw [Lib.indexByte, hb] at h
      simp only [Bool.false_eq_true, if_false] at h
      split at h
      · omega
      · have := Lib.indexByte_ge l c
        obtain ⟨j, hj⟩ : ∃ j : Nat, Lib.indexByte l c = j := ⟨(Lib.indexByte l c).toNat, by rename_i h1; have h2 : Lib.indexByte l c ≠ -1 := fun e => h1 (by rw [e]; rfl); omega⟩
        rw [hj] at h
        obtain rfl : i = j + 1 := by omega
        rw [cuts_some c hj]
        rfl
def pieceV (p : List UInt8) : Array Value := #[.string ⟨p.toArray⟩]
/-- What the iterator does between two rounds: it writes its own cell. -/
def AbS (Bs : Nat) (A B : World) : Prop := ∃ u, B = A.setCell ⟨Bs, 0, none⟩ u
/-- What a round keeps: the iterator's three cells. -/
def KpS (Bs Bp Bz : Nat) (W W' : World) : Prop := W.heap.size ≤ W'.heap.size ∧ ∀ i, i = Bs ∨ i = Bp ∨ i = Bz → i < W.heap.size → W'.heap[i]? = W.heap[i]?
theorem KpS.trans {Bs Bp Bz : Nat} {A B C : World} (h : KpS Bs Bp Bz A B) (k : KpS Bs Bp Bz B C) : KpS Bs Bp Bz A C :=
  ⟨Nat.le_trans h.1 k.1, fun i hi hl => (k.2 i hi (Nat.lt_of_lt_of_le hl h.1)).trans (h.2 i hi hl)⟩
theorem KpS.heap {Bs Bp Bz : Nat} {A B : World} (h : KpS Bs Bp Bz A B) {i : Nat} (hi : i = Bs ∨ i = Bp ∨ i = Bz) {o : Obj} (ho : A.heap[i]? = some o) : B.heap[i]? = some o := (h.2 i hi (Array.getElem?_eq_some_iff.1 ho).1).trans ho
theorem extract_take (s : ByteArray) (i : Nat) : s.extract 0 i = ⟨(s.data.toList.take i).toArray⟩ := by
  apply ByteArray.ext
  apply Array.ext'
  rw [Lib.extract_data, List.drop_zero, Nat.sub_zero]
theorem extract_drop (s : ByteArray) (i : Nat) : s.extract i s.size = ⟨(s.data.toList.drop i).toArray⟩ := by
  apply ByteArray.ext
  apply Array.ext'
  rw [Lib.extract_data]
  show _ = s.data.toList.drop i
  rw [List.take_of_length_le]
  rw [List.length_drop]
  exact Nat.le_refl _
theorem mk_list (s : ByteArray) : (⟨s.data.toList.toArray⟩ : ByteArray) = s := by
  apply ByteArray.ext
  simp
def strSz (W : World) (Bs : Nat) : Nat := match W.cell? ⟨Bs, 0, none⟩ with | some (.string s) => s.size | _ => 0
set_option maxRecDepth 100000 in
set_option maxHeartbeats 4000000 in
theorem split_seq (c : UInt8) (n : Nat) (hn : 1 ≤ n) (Bs Bp Bz : Nat) (hsp : Bs ≠ Bp) (hsz : Bs ≠ Bz) (s : ByteArray) (hs : s.size ≤ 140737488351232) (w : World)
    (hBs : w.heap[Bs]? = some (.cells #[.string s] 9 (0, 0))) (hBp : w.heap[Bp]? = some (.cells #[.string ⟨#[c]⟩] 9 (0, 0))) (hBz : w.heap[Bz]? = some (.cells #[.int .i64 0] 3 (0, 0))) :
    SeqL n Tryd.prog 92 #[.pointer (some ⟨Bp, 0, none⟩), .pointer (some ⟨Bs, 0, none⟩), .pointer (some ⟨Bz, 0, none⟩)] (AbS Bs) (KpS Bs Bp Bz) ((cuts c s.data.toList).map pieceV) w := by
  intro l J Jx W hW hJ hJx hY h0
  have hBs := blk_below hBs hW
  have hBp := blk_below hBp hW
  have hBz := blk_below hBz hW
  clear hW
  obtain ⟨L, hL⟩ : ∃ L, L = (cuts c s.data.toList).map pieceV := ⟨_, rfl⟩
  rw [← hL] at hY ⊢
  refine callsIn_of_wp Tryd.func92 rfl trivial ?_ rfl
  simp only [Tryd.ntmps92, List.size_toArray, List.length_cons, List.length_nil, Nat.reduceAdd, Nat.reduceSub, Array.replicate_succ, Array.replicate_zero, List.push_toArray, List.append_toArray, List.nil_append, List.cons_append]
  have hc1 := (blk_cell hBp 0).trans rfl
  have hone : ((1 : Int) == 0) = false := by decide
  gi_wp2
  gi_loopw [7] (fun v wr => ∃ (t : ByteArray) (k : Nat), t.size ≤ 140737488351232 ∧ Aside0 (L.drop k = (cuts c t.data.toList).map pieceV) ∧ J k wr ∧ wr.heap[Bs]? = some (.cells #[.string t] 9 (0, 0)) ∧ wr.heap[Bp]? = some (.cells #[.string ⟨#[c]⟩] 9 (0, 0)) ∧ wr.heap[Bz]? = some (.cells #[.int .i64 0] 3 (0, 0)))
    (fun _ wr => strSz wr Bs)
  case atStart => exact ⟨s, 0, hs, ⟨by rw [hL]; rfl⟩, h0, hBs, hBp, hBz⟩
  case round =>
    obtain ⟨t, k, ht, HD, hJk, hs1, hp1, hz1⟩ := hrel
    clear hc1 hBs hBp hBz h0
    obtain ⟨x, hx⟩ : ∃ x, x = Lib.indexByte t.data.toList c := ⟨_, rfl⟩
    have HI := Aside0.mk (show ∀ X : World, Calls Tryd.prog 81 #[.string t, .string ⟨#[c]⟩] X (fun e w' => e = .returned (.int .i64 x) ∧ w' = X) from fun X => by rw [hx]; exact Tryd.strings_Index_one t c X)
    have hcs := (blk_cell hs1 0).trans rfl
    have hcp := (blk_cell hp1 0).trans rfl
    have hcz := (blk_cell hz1 0).trans rfl
    have hge := Lib.indexByte_ge t.data.toList c
    rw [← hx] at hge
    have hkl : k < L.length := by
      have h1 := congrArg List.length HD.out
      rw [List.length_drop, List.length_map] at h1
      have h2 := List.length_pos_iff.2 (cuts_ne c t.data.toList)
      omega
    have hLk : L[k] = (L.drop k)[0]'(by rw [List.length_drop]; omega) := by simp
    by_cases hneg : x < 0
    · have d1 : decide (x < 0) = true := decide_eq_true hneg
      have hcut := cuts_none c (show Lib.indexByte t.data.toList c = -1 by omega)
      have hLt : L[k] = #[.string t] := by
        rw [hLk]
        have : (L.drop k) = [#[.string t]] := by rw [HD.out, hcut]; simp [pieceV]
        simp [this]
      have hend : k + 1 = L.length := by
        have h1 := congrArg List.length HD.out
        rw [List.length_drop, hcut] at h1
        simp at h1
        omega
      have HE := Aside0.mk hend
      obtain ⟨fn, tmps, assign, body, hy, hR⟩ := hY k hkl wr hJk
      rw [hLt] at hy
      clear hx hge hneg HD hLk hLt hend hcut
      gi_wp2_with (refine ⟨trivial, ?_⟩; gi_at_call 81; (with_reducible refine (callsIn_wide.2 (HI.out _)).mono ?_); rintro e w7 ⟨rfl, rfl⟩)
      gi_wp2
      refine hR.mono ?_
      rintro e W3 (⟨rfl, hJ3, hk3⟩ | ⟨rfl, hJx3⟩)
      · gi_wp2
        go_end0
        exact ⟨⟨_, rfl⟩, .inl (HE.out ▸ hJ3)⟩
      · gi_wp2
        go_end0
        exact ⟨⟨_, rfl⟩, .inr ⟨k + 1, Nat.le_of_eq HE.out, hJx3⟩⟩
    · obtain ⟨i, hi⟩ : ∃ i : Nat, x = i := ⟨x.toNat, by omega⟩
      subst hi
      have d1 : decide ((i : Int) < 0) = false := decide_eq_false hneg
      have hcut := cuts_some c hx.symm
      have hil : i < t.size := by
        have h1 := (Lib.indexByte_some hx.symm).1
        have h2 := (List.getElem?_eq_some_iff.1 h1).1
        rwa [show t.data.toList.length = t.size from Array.length_toList] at h2
      have hLt : L[k] = #[.string (t.extract 0 i)] := by
        rw [hLk]
        have : (L.drop k) = #[.string (t.extract 0 i)] :: (cuts c (t.data.toList.drop (i + 1))).map pieceV := by rw [HD.out, hcut, extract_take]; rfl
        simp [this]
      have HD2 := Aside0.mk (show L.drop (k + 1) = (cuts c (t.extract (i + 1) t.size).data.toList).map pieceV by
        rw [← List.drop_drop, HD.out, hcut, extract_drop]
        rfl)
      have hsz2 : (t.extract (i + 1) t.size).size = t.size - (i + 1) := by
        rw [extract_drop]
        show (List.drop (i + 1) t.data.toList).toArray.size = _
        simp
      obtain ⟨fn, tmps, assign, body, hy, hR⟩ := hY k hkl wr hJk
      rw [hLt] at hy
      have q1 : ((i : Int) ≤ (t.size : Int)) = True := eq_true (by omega)
      have q2 : (0 ≤ (i : Int) + 1) = True := eq_true (by omega)
      have q3 : ((i : Int) + 1 ≤ (t.size : Int)) = True := eq_true (by omega)
      have q4 : IntKind.i64.wrap ((i : Int) + 1) = (i : Int) + 1 := (i64_w _).trans (by unfold wrap64; omega)
      have q5 : IntKind.i64.wrap (i : Int) = (i : Int) := (i64_w _).trans (by unfold wrap64; omega)
      have q6 : ((i : Int) + 1).toNat = i + 1 := by omega
      have HS := Aside0.mk hsz2
      have HT := Aside0.mk ht
      have HIL := Aside0.mk hil
      clear hx hge hneg HD hLk hLt hcut hsz2 ht hil
      gi_wp2_with (refine ⟨trivial, ?_⟩; gi_at_call 81; (with_reducible refine (callsIn_wide.2 (HI.out _)).mono ?_); rintro e w7 ⟨rfl, rfl⟩)
      refine hR.mono ?_
      rintro e W3 (⟨rfl, hJ3, hk3⟩ | ⟨rfl, hJx3⟩)
      · have hs3 := hk3.heap (.inl rfl) hs1
        have hp3 := hk3.heap (.inr (.inl rfl)) hp1
        have hz3 := hk3.heap (.inr (.inr rfl)) hz1
        have hcs3 := (blk_cell hs3 0).trans rfl
        have hcp3 := (blk_cell hp3 0).trans rfl
        have hfs3 := blk_frozen hs3 0
        have hsz3 : strSz w7 Bs = t.size := by unfold strSz; rw [hcs]; rfl
        have HZ := Aside0.mk hsz3
        clear hcs hcp hcz hsz3
        gi_wp2
        go_roundw
        case rel => exact ⟨t.extract (i + 1) t.size, k + 1, by rw [HS.out]; have := HT.out; omega, HD2, hJ _ _ _ hJ3 ⟨_, rfl⟩, blk_put hs3 0 _ rfl, blk_far hp3 (fun e => hsp e.symm) _, blk_far hz3 (fun e => hsz e.symm) _⟩
        case measure =>
          have : strSz (W3.setCell ⟨Bs, 0, none⟩ (.string (t.extract (i + 1) t.size))) Bs = (t.extract (i + 1) t.size).size := by
            unfold strSz
            rw [(blk_cell (blk_put hs3 0 (.string (t.extract (i + 1) t.size)) rfl) 0).trans rfl]
            rfl
          rw [this, HZ.out, HS.out]
          have := HIL.out
          omega
      · gi_wp2
        refine bodyPost_ret (results_none rfl _ _ _) rfl ?_
        exact ⟨⟨_, rfl⟩, .inr ⟨k + 1, hkl, hJx3⟩⟩
end Go.Proofs.YtlhnaplmphdhlaaDoor.Q
