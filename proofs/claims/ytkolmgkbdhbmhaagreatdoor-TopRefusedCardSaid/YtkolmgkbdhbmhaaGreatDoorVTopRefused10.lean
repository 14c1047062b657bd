/- TopRefused: what the claim's theorem reaches of this seat's texts, part 10, put together by this project's own program (bale.py); conditions: those of each theorem. -/
import Derived.Test.YtkolmgkbdhbmhaaGreatDoorVTopRefused5
import Derived.Test.YtkolmgkbdhbmhaaGreatDoorVTopRefused8
import Derived.Test.YtkolmgkbdhbmhaaGreatDoorVTopRefused9
import Derived.Shelf.Abstract
import Derived.OwnWalk
import Derived.LoopN
namespace Go.Proofs.YtkolmgkbdhbmhaaGreatDoor.HT2
open Go.RowKit Go.Proofs.YtkolmgkbdhbmhaaGreatDoorW.PrintWords Go.Proofs.YtkolmgkbdhbmhaaGreatDoorW.PrintLast Go.Proofs.YtkolmgkbdhbmhaaGreatDoorW.PrintMore
attribute [local go_sem] max2_int min2_int max_two min_two max_three min_three max_four min_four   -- for this text's walks alone
set_option linter.unusedVariables false
set_option linter.unusedSimpArgs false

/-! ### pipe_Writer_Put: function 51, by hand -/
set_option maxRecDepth 100000 in
set_option maxHeartbeats 2000000 in
theorem pipe_Put.gives (B p n m k : Nat) (v : Value) (xs : List Int) (vv : Int) (w : World) (h : Wr w B p n v m xs) (hn : n + k < 1000000) (hk : k ≤ 48) (hv0 : 0 ≤ vv) (hv : vv < 2 ^ k) :
    Calls Tryz.prog 51 #[.pointer (some ⟨p, 0, none⟩), .int .u64 vv, .int .i64 k] w fun e w' => e = .returned (.bool true) ∧ Below B w w' ∧ ∃ v' m' xs', Wr w' B p (n + k) v' m' xs' := by
  have hcall := pipe_each.gives B p n m k v xs vv w h hn
  have hk1 : ¬ (k : Int) < 0 := by omega
  have hk2 : ¬ 48 < (k : Int) := by omega
  have hkn : ¬ (k : Int) < 0 ∧ ((k : Int)).toNat = k := ⟨hk1, by omega⟩
  have hsv : vv / 2 ^ k = 0 := Int.ediv_eq_zero_of_lt hv0 hv
  clear h hv0 hv
  go_enter Tryz.func51, Tryz.ntmps51
  go_wp2_with (go_at_call 88; refine hcall.mono ?_; rintro e w' ⟨rfl, hb1, hw1⟩)
  go_ret
  exact ⟨rfl, hb1, hw1⟩
set_option maxRecDepth 100000 in
set_option maxHeartbeats 2000000 in
theorem pipe_Bytes.gives (B p n m : Nat) (v : Value) (xs : List Int) (w : World) (h : Wr w B p n v m xs) (hn : n < 1000000) :
    Calls Tryz.prog 29 #[.pointer (some ⟨p, 0, none⟩)] w fun e w' => ∃ v0_ : Value, ∃ ys : List Int, e = .returned v0_ ∧ 8 * ys.length < n + 8 ∧ n ≤ 8 * ys.length ∧ Kd.R (Kd.int .u8) 5 w' w.heap.size (fun _ => True) v0_ ys ∧ Below w.heap.size w w' := by
  have hl : xs.length = m := by have := h.own.1; simpa using this
  have hc0 : w.cell? ⟨p, 0, none⟩ = some v := by simp [World.cell?, h.cell]
  have hR : Kd.R (Kd.int .u8) 5 w B (fun _ => True) v xs := Kd.R_of_own (by rw [hl]; exact h.own) (fun _ _ => trivial)
  obtain ⟨A, c, rfl⟩ := Kd.R_slice hR
  obtain ⟨q1, q2, q3⟩ := Kd.R_reads' hR
  have hcall := slices_Clone_byte_byte.calls A c xs xs w q3 (by omega) (by unfold slices_Clone_byte_byte.f; rw [if_pos (by have := h.most; omega)])
  have H := AsideWr.mk h
  have HL := AsideWr.mk hl
  clear h hR q1 q2 q3 hl
  generalize hln : xs.length = ln at hcall hc0
  have HLN := AsideWr.mk hln
  clear hln
  go_enter Tryz.func29, Tryz.ntmps29
  go_wp2_with (go_at_call 57; refine hcall.mono ?_; rintro e w' ⟨v0, rfl, hr1, hb1⟩)
  go_ret
  refine ⟨_, xs, rfl, by rw [HL.out]; exact H.out.most, by rw [HL.out]; exact H.out.few, hr1, hb1⟩

end Go.Proofs.YtkolmgkbdhbmhaaGreatDoor.HT2

