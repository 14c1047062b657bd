/- What the Go functions come to, as plain Lean functions, and that their calls do just that: written by this project's own program (hp.sh); conditions: those of each theorem. -/
import Derived.Test.YtlbhcbfdiojbhaaHLx0
import Derived.Test.YtlbhcbfdiojbhaaHLx2
import Derived.RangeFuncNested
import Derived.RangeFuncBound
import Derived.RangeFuncCalls
import Derived.RangeFuncLeaves
import Derived.RangeFuncBox
import Derived.Shelf.Abstract
import Derived.Shelf.AbstractIn
import Derived.Shelf.RegionOpen
import Derived.WalkKit
import Derived.OwnWalkIn
import Derived.TacticsInMore
import Derived.LoopNIn
import Derived.LoopIn
namespace Go.Proofs.Ytlbhcbfdiojbhaa.HL
open Go.RowKit Go.Proofs.YtlbhcbfdiojbhaaW.PrintWords Go.Proofs.YtlbhcbfdiojbhaaW.PrintLast Go.Proofs.YtlbhcbfdiojbhaaW.PrintMore
attribute [local go_sem] max2_int min2_int max_two min_two max_three min_three max_four min_four   -- for this text's walks alone
set_option linter.unusedVariables false
set_option linter.unusedSimpArgs false

/-! ### ladder_Find: function 12, by hand -/
open Go.Shelf
attribute [local go_sem] Oper.semAt_some
def findP (a : Int) (k _f _t : Int) : Bool := k == a
set_option maxHeartbeats 1000000 in
theorem find1_in (F : Fence) (n : Nat) (h24 : F.fn 24) (hro : F.round = none) (bk : Nat) (a k f t : Int) (W : World) (hc : W.cell? ⟨bk, 0, none⟩ = some (.int .i64 a)) :
    CallsIn F n Try.prog 24 #[.int .i64 k, .int .i64 f, .int .i64 t, .pointer (some ⟨bk, 0, none⟩)] W fun e W' => e = .returned (.bool (findP a k f t)) ∧ W' = W := by
  refine callsIn_of_wp Try.func24 rfl h24 ?_ hro
  simp only [Try.ntmps24, List.size_toArray, List.length_cons, List.length_nil, Nat.reduceAdd, Nat.reduceSub, Array.replicate_succ, Array.replicate_zero, List.push_toArray, List.append_toArray, List.nil_append, List.cons_append]
  gi_wp2
  go_ret
  exact ⟨rfl, rfl⟩
def ladder_Find.f (l0 : List Int) (a1 : Int) : Option (Int × Int × Int) := some ((searchF (findP a1) l0).2.1, (searchF (findP a1) l0).2.2.1, (searchF (findP a1) l0).2.2.2)
set_option maxHeartbeats 1000000 in
theorem ladder_Find.calls (A0 : Option Addr) (c0 : Nat) (l0 : List Int) (a1 : Int) (r1 : Int) (r2 : Int) (r3 : Int) (w : World) (hr0 : Kd.C (Kd.int .i64) w A0 l0.length l0) (hc0 : l0.length ≤ c0) (h : ladder_Find.f l0 a1 = some (r1, r2, r3)) :
    Calls Try.prog 12 #[.slice A0 l0.length c0, .int .i64 a1] w fun e w' => e = .returned (.tuple #[.int .i64 r1, .int .i64 r2, .int .i64 r3]) ∧ Below w.heap.size w w' := by
  unfold ladder_Find.f at h
  injection h with h
  injection h with h1 h
  injection h with h2 h3
  subst h1 h2 h3
  have hB : Below w.heap.size w (w.alloc (.cells #[.int .i64 a1] 3)) := (Below.refl _ w).alloc (Nat.le_refl _) _
  have hR : ReadsInt (w.alloc (.cells #[.int .i64 a1] 3)) .i64 A0 l0.length l0 := (Kd.reads_of_C (enc := Value.int .i64) (d := (0 : Int)) (h1 := fun _ => rfl) hr0 : ReadsInt w .i64 A0 l0.length l0).below hB
  have hk := (Boxed.new w 3 (.int .i64 a1)).cell
  have eg := enters_of Try.func24 (by kernel_rfl) rfl
  have hS := callsIn_wide.1 (search_in Fence.wide 4 24 trivial trivial trivial trivial rfl (by decide) eg w.heap.size c0 (.int .i64 a1) (findP a1) (fun m k f t W hc => find1_in Fence.wide m trivial rfl w.heap.size a1 k f t W hc) A0 l0 _ hR hk)
  have HB := Aside0.mk hB
  clear hr0 hc0 hB hR hk eg
  generalize searchF (findP a1) l0 = r at hS ⊢
  generalize l0.length = len at hS ⊢
  obtain ⟨r0, r1, r2, r3⟩ := r
  simp only at hS ⊢
  go_enter Try.func12, Try.ntmps12
  go_wp2_with (go_at_call 23; refine hS.mono ?_; rintro e w' ⟨rfl, hb⟩)
  go_ret3
  exact ⟨rfl, (HB.out.trans (hb.mono (by simp)))⟩

end Go.Proofs.Ytlbhcbfdiojbhaa.HL
