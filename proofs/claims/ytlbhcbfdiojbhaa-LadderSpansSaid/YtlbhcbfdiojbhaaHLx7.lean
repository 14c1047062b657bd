/- What the Go functions come to, as plain Lean functions, and that their calls do just that: written by this project's own program (hp.sh); conditions: those of each theorem. -/
import Derived.Test.YtlbhcbfdiojbhaaHLx0
import Derived.Test.YtlbhcbfdiojbhaaHLx4
import Derived.Test.YtlbhcbfdiojbhaaHLx5
import Derived.Test.YtlbhcbfdiojbhaaHLx6
import Derived.Shelf.Abstract
namespace Go.Proofs.Ytlbhcbfdiojbhaa.HL
open Go.RowKit Go.Proofs.YtlbhcbfdiojbhaaW.PrintWords Go.Proofs.YtlbhcbfdiojbhaaW.PrintLast Go.Proofs.YtlbhcbfdiojbhaaW.PrintMore
attribute [local go_sem] max2_int min2_int max_two min_two max_three min_three max_four min_four   -- for this text's walks alone
set_option linter.unusedVariables false
set_option linter.unusedSimpArgs false

/-! ### ladder_Good: function 15, by hand -/
def outsideB (x : Int) : Bool := decide (x < 1) || decide (x ≥ 16777216)
theorem outsideB_eq (x : Int) : ladder_outside.f x = some (outsideB x) := by
  unfold ladder_outside.f outsideB
  by_cases h : x < 1
  · rw [if_pos h]; simp [h]
  · rw [if_neg h]; simp [h]
def ladder_Good.f (l0 : List Int) : Option Bool := some (decide (l0.length ≤ 65536) && !(l0.any outsideB))
theorem ladder_Good.calls (A0 : Option Addr) (c0 : Nat) (l0 : List Int) (r : Bool) (w : World) (hr0 : Kd.C (Kd.int .i64) w A0 l0.length l0) (hc0 : l0.length ≤ c0) (h : ladder_Good.f l0 = some r) :
    Calls Try.prog 15 #[.slice A0 l0.length c0] w fun e w' => e = .returned (.bool r) ∧ Drawn0 w w' := by
  obtain rfl := Option.some.inj h
  have eg := enters_of Try.func27 (by kernel_rfl) rfl
  have hC := slices_ContainsFunc_int.gives outsideB 27 #[] eg A0 c0 l0 w hr0 (fun x q _ => (ladder_outside.calls x _ _ (outsideB_eq x)).mono fun e w' ⟨he, hd⟩ => ⟨he, hd.out⟩)
  have hbig : l0.length ≤ 9223372036854775807 := (c_reads hr0).2.1
  clear hr0 hc0 h eg
  generalize l0.any outsideB = b at hC ⊢
  generalize l0.length = n at hC hbig ⊢
  by_cases hn : n ≤ 65536
  · have hn1 : decide ((n : Int) ≤ 65536) = true := by simp; omega
    have hn2 : decide (n ≤ 65536) = true := by simpa using hn
    rw [hn2]
    go_enter Try.func15, Try.ntmps15
    go_wp2_with (go_at_call 26; refine hC.mono ?_; rintro e w' ⟨rfl, q, rfl⟩)
    go_ret
    exact ⟨by first | rfl | simp, ⟨q, rfl⟩⟩
  · have hn1 : decide ((n : Int) ≤ 65536) = false := by simp; omega
    have hn2 : decide (n ≤ 65536) = false := by simpa using hn
    rw [hn2]
    clear hC
    go_enter Try.func15, Try.ntmps15
    go_wp2
    go_ret
    exact ⟨by first | rfl | simp, ⟨0, rfl⟩⟩

end Go.Proofs.Ytlbhcbfdiojbhaa.HL
