/- What the Go functions come to, as plain Lean functions, and that their calls do just that: written by this project's own program (hp.sh); conditions: those of each theorem. -/
import Derived.Test.YtnfhfmimeaeoiaaHMx0
import Derived.Test.YtnfhfmimeaeoiaaHMx4
import Derived.Test.YtnfhfmimeaeoiaaHMx6
import Derived.Shelf.Abstract
namespace Go.Proofs.Ytnfhfmimeaeoiaa.HM
open Go.RowKit Go.Proofs.YtnfhfmimeaeoiaaW.PrintWords Go.Proofs.YtnfhfmimeaeoiaaW.PrintLast Go.Proofs.YtnfhfmimeaeoiaaW.PrintMore
attribute [local go_sem] max2_int min2_int max_two min_two max_three min_three max_four min_four   -- for this text's walks alone
set_option linter.unusedVariables false
set_option linter.unusedSimpArgs false

/-! ### mix_anyLoud: function 38 at function 39, by hand -/
def loudB (x : Int) : Bool := decide (x < -67108864) || decide (x > 67108864)
theorem loudB_eq (x : Int) : mix_loud.f x = some (loudB x) := by
  unfold mix_loud.f loudB
  by_cases h : x < -67108864
  · rw [if_pos h]; simp [h]
  · rw [if_neg h]; simp [h]
/-- Whether one of the samples is too loud. -/
def mix_anyLoud.f (l0 : List Int) : Option Bool := some (l0.any loudB)
theorem mix_anyLoud.calls (A0 : Option Addr) (c0 : Nat) (l0 : List Int) (r : Bool) (w : World) (hr0 : Kd.C (Kd.int .i64) w A0 l0.length l0) (hc0 : l0.length ≤ c0) (h : mix_anyLoud.f l0 = some r) :
    Calls Try.prog 38 #[.slice A0 l0.length c0, .func (.func 39) #[] #[]] w fun e w' => e = .returned (.bool r) ∧ Drawn0 w w' := by
  obtain rfl := Option.some.inj h
  have eg := enters_of Try.func39 (by kernel_rfl) rfl
  exact slices_ContainsFunc_int.gives loudB 39 #[] eg A0 c0 l0 w hr0 (fun x q _ => (mix_loud.calls x _ _ (loudB_eq x)).mono fun e w' ⟨he, hd⟩ => ⟨he, hd.out⟩)

end Go.Proofs.Ytnfhfmimeaeoiaa.HM
