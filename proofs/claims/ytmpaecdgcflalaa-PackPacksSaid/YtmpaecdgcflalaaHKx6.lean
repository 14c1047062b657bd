/- What the Go functions come to, as plain Lean functions, and that their calls do just that: written by this project's own program (hp.sh); conditions: those of each theorem. -/
import Derived.Test.YtmpaecdgcflalaaHKx0
import Derived.Test.YtmpaecdgcflalaaHKx2
import Derived.Test.YtmpaecdgcflalaaHKx5
import Derived.Shelf.Abstract
namespace Go.Proofs.Ytmpaecdgcflalaa.HK
open Go.RowKit Go.Proofs.YtmpaecdgcflalaaW.PrintWords Go.Proofs.YtmpaecdgcflalaaW.PrintLast Go.Proofs.YtmpaecdgcflalaaW.PrintMore
attribute [local go_sem] max2_int min2_int max_two min_two max_three min_three max_four min_four   -- for this text's walks alone
set_option linter.unusedVariables false
set_option linter.unusedSimpArgs false

/-! ### pack_anyLacks: function 26 at function 27, by hand -/
/-- Whether one of the numbers is no sample (of a form whose shifts are told). -/
def pack_anyLacks.f (l0 : List Int) (a1_0 : Int) (a1_1 : Bool) : Option Bool :=
  if l0.all (fun x => (pack_Form_lacks.f a1_0 a1_1 x).isSome) then some (l0.any fun x => pack_Form_lacks.f a1_0 a1_1 x == some true) else none
theorem pack_anyLacks.calls (A0 : Option Addr) (c0 : Nat) (l0 : List Int) (a1_0 : Int) (a1_1 : Bool) (r : Bool) (w : World) (hr0 : Kd.C (Kd.int .i64) w A0 l0.length l0) (hc0 : l0.length ≤ c0) (h : pack_anyLacks.f l0 a1_0 a1_1 = some r) :
    Calls Try.prog 26 #[.slice A0 l0.length c0, .func (.func 27) #[.agg #[.int .i64 a1_0, .bool a1_1]] #[]] w fun e w' => e = .returned (.bool r) ∧ Below w.heap.size w w' := by
  unfold pack_anyLacks.f at h
  split at h
  · rename_i hall
    obtain rfl := Option.some.inj h
    have eg := enters_of Try.func27 (by kernel_rfl) rfl
    refine slices_ContainsFunc_int.givesB _ 27 #[.agg #[.int .i64 a1_0, .bool a1_1]] eg A0 c0 l0 w hr0 (fun x W hx hb => ?_)
    have hs := List.all_eq_true.1 hall x hx
    obtain ⟨b, hb1⟩ := Option.isSome_iff_exists.1 hs
    have hc := pack_Form_lacks.calls a1_0 a1_1 x b W hb1
    rw [hb1]
    cases b <;> exact hc
  · cases h

end Go.Proofs.Ytmpaecdgcflalaa.HK
