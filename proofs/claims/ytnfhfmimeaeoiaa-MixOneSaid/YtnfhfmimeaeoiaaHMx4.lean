/- What the Go functions come to, as plain Lean functions, and that their calls do just that: written by this project's own program (hp.sh); conditions: those of each theorem. -/
import Derived.Test.YtnfhfmimeaeoiaaHMx0
import Derived.Test.YtnfhfmimeaeoiaaHMx3
import Derived.Shelf.Abstract
namespace Go.Proofs.Ytnfhfmimeaeoiaa.HM
open Go.RowKit Go.Proofs.YtnfhfmimeaeoiaaW.PrintWords Go.Proofs.YtnfhfmimeaeoiaaW.PrintLast Go.Proofs.YtnfhfmimeaeoiaaW.PrintMore
attribute [local go_sem] max2_int min2_int max_two min_two max_three min_three max_four min_four   -- for this text's walks alone
set_option linter.unusedVariables false
set_option linter.unusedSimpArgs false

/-! ### slices_ContainsFunc_int_int_38: function 38, by hand -/
set_option maxHeartbeats 1000000 in
theorem slices_ContainsFunc_int.gives (p : Int → Bool) (g : Nat) (lb : Array Value) (eg : ∀ args w, (callFunc g args).run Try.prog w = .ok (.enter g args) w) (A0 : Option Addr) (c0 : Nat) (l0 : List Int) (w : World) (hr0 : Kd.C (Kd.int .i64) w A0 l0.length l0)
    (hp : ∀ (x : Int) (q : Nat), x ∈ l0 → Calls Try.prog g (#[.int .i64 x] ++ lb) (w.drewN q) fun e w' => e = .returned (.bool (p x)) ∧ ∃ q', w' = (w.drewN q).drewN q') :
    Calls Try.prog 38 #[.slice A0 l0.length c0, .func (.func g) #[] lb] w fun e w' => e = .returned (.bool (l0.any p)) ∧ Drawn0 w w' := by
  rw [← idxOf_any p l0 0]
  have h := slices_IndexFunc_int.gives p g lb eg A0 c0 l0 w hr0 hp
  clear hr0 hp
  go_enter Try.func38, Try.ntmps38
  go_wp2_with (go_at_call 44; refine h.mono ?_; rintro e w' ⟨rfl, q, rfl⟩)
  go_ret
  exact ⟨rfl, ⟨q, rfl⟩⟩

set_option maxHeartbeats 1000000 in
theorem slices_ContainsFunc_int.givesB (p : Int → Bool) (g : Nat) (bnd : Array Value) (eg : ∀ args w, (callFunc g args).run Try.prog w = .ok (.enter g args) w) (A0 : Option Addr) (c0 : Nat) (l0 : List Int) (w : World) (hr0 : Kd.C (Kd.int .i64) w A0 l0.length l0)
    (hp : ∀ (x : Int) (W : World), x ∈ l0 → Below w.heap.size w W → Calls Try.prog g (bnd ++ #[.int .i64 x]) W fun e W' => e = .returned (.bool (p x)) ∧ Below W.heap.size W W') :
    Calls Try.prog 38 #[.slice A0 l0.length c0, .func (.func g) bnd #[]] w fun e w' => e = .returned (.bool (l0.any p)) ∧ Below w.heap.size w w' := by
  rw [← idxOf_any p l0 0]
  have h := slices_IndexFunc_int.givesB p g bnd eg A0 c0 l0 w hr0 hp
  clear hr0 hp
  go_enter Try.func38, Try.ntmps38
  go_wp2_with (go_at_call 44; refine h.mono ?_; rintro e w' ⟨rfl, hb⟩)
  go_ret
  exact ⟨rfl, hb⟩

end Go.Proofs.Ytnfhfmimeaeoiaa.HM
