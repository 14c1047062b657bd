/- What the Go functions come to, as plain Lean functions, and that their calls do just that: written by this project's own program (hp.sh); conditions: those of each theorem. -/
import Derived.Test.YtnfhfmimeaeoiaaHMx0
import Derived.Test.YtnfhfmimeaeoiaaHMx12
import Derived.Shelf.Abstract
namespace Go.Proofs.Ytnfhfmimeaeoiaa.HM
open Go.RowKit Go.Proofs.YtnfhfmimeaeoiaaW.PrintWords Go.Proofs.YtnfhfmimeaeoiaaW.PrintLast Go.Proofs.YtnfhfmimeaeoiaaW.PrintMore
attribute [local go_sem] max2_int min2_int max_two min_two max_three min_three max_four min_four   -- for this text's walks alone
set_option linter.unusedVariables false
set_option linter.unusedSimpArgs false

/-! ### slices_ContainsFunc_int_int_32: function 32, by hand -/
set_option maxHeartbeats 1000000 in
theorem slices_ContainsFunc_rows.gives (p : List Int → Bool) (g : Nat) (lb : Array Value) (eg : ∀ args w, (callFunc g args).run Try.prog w = .ok (.enter g args) w) (A0 : Option Addr) (c0 : Nat) (l0 : List (List Int)) (w : World) (hr0 : Kd.C (Kd.slice 3 (Kd.int .i64)) w A0 l0.length l0)
    (hp : ∀ (x : List Int) (A' : Option Addr) (c : Nat) (W : World), x ∈ l0 → Below w.heap.size w W → Kd.C (Kd.int .i64) W A' x.length x → x.length ≤ c → Calls Try.prog g (#[.slice A' x.length c] ++ lb) W fun e W' => e = .returned (.bool (p x)) ∧ Below W.heap.size W W') :
    Calls Try.prog 32 #[.slice A0 l0.length c0, .func (.func g) #[] lb] w fun e w' => e = .returned (.bool (l0.any p)) ∧ Below w.heap.size w w' := by
  rw [← idxOfR_any p l0 0]
  have h := slices_IndexFunc_rows.gives p g lb eg A0 c0 l0 w hr0 hp
  clear hr0 hp
  go_enter Try.func32, Try.ntmps32
  go_wp2_with (go_at_call 41; refine h.mono ?_; rintro e w' ⟨rfl, hb⟩)
  go_ret
  exact ⟨rfl, hb⟩

end Go.Proofs.Ytnfhfmimeaeoiaa.HM
