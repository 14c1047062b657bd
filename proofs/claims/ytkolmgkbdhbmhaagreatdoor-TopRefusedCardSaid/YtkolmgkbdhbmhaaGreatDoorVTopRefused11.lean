/- TopRefused: what the claim's theorem reaches of this seat's texts, part 11, put together by this project's own program (bale.py); conditions: those of each theorem. -/
import Derived.Test.YtkolmgkbdhbmhaaGreatDoorVTopRefused2
import Derived.OrdersHeld
import Derived.Below
import Derived.Deep.RegionHeld3
namespace Go.Proofs.YtkolmgkbdhbmhaaGreatDoor.AnyOrder
open Go Go.RowKit Go.Proofs.YtkolmgkbdhbmhaaGreatDoorW.PrintLast
set_option linter.unusedVariables false
set_option linter.unusedSimpArgs false
section
variable {P : Program} {ops : Array Oper} {Q : Exit → Act → World → Prop} {J : World → Prop} {E : Nat → World → Prop} {U : List (List Nat)}

/-- Where operation i's value lies. -/
def slotOf (ops : Array Oper) (i : Nat) : Option Tmp := (ops[i]?).bind (·.dst)
/-- Operation i's value in a frame. -/
def valOf (ops : Array Oper) (a : Act) (i : Nat) : Value := match slotOf ops i with
  | some d => a.tmps.getD d undef
  | none => undef

/-- Number k takes number j's value. -/
def usesB (ops : Array Oper) (j k : Nat) : Bool := match ops[k]? with
  | some o => o.after.any fun e => Region.binds .any e && (match e.ground with | .data => true | _ => false) && e.on == j
  | none => false
/-- What is known of number j is still wanted when what stands in 'listed' has run. -/
def Alive (ops : Array Oper) (j : Nat) (listed : Array Bool) : Prop :=
  (∀ k, usesB ops j k = false) ∨ ∃ k, usesB ops j k = true ∧ listed.getD k false = false
structure Inv (ops : Array Oper) (J : World → Prop) (E : Nat → World → Prop) (U : List (List Nat)) (F : Nat → Value → World → Prop) (a0 : Act) (listed : Array Bool) (a : Act) (w : World) : Prop where
  held : J w
  init : ∀ x, (∃ k, k ∈ U.getD x [] ∧ listed.getD k false = false) → E x w
  size : a.tmps.size = a0.tmps.size
  defers : a.defers = a0.defers
  old : ∀ s, (∀ i, listed.getD i false = true → slotOf ops i ≠ some s) → a.tmps.getD s undef = a0.tmps.getD s undef
  closed : ListedClosed .any ops listed
  fact : ∀ i, listed.getD i false = true → Alive ops i listed → F i (valOf ops a i) w

end
end Go.Proofs.YtkolmgkbdhbmhaaGreatDoor.AnyOrder

