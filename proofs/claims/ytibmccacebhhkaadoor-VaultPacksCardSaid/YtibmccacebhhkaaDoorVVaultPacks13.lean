/- VaultPacks: what the claim's theorem reaches of this seat's texts, part 13, put together by this project's own program (bale.py); conditions: those of each theorem. -/
import Derived.Test.YtibmccacebhhkaaDoorVVaultPacks5
import Derived.Test.YtibmccacebhhkaaDoorVVaultPacks6
import Derived.Test.YtibmccacebhhkaaDoorVVaultPacks8
import Derived.Test.YtibmccacebhhkaaDoorVVaultPacks9
import Derived.Shelf.Abstract
import Derived.OwnWalk
import Derived.LoopTactic
import Derived.WalkLawsBesides
import Derived.Lib.SlBytesConst
namespace Go.Proofs.YtibmccacebhhkaaDoor.HV
open Go.RowKit Go.Proofs.YtibmccacebhhkaaDoorW.PrintWords Go.Proofs.YtibmccacebhhkaaDoorW.PrintLast Go.Proofs.YtibmccacebhhkaaDoorW.PrintMore
attribute [local go_sem] max2_int min2_int max_two min_two max_three min_three max_four min_four   -- for this text's walks alone
set_option linter.unusedVariables false
set_option linter.unusedSimpArgs false

/-! ### sackbutref25_Open: function 9, by hand -/
structure AsideRo (p : Prop) : Prop where mk :: (out : p)
/-- Whether the first four bytes, so far as they are there, are the magic. -/
def rMag (b : List Int) : Bool := b.take 4 == ([83, 75, 66, 86] : List Int).take b.length
/-- Entries so far, and where they end; none where they do not fit. -/
def rEnts (b : List Int) : Nat → Option (List S31 × Nat)
  | 0 => some ([], 5)
  | j + 1 => (rEnts b j).bind fun r => if r.2 < b.length ∧ r.2 + 8 + (b.getD r.2 0).toNat ≤ b.length then
      some (r.1 ++ [⟨strOfNums ((b.drop (r.2 + 1)).take (b.getD r.2 0).toNat), beL ((b.drop (r.2 + 1 + (b.getD r.2 0).toNat)).take 3), beL (((b.drop (r.2 + 1 + (b.getD r.2 0).toNat)).drop 3).take 4)⟩], r.2 + (b.getD r.2 0).toNat + 8) else none
def okR (l : List S31) (i : Nat) : Bool := namedB (l.getD i z31).f0 && (decide (i = 0) || Op.bytesLess (l.getD (i - 1) z31).f0.toList (l.getD i z31).f0.toList) && decide (i < 100)
def goodR (l : List S31) : Bool := (List.range l.length).all (okR l)
/-- Behind the entries: the sum, and whether they are good. -/
def rTail (cs : List Int → Int) (b : List Int) (l : List S31) (a : Nat) : List S31 × Int × Int :=
  if b.length < a + 4 then ([], 0, 3)
  else if beL ((b.drop a).take 4) = cs (b.take a) then (if goodR l = true then (l, ((a + 4 : Nat) : Int), 0) else ([], 0, 2))
  else ([], 0, 13)
/-- What the document's opening answers. -/
def rOpen (cs : List Int → Int) (b : List Int) : List S31 × Int × Int :=
  if rMag b = false then ([], 0, 6)
  else if b.length < 5 then ([], 0, 3)
  else match rEnts b (b.getD 4 0).toNat with
    | none => ([], 0, 3)
    | some r => rTail cs b r.1 r.2
/-- What is kept all along. -/
structure RoSt (w : World) (v : Value) (L : List S31) (W : World) : Prop where
  bel : Below w.heap.size w W
  row : Kd.R k31 31 W w.heap.size (fun _ => True) v L
end Go.Proofs.YtibmccacebhhkaaDoor.HV

