/- VaultWith: what the claim's theorem reaches of this seat's texts, part 21, put together by this project's own program (bale.py); conditions: those of each theorem. -/
import Derived.Test.YtibmccacebhhkaaDoorVVaultWith5
import Derived.Test.YtibmccacebhhkaaDoorVVaultWith7
import Derived.Test.YtibmccacebhhkaaDoorVVaultWith8
import Derived.Test.YtibmccacebhhkaaDoorVVaultWith12
import Derived.Test.YtibmccacebhhkaaDoorVVaultWith15
import Derived.Test.YtibmccacebhhkaaDoorVVaultWith16
import Derived.Test.YtibmccacebhhkaaDoorVVaultWith19
import Derived.Test.YtibmccacebhhkaaDoorVVaultWith20
import Derived.Shelf.Abstract
import Derived.OwnWalk
import Derived.LoopTactic
namespace Go.Proofs.YtibmccacebhhkaaDoor.HV
open Go.RowKit Go.Proofs.YtibmccacebhhkaaDoorW.PrintWords Go.Proofs.YtibmccacebhhkaaDoorW.PrintLast Go.Proofs.YtibmccacebhhkaaDoorW.PrintMore
attribute [local go_sem] max2_int min2_int max_two min_two max_three min_three max_four min_four   -- for this text's walks alone
set_option linter.unusedVariables false
set_option linter.unusedSimpArgs false

/-! ### sackbutlaw25_VaultNames: function 3, by hand -/
structure AsideLN (p : Prop) : Prop where mk :: (out : p)
end Go.Proofs.YtibmccacebhhkaaDoor.HV

namespace Go.Proofs.YtibmccacebhhkaaDoor.VaultPk
set_option linter.unusedVariables false
open Go Go.RowKit Go.Proofs.YtibmccacebhhkaaDoor.HV Go.Proofs.YtibmccacebhhkaaDoor.BitStr Go.Proofs.YtibmccacebhhkaaDoorW.PrintWords Go.Proofs.YtibmccacebhhkaaDoorW.PrintLast
/-! ### loops over items -/
theorem rd_item (L : List S49) (i : Nat) : rd_T49 L (i : Int) = L.getD i z49 := by unfold rd_T49; rw [Int.toNat_natCast]
def fewI (x : S49) : Bool := decide (x.f0.size ≤ 60) && decide (x.f1.length ≤ 100)
def fewB (L : List S49) : Bool := L.all fewI && decide (L.length ≤ 110)
theorem few_loop (L : List S49) (hl : L.length ≤ 9223372036854775807) : ∀ (d i K : Nat), i + d = L.length → d < K → sackbutlaw25_few.l0 K L L (L.length : Int) (i : Int) = some ((L.drop i).all fewI && decide (L.length ≤ 110))
  | 0, i, K, h, hK => by
    obtain ⟨K, rfl⟩ : ∃ m, K = m + 1 := ⟨K - 1, by omega⟩
    simp only [sackbutlaw25_few.l0]
    rw [if_neg (by omega), List.drop_of_length_le (by omega), List.all_nil, Bool.true_and]
    congr 1
    exact decide_eq_decide.2 (by omega)
  | d + 1, i, K, h, hK => by
    obtain ⟨K, rfl⟩ : ∃ m, K = m + 1 := ⟨K - 1, by omega⟩
    have hi : i < L.length := by omega
    have hg : L.getD i z49 = L[i] := by rw [List.getD_eq_getElem?_getD, List.getElem?_eq_getElem hi]; rfl
    simp only [sackbutlaw25_few.l0]
    rw [if_pos (by omega), if_pos (by omega), if_pos (by omega), rd_item, hg, List.drop_eq_getElem_cons hi, List.all_cons]
    by_cases h1 : L[i].f0.size ≤ 60
    · rw [if_neg (by omega)]
      by_cases h2 : L[i].f1.length ≤ 100
      · rw [if_neg (by omega), show wrap64 ((i : Int) + 1) = ((i + 1 : Nat) : Int) by unfold wrap64; omega, few_loop L hl d (i + 1) K (by omega) (by omega)]
        simp [fewI, h1, h2]
      · rw [if_pos (by omega)]
        simp [fewI, h2]
    · rw [if_pos (by omega)]
      simp [fewI, h1]
theorem few_spec (L : List S49) (hl : L.length ≤ 9223372036854775807) (K : Nat) (hK : L.length < K) : sackbutlaw25_few.f K L = some (fewB L) := by
  have := few_loop L hl L.length 0 K (by omega) hK
  rw [List.drop_zero] at this
  unfold sackbutlaw25_few.f fewB
  exact this
theorem ref_loop (L : List S49) (hl : L.length ≤ 100000) : ∀ (d i K : Nat), i + d = L.length → d < K → sackbutlaw25_ref.l0 K ((L.take i).map toI) L (L.length : Int) (i : Int) = some (L.map toI)
  | 0, i, K, h, hK => by
    obtain ⟨K, rfl⟩ : ∃ m, K = m + 1 := ⟨K - 1, by omega⟩
    simp only [sackbutlaw25_ref.l0]
    rw [if_neg (by omega), List.take_of_length_le (by omega)]
  | d + 1, i, K, h, hK => by
    obtain ⟨K, rfl⟩ : ∃ m, K = m + 1 := ⟨K - 1, by omega⟩
    have hi : i < L.length := by omega
    have hg : L.getD i z49 = L[i] := by rw [List.getD_eq_getElem?_getD, List.getElem?_eq_getElem hi]; rfl
    simp only [sackbutlaw25_ref.l0]
    rw [if_pos (by omega), if_pos (by omega), if_pos (by omega), if_pos (by rw [List.length_map, List.length_take]; omega), rd_item, hg, show wrap64 ((i : Int) + 1) = ((i + 1 : Nat) : Int) by unfold wrap64; omega]
    have e : (L.take i).map toI ++ [(⟨L[i].f0, L[i].f1⟩ : S57)] = (L.take (i + 1)).map toI := by
      rw [List.take_succ_eq_append_getElem hi, List.map_append]
      rfl
    rw [e]
    exact ref_loop L hl d (i + 1) K (by omega) (by omega)
theorem ref_spec (L : List S49) (hl : L.length ≤ 100000) (K : Nat) (hK : L.length < K) : sackbutlaw25_ref.f K L = some (L.map toI) := ref_loop L hl L.length 0 K (by omega) hK
theorem same_loop (L : List S57) (hl : L.length ≤ 100000) : ∀ (d i K : Nat), i + d = L.length → d < K → sackbutref25_Same.l0 K L L (L.length : Int) (i : Int) = some true
  | 0, i, K, h, hK => by
    obtain ⟨K, rfl⟩ : ∃ m, K = m + 1 := ⟨K - 1, by omega⟩
    simp only [sackbutref25_Same.l0]
    rw [if_neg (by omega)]
  | d + 1, i, K, h, hK => by
    obtain ⟨K, rfl⟩ : ∃ m, K = m + 1 := ⟨K - 1, by omega⟩
    simp only [sackbutref25_Same.l0]
    rw [if_pos (by omega), if_pos (by omega), if_pos (by omega), if_pos (by omega), if_pos trivial, if_pos trivial, show wrap64 ((i : Int) + 1) = ((i + 1 : Nat) : Int) by unfold wrap64; omega]
    exact same_loop L hl d (i + 1) K (by omega) (by omega)
theorem same_spec (L : List S57) (hl : L.length ≤ 100000) (K : Nat) (hK : L.length < K) : sackbutref25_Same.f K L L = some true := by
  unfold sackbutref25_Same.f
  rw [if_pos rfl]
  exact same_loop L hl L.length 0 K (by omega) hK
theorem right_item (s : ByteArray) (xs : List Int) (hs : s.size ≤ 1000) (hx : xs.length ≤ 16777215) (K : Nat) (hK : 1001 < K) : sackbutref25_Right.f K s xs = some (rightB s xs.length) := by
  unfold sackbutref25_Right.f sackbutref23_Right.f
  have := VaultNum.right_loop s hs s.size K 0 (by omega) (by omega) (fun t _ h => absurd h (Nat.not_lt_zero _))
  rw [show ((0 : Nat) : Int) = 0 from rfl] at this
  rw [this, Option.bind_some]
  unfold rightB
  cases namedB s <;> simp
end Go.Proofs.YtibmccacebhhkaaDoor.VaultPk

