/- VaultWith: what the claim's theorem reaches of this seat's texts, part 19, put together by this project's own program (bale.py); conditions: those of each theorem. -/
import Derived.Test.YtibmccacebhhkaaDoorVVaultWith5
import Derived.Test.YtibmccacebhhkaaDoorVVaultWith6
import Derived.Test.YtibmccacebhhkaaDoorVVaultWith14
import Derived.Test.YtibmccacebhhkaaDoorVVaultWith18
namespace Go.Proofs.YtibmccacebhhkaaDoor.VaultNum
open Go Go.RowKit Go.Proofs.YtibmccacebhhkaaDoor.HV Go.Proofs.YtibmccacebhhkaaDoor.BitStr Go.Proofs.YtibmccacebhhkaaDoorW.PrintWords Go.Proofs.YtibmccacebhhkaaDoorW.PrintLast

theorem bt_nat (s : ByteArray) (i : Nat) (h : i < s.size) : bt s (i : Int) = ((s[i]'h).toNat : Nat) := by
  unfold bt
  rw [dif_pos (by rw [Int.toNat_natCast]; exact h)]
  simp only [Int.toNat_natCast]
theorem right_loop (s : ByteArray) (hs : s.size ≤ 1000) : ∀ (d K i : Nat), i + d = s.size → d < K → (∀ t, (h : t < s.size) → t < i → letterZ ((s[t]'h).toNat : Nat) = true) → sackbutref23_Right.l0 K (i : Int) 0 s = some (namedB s) := by
  intro d
  induction d with
  | zero =>
    intro K i hi hK ha
    obtain ⟨K, rfl⟩ : ∃ m, K = m + 1 := ⟨K - 1, by omega⟩
    simp only [sackbutref23_Right.l0]
    rw [if_neg (by omega), named_all s (fun t h => ha t h (by omega))]
    by_cases h1 : 1 ≤ s.size
    · by_cases h2 : s.size ≤ 24
      · rw [if_pos (by omega), if_pos (by omega), if_pos (by omega), decide_eq_true h1, decide_eq_true h2]
        rfl
      · rw [if_pos (by omega), if_neg (by omega), decide_eq_true h1, decide_eq_false h2]
        rfl
    · rw [if_neg (by omega), decide_eq_false h1]
      rfl
  | succ d ih =>
    intro K i hi hK ha
    obtain ⟨K, rfl⟩ : ∃ m, K = m + 1 := ⟨K - 1, by omega⟩
    have hi' : i < s.size := by omega
    have hstep := ih K (i + 1) (by omega) (by omega)
    rw [show ((i + 1 : Nat) : Int) = (i : Int) + 1 by omega] at hstep
    simp only [sackbutref23_Right.l0]
    rw [if_pos (by omega), if_pos (by omega), BitStr.wrap_id (by omega) (by omega), bt_nat s i hi']
    cases hl : letterZ ((s[i]'hi').toNat : Nat) with
    | true =>
      rw [hstep (fun t h ht => by
        by_cases e : t = i
        · subst e; exact hl
        · exact ha t h (by omega))]
      simp only [letterZ, Bool.or_eq_true, Bool.and_eq_true, decide_eq_true_eq] at hl
      rcases hl with (⟨h1, h2⟩ | ⟨h1, h2⟩) | h1
      · rw [if_pos h1, if_pos h2]
      · rw [if_neg (by omega), if_pos h1, if_pos h2]
      · rw [if_neg (by omega), if_neg (by omega), if_pos h1]
    | false =>
      rw [named_miss s i hi' hl]
      simp only [letterZ, Bool.or_eq_false_iff, Bool.and_eq_false_iff, decide_eq_false_iff_not] at hl
      obtain ⟨⟨h1, h2⟩, h3⟩ := hl
      repeat' split
      all_goals first | rfl | omega
end Go.Proofs.YtibmccacebhhkaaDoor.VaultNum

