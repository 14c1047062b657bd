/- MixLoud in plain numbers and lists. By this project's prover (an AI agent). -/
import Derived.Test.YtnfhfmimeaeoiaaMixSpec
import Derived.Test.YtnfhfmimeaeoiaaGoalMixLoud
namespace Go.Proofs.Ytnfhfmimeaeoiaa.Pure
open Go Go.RowKit Go.Proofs.Ytnfhfmimeaeoiaa.HM Go.Proofs.Ytnfhfmimeaeoiaa.MixSpec Go.Proofs.YtnfhfmimeaeoiaaW.PrintWords Go.Proofs.YtnfhfmimeaeoiaaW.PrintLast
/-- A sample of 26 bits. -/
def Fit (x : Int) : Prop := -33554432 ≤ x ∧ x < 33554432
theorem half26 : half 26 = 33554432 := by decide +kernel
theorem gain_whole {x : Int} (h : Fit x) : cutv (half 26) (gainv 256 x) = x := by
  unfold Fit at h
  unfold gainv cutv
  rw [half26, wrap_id (x := x * 256) (by omega) (by omega), wrap_id (by omega) (by omega), show (x * 256 + 128) / 256 = x by omega]
  rw [if_neg (by omega), if_neg (by omega)]
theorem gain_less {x g : Int} (h : Fit x) (hg : -256 ≤ g ∧ g ≤ 256) : -(if x < 0 then -x else x) ≤ cutv (half 26) (gainv g x) ∧ cutv (half 26) (gainv g x) ≤ (if x < 0 then -x else x) := by
  unfold Fit at h
  have hz : -(256 * (if x < 0 then -x else x)) ≤ x * g ∧ x * g ≤ 256 * (if x < 0 then -x else x) := by
    by_cases h0 : x < 0
    · rw [if_pos h0]
      have a1 := Int.mul_le_mul_of_nonpos_left (a := x) (b := g) (c := -256) (by omega) hg.1
      have a2 := Int.mul_le_mul_of_nonpos_left (a := x) (b := 256) (c := g) (by omega) hg.2
      omega
    · rw [if_neg h0]
      have a1 := Int.mul_le_mul_of_nonneg_left (c := x) hg.1 (by omega)
      have a2 := Int.mul_le_mul_of_nonneg_left (c := x) hg.2 (by omega)
      omega
  have hm : (0 : Int) ≤ (if x < 0 then -x else x) ∧ (if x < 0 then -x else x) ≤ 33554432 := by split <;> omega
  generalize (if x < 0 then -x else x) = m at *
  unfold gainv cutv
  generalize x * g = z at *
  rw [half26, wrap_id (x := z) (by omega) (by omega), wrap_id (by omega) (by omega)]
  repeat' split
  all_goals omega
theorem size_eq (x : Int) (h : -9223372036854775808 < x ∧ x < 9223372036854775808) : sackbutref20_Size.f x = some (if x < 0 then -x else x) := by
  unfold sackbutref20_Size.f
  split
  · rw [wrap_id (by omega) (by omega)]
  · rfl
theorem loud_l1 (l : List Int) (hl : l.length ≤ 100) (hf : ∀ x ∈ l, Fit x) (g : Int) (hg : -256 ≤ g ∧ g ≤ 256) : ∀ (d K j : Nat), j + d = l.length → d < K → sackbutlaw22_MixLoud.l1 K l (gains l g 26) (l.length : Int) (j : Int) = some true := by
  intro d
  induction d with
  | zero =>
    intro K j hj hK
    obtain ⟨K, rfl⟩ : ∃ m, K = m + 1 := ⟨K - 1, by omega⟩
    simp only [sackbutlaw22_MixLoud.l1]
    rw [if_neg (by omega)]
  | succ d ih =>
    intro K j hj hK
    obtain ⟨K, rfl⟩ : ∃ m, K = m + 1 := ⟨K - 1, by omega⟩
    have hj' : j < l.length := by omega
    have hlen : (gains l g 26).length = l.length := by unfold gains; simp
    have hF := hf _ (List.getElem_mem hj')
    obtain ⟨b1, b2⟩ := gain_less hF hg
    have hF2 := hF
    unfold Fit at hF2
    have hm : (0 : Int) ≤ (if l[j] < 0 then -l[j] else l[j]) ∧ (if l[j] < 0 then -l[j] else l[j]) ≤ 33554432 := by split <;> omega
    simp only [sackbutlaw22_MixLoud.l1]
    rw [if_pos (by omega), if_pos (by omega), if_pos (by omega), rd_nat _ j (by omega), rd_nat l j hj']
    have e : (gains l g 26)[j]'(by omega) = cutv (half 26) (gainv g l[j]) := by unfold gains; simp
    rw [e]
    generalize cutv (half 26) (gainv g l[j]) = y at *
    rw [size_eq y (by omega), Option.bind_some, if_pos (by omega), size_eq l[j] (by omega), Option.bind_some]
    have hy : (if y < 0 then -y else y) ≤ (if l[j] < 0 then -l[j] else l[j]) := by
      generalize (if l[j] < 0 then -l[j] else l[j]) = m at *
      split <;> omega
    rw [if_neg (by omega), wrap_id (by omega) (by omega)]
    have := ih K (j + 1) (by omega) (by omega)
    rwa [show ((j + 1 : Nat) : Int) = (j : Int) + 1 by omega] at this
theorem gains_whole {l : List Int} (hf : ∀ x ∈ l, Fit x) : gains l 256 26 = l := by
  unfold gains
  exact (List.map_congr_left (g := id) (fun x hx => gain_whole (hf x hx))).trans (List.map_id l)
theorem fit_code {l : List Int} (hl : l.length ≤ 100) (hf : ∀ x ∈ l, Fit x) : code l = 0 := by
  unfold code
  rw [if_neg (by omega), if_neg]
  simp only [List.any_eq_true, not_exists, not_and]
  intro x hx
  have := hf x hx
  unfold Fit at this
  simp [loudB]; omega
theorem loud_l0 (l : List Int) (hl : l.length ≤ 100) (g : Int) (hg : -256 ≤ g ∧ g ≤ 256) : ∀ (d K j : Nat), j + d = l.length → d + 1000 < K → (∀ x ∈ l.take j, Fit x) → sackbutlaw22_MixLoud.l0 K l g l (l.length : Int) (j : Int) = some true := by
  intro d
  induction d with
  | zero =>
    intro K j hj hK hf
    obtain ⟨K, rfl⟩ : ∃ m, K = m + 2 := ⟨K - 2, by omega⟩
    rw [List.take_of_length_le (by omega)] at hf
    simp only [sackbutlaw22_MixLoud.l0]
    have hc := fit_code hl hf
    rw [if_neg (by omega), gain_spec l 256 26 _ (by omega), Option.bind_some, wrap_id (x := g) (by omega) (by omega), gain_spec l g 26 _ (by omega), Option.bind_some]
    unfold gainA
    rw [if_pos (show GainOk 256 ∧ BitsOk 26 by decide), if_pos (show GainOk g ∧ BitsOk 26 from ⟨by unfold GainOk; omega, by decide⟩), if_pos hc, if_pos hc, gains_whole hf]
    simp only [if_true]
    rw [same_self l (by omega) _ (by omega), Option.bind_some]
    simp only [if_true, sackbutlaw22_MixLoud.j2]
    rw [if_neg (by unfold gains; simp)]
    exact loud_l1 l hl hf g hg l.length K 0 (by omega) (by omega)
  | succ d ih =>
    intro K j hj hK hf
    obtain ⟨K, rfl⟩ : ∃ m, K = m + 1 := ⟨K - 1, by omega⟩
    have hj' : j < l.length := by omega
    simp only [sackbutlaw22_MixLoud.l0]
    rw [if_pos (by omega), if_pos (by omega), if_pos (by omega), rd_nat l j hj']
    by_cases h1 : l[j] < -33554432
    · rw [if_pos h1]
    · by_cases h2 : l[j] ≥ 33554432
      · rw [if_neg h1, if_pos h2]
      · rw [if_neg h1, if_neg h2, wrap_id (by omega) (by omega)]
        have := ih K (j + 1) (by omega) (by omega) (by
          rw [List.take_succ_eq_append_getElem hj']
          intro x hx
          rcases List.mem_append.mp hx with hx | hx
          · exact hf x hx
          · rw [List.mem_singleton] at hx; subst hx; unfold Fit; omega)
        rwa [show ((j + 1 : Nat) : Int) = (j : Int) + 1 by omega] at this
theorem loud_j0 (l : List Int) (g : Int) (x : Bool) (K : Nat) (hK : 100000 ≤ K) (h : x = false → l.length ≤ 100 ∧ -256 ≤ g ∧ g ≤ 256) : sackbutlaw22_MixLoud.j0 K l g x = some true := by
  obtain ⟨K, rfl⟩ : ∃ m, K = m + 1 := ⟨K - 1, by omega⟩
  simp only [sackbutlaw22_MixLoud.j0]
  by_cases hx : x = true
  · rw [if_pos hx, awake_ok _ (by omega), Option.bind_some]
  · obtain ⟨hl, hg⟩ := h (by simpa using hx)
    rw [if_neg hx]
    exact loud_l0 l hl g hg l.length K 0 (by omega) (by omega) (by simp)
theorem MixLoud : PureGMixLoud := by
  intro l g hl _ _
  refine ⟨200000, ?_⟩
  unfold sackbutlaw22_MixLoud.f
  rw [awake_ok _ (by omega), Option.bind_some, if_pos rfl]
  by_cases h : (l.length : Int) > 100
  · rw [if_pos h]; exact loud_j0 l g _ _ (by omega) (fun h => absurd h (by decide))
  · rw [if_neg h, ref_check l _ (by omega), Option.bind_some]
    by_cases h0 : code l = 0
    · rw [if_pos h0]
      by_cases h1 : g < -256
      · rw [if_pos h1]; exact loud_j0 l g _ _ (by omega) (fun h => absurd h (by decide))
      · rw [if_neg h1]; exact loud_j0 l g _ _ (by omega) (fun q => ⟨by omega, by omega, by have := of_decide_eq_false q; omega⟩)
    · rw [if_neg h0]; exact loud_j0 l g _ _ (by omega) (fun h => absurd h (by decide))
end Go.Proofs.Ytnfhfmimeaeoiaa.Pure
