/- What the program's spans and searches come to, in plain numbers. By this project's prover (an AI agent). -/
import Derived.Test.YtlbhcbfdiojbhaaHLx8
import Derived.Test.YtlbhcbfdiojbhaaHLx8
import Derived.Test.YtlbhcbfdiojbhaaHLx10
import Derived.Test.YtlbhcbfdiojbhaaHLx3
set_option linter.unusedSectionVars false
namespace Go.Proofs.Ytlbhcbfdiojbhaa.LadderSpec
open Go Go.RowKit Go.Proofs.Ytlbhcbfdiojbhaa.HL Go.Proofs.YtlbhcbfdiojbhaaW.PrintWords Go.Proofs.YtlbhcbfdiojbhaaW.PrintLast

theorem wrap_id {x : Int} (h0 : -9223372036854775808 ≤ x) (h1 : x < 9223372036854775808) : wrap64 x = x := by unfold wrap64; omega
theorem rd_nat (l : List Int) (i : Nat) (h : i < l.length) : rd l (i : Int) = l[i] := by
  unfold rd; rw [Int.toNat_natCast, List.getD_eq_getElem?_getD, List.getElem?_eq_getElem h]; rfl
theorem mono_le {α : Type} {f : Nat → Option α} (h : ∀ k, LeO (f k) (f (k + 1))) {k K : Nat} (hk : k ≤ K) {r : α} (e : f k = some r) : f K = some r := by
  induction hk with
  | refl => exact e
  | step _ ih => exact h _ _ ih
theorem awake_ok (K : Nat) (hK : 60 ≤ K) : sackbutlaw17_awake.f K = some true := mono_le sackbutlaw17_awake.mono hK (by decide +kernel)
def Index (l : List Int) : Prop := ∀ x ∈ l, 1 ≤ x ∧ x ≤ 16777215
theorem good_loop (l : List Int) (hl : l.length ≤ 100) : ∀ (d K j : Nat), j + d = l.length → d < K →
    ∃ b, sackbutlaw17_good.l0 K l (l.length : Int) (j : Int) = some b ∧ (b = true ↔ ∀ x ∈ l.drop j, 1 ≤ x ∧ x ≤ 16777215) := by
  intro d
  induction d with
  | zero =>
    intro K j hj hK
    obtain ⟨K, rfl⟩ : ∃ m, K = m + 1 := ⟨K - 1, by omega⟩
    simp only [sackbutlaw17_good.l0]
    rw [if_neg (by omega), List.drop_eq_nil_of_le (by omega)]
    exact ⟨true, rfl, by simp⟩
  | succ d ih =>
    intro K j hj hK
    obtain ⟨K, rfl⟩ : ∃ m, K = m + 1 := ⟨K - 1, by omega⟩
    have hj' : j < l.length := by omega
    simp only [sackbutlaw17_good.l0]
    rw [if_pos (by omega), if_pos (by omega), if_pos (by omega), rd_nat l j hj', List.drop_eq_getElem_cons hj']
    by_cases h1 : l[j] < 1
    · rw [if_pos h1]
      refine ⟨false, rfl, Iff.intro (fun h => absurd h (by decide)) (fun h => ?_)⟩
      have := h l[j] (List.mem_cons_self ..); omega
    · by_cases h2 : l[j] > 16777215
      · rw [if_neg h1, if_pos h2]
        refine ⟨false, rfl, Iff.intro (fun h => absurd h (by decide)) (fun h => ?_)⟩
        have := h l[j] (List.mem_cons_self ..); omega
      · rw [if_neg h1, if_neg h2, wrap_id (by omega) (by omega)]
        obtain ⟨b, e, hb⟩ := ih K (j + 1) (by omega) (by omega)
        rw [show ((j + 1 : Nat) : Int) = (j : Int) + 1 by omega] at e
        refine ⟨b, e, hb.trans ⟨fun h x hx => ?_, fun h x hx => h x (List.mem_cons_of_mem _ hx)⟩⟩
        rcases List.mem_cons.mp hx with rfl | hx
        · omega
        · exact h x hx
theorem good_spec (l : List Int) (hl : l.length ≤ 100) (K : Nat) (hK : 101 ≤ K) : ∃ b, sackbutlaw17_good.f K l = some b ∧ (b = true ↔ Index l) := by
  unfold sackbutlaw17_good.f
  have := good_loop l hl l.length K 0 (by omega) (by omega)
  simpa [Index] using this

section
variable {l : List Int} (hl : l.length ≤ 100) (hi : Index l)
include hl hi
theorem span_bound : ∀ k, k ≤ l.length → 0 ≤ spanAt l k ∧ spanAt l k ≤ (k : Int) * 16777215
  | 0, _ => by simp [spanAt]
  | k + 1, hk => by
    obtain ⟨h0, h1⟩ := span_bound k (by omega)
    have hx := hi _ (List.getElem_mem (show k < l.length by omega))
    rw [spanAt_succ l k (by omega), List.getElem?_eq_getElem (by omega), Option.getD_some, wrap_id (by omega) (by omega)]
    omega
theorem span_succ (k : Nat) (hk : k < l.length) : spanAt l (k + 1) = spanAt l k + l[k] ∧ 1 ≤ l[k] ∧ l[k] ≤ 16777215 := by
  obtain ⟨h0, h1⟩ := span_bound hl hi k (by omega)
  have hx := hi _ (List.getElem_mem hk)
  refine ⟨?_, hx⟩
  rw [spanAt_succ l k hk, List.getElem?_eq_getElem hk, Option.getD_some, wrap_id (by omega) (by omega)]
theorem span_of (k : Nat) (hk : k < l.length) : spanOf l k = (spanAt l k, spanAt l (k + 1)) := by
  unfold spanOf; rw [spanAt_succ l k hk]
theorem span_mono (j : Nat) : ∀ k, j ≤ k → k ≤ l.length → spanAt l j ≤ spanAt l k
  | 0, h, _ => by rw [show j = 0 by omega]; exact Int.le_refl _
  | k + 1, h, hk => by
    by_cases e : j = k + 1
    · rw [e]; exact Int.le_refl _
    · have := span_mono j k (by omega) (by omega)
      have := span_succ hl hi k (by omega)
      omega
theorem span_at (o : Int) (h0 : 0 ≤ o) : ∀ n, n ≤ l.length → o < spanAt l n → ∃ k, k < n ∧ spanAt l k ≤ o ∧ o < spanAt l (k + 1)
  | 0, _, h => by simp [spanAt] at h; omega
  | n + 1, hn, h => by
    by_cases e : o < spanAt l n
    · obtain ⟨k, h1, h2⟩ := span_at o h0 n (by omega) e
      exact ⟨k, by omega, h2⟩
    · exact ⟨n, by omega, by omega, h⟩
theorem find_in (i : Nat) (h : i < l.length) : ladder_Find.f l (i : Int) = some (spanAt l i, spanAt l (i + 1), 0) := by
  unfold ladder_Find.f
  rw [searchF_some (k := i) h (by simp [findP]) (fun j hj => by simp [findP]; omega), span_of hl hi i h]
theorem find_out (a : Int) (h : ¬ (0 ≤ a ∧ a < (l.length : Int))) : ladder_Find.f l a = some (0, 0, 14) := by
  unfold ladder_Find.f
  rw [searchF_none (fun j hj => by simp [findP]; omega)]
theorem at_in (o : Int) (k : Nat) (h : k < l.length) (h0 : spanAt l k ≤ o) (h1 : o < spanAt l (k + 1)) : ladder_At.f l o = some ((k : Int), 0) := by
  unfold ladder_At.f
  rw [searchF_some (k := k) h (by rw [span_of hl hi k h]; simp [atP]; omega) (fun j hj => by
    rw [span_of hl hi j (by omega)]
    have := span_mono hl hi (j + 1) k (by omega) (by omega)
    simp [atP]; omega)]
theorem at_out (o : Int) (h : ¬ (0 ≤ o ∧ o < spanAt l l.length)) : ladder_At.f l o = some (0, 14) := by
  unfold ladder_At.f
  rw [searchF_none (fun j hj => by
    rw [span_of hl hi j hj]
    have := span_mono hl hi (j + 1) l.length (by omega) (by omega)
    have := (span_bound hl hi j (by omega)).1
    simp [atP]; omega)]
end
end Go.Proofs.Ytlbhcbfdiojbhaa.LadderSpec
