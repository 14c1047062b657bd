/- LadderReads in plain numbers: of any bytes so many sizes are read, or what is wrong is told. By this project's prover (an AI agent). -/
import Derived.Test.YtlbhcbfdiojbhaaLadderRead
import Derived.Test.YtlbhcbfdiojbhaaHLx18
namespace Go.Proofs.Ytlbhcbfdiojbhaa.Pure
open Go Go.RowKit Go.Proofs.Ytlbhcbfdiojbhaa.LadderSpec Go.Proofs.Ytlbhcbfdiojbhaa.BitStr Go.Proofs.Ytlbhcbfdiojbhaa.HL Go.Proofs.YtlbhcbfdiojbhaaW.PrintWords Go.Proofs.YtlbhcbfdiojbhaaW.PrintLast

theorem reads_loop (l : List Int) (hb : Bs l) (hl : l.length ≤ 200) (N : Nat) (hN : 3 * N ≤ l.length) (x5 : List Int) (x6 : Int)
    (h : (Index (sizesOf l N) ∧ x5 = sizesOf l N ∧ x6 = 0) ∨ (¬ Index (sizesOf l N) ∧ x5 = [] ∧ x6 = 12)) : ∀ (d K j : Nat), j + d = N → d + 200 < K →
    sackbutlaw17_LadderReads.l0 K x5 x6 (str (bits8 (l.map Int.toNat))) (sizesOf l j) (N : Int) (j : Int) = some true := by
  intro d
  induction d with
  | zero =>
    intro K j hj hK
    obtain ⟨K, rfl⟩ : ∃ m, K = m + 1 := ⟨K - 1, by omega⟩
    obtain rfl : j = N := by omega
    simp only [sackbutlaw17_LadderReads.l0]
    obtain ⟨b, e, hbi⟩ := good_spec (sizesOf l j) (by rw [sizesOf_length]; omega) K (by omega)
    rw [if_neg (by omega), e, Option.bind_some]
    rcases h with ⟨h1, rfl, rfl⟩ | ⟨h1, rfl, rfl⟩
    · rw [if_pos (hbi.2 h1), if_pos rfl, same_spec _ (by rw [sizesOf_length]; omega) K (by rw [sizesOf_length]; omega)]; rfl
    · rw [if_neg (fun hb => h1 (hbi.1 hb)), if_pos rfl]; rfl
  | succ d ih =>
    intro K j hj hK
    obtain ⟨K, rfl⟩ : ∃ m, K = m + 1 := ⟨K - 1, by omega⟩
    have hsz : (str (bits8 (l.map Int.toNat))).size = 8 * l.length := by rw [str_size, bits8_length, List.length_map]
    simp only [sackbutlaw17_LadderReads.l0]
    rw [BitStr.wrap_id (x := 24 * (j : Int)) (by omega) (by omega), BitStr.wrap_id (x := 24 * (j : Int) + 24) (by omega) (by omega), BitStr.wrap_id (x := (j : Int) + 1) (by omega) (by omega)]
    rw [if_pos (by omega), if_pos (by omega), if_pos (by omega), if_pos (by rw [hsz]; omega)]
    rw [show (24 * (j : Int)).toNat = 24 * j by omega, show (24 * (j : Int) + 24).toNat = 24 * j + 24 by omega, number_at l hb j (by omega) K (by omega), Option.bind_some, if_pos (by rw [sizesOf_length]; omega), ← sizesOf_succ]
    have := ih K (j + 1) (by omega) (by omega)
    rwa [show ((j + 1 : Nat) : Int) = (j : Int) + 1 by omega] at this
theorem LadderReads : sackbutlaw17_LadderReads.Pure := by
  intro l a1 _ hsz hw ha
  have hb : Bs l := fun x hx => wf_u8 (hw x hx)
  have hr := wf_i64 ha
  refine ⟨1000, ?_⟩
  unfold sackbutlaw17_LadderReads.f
  rw [awake_ok _ (by omega), Option.bind_some, if_pos rfl]
  by_cases hl : (l.length : Int) > 200
  · rw [decide_eq_true hl]
    simp only [sackbutlaw17_LadderReads.j0]
    rw [if_pos trivial, awake_ok _ (by omega)]; rfl
  · rw [decide_eq_false hl]
    simp only [sackbutlaw17_LadderReads.j0]
    rw [if_neg (by decide)]
    by_cases h0 : a1 < 0
    · have e : ladder_Read.f l a1 = some ([], 12) := by unfold ladder_Read.f; rw [if_pos (.inl h0)]
      rw [e, Option.bind_some, if_pos h0]
      simp [sackbutlaw17_LadderReads.j1]
    by_cases h1 : a1 > 65536
    · have e : ladder_Read.f l a1 = some ([], 12) := by unfold ladder_Read.f; rw [if_pos (.inr h1)]
      rw [e, Option.bind_some, if_neg h0, decide_eq_true h1]
      simp [sackbutlaw17_LadderReads.j1]
    have hz : ¬ (a1 < 0 ∨ a1 > 65536) := by omega
    obtain ⟨N, rfl⟩ := Int.eq_ofNat_of_zero_le (show 0 ≤ a1 by omega)
    by_cases h2 : (l.length : Int) < 3 * (N : Int)
    · have e : ladder_Read.f l (N : Int) = some ([], 3) := by unfold ladder_Read.f; rw [if_neg hz, if_pos h2]
      rw [e, Option.bind_some, if_neg h0, decide_eq_false h1]
      simp only [sackbutlaw17_LadderReads.j1]
      rw [if_neg (by decide), BitStr.wrap_id (by omega) (by omega), if_pos h2]
      rfl
    have hN : 3 * N ≤ l.length := by omega
    have hlen : (sizesOf l N).length ≤ 65536 := by rw [sizesOf_length]; omega
    have key : ∀ (x5 : List Int) (x6 : Int), ((Index (sizesOf l N) ∧ x5 = sizesOf l N ∧ x6 = 0) ∨ (¬ Index (sizesOf l N) ∧ x5 = [] ∧ x6 = 12)) → sackbutlaw17_LadderReads.j1 999 l (N : Int) x5 x6 false = some true := by
      intro x5 x6 h
      simp only [sackbutlaw17_LadderReads.j1]
      rw [if_neg (by decide), BitStr.wrap_id (by omega) (by omega), if_neg h2, bits_spec l hb (by omega) _ (by omega), Option.bind_some]
      have := reads_loop l hb (by omega) N hN x5 x6 h N 998 0 (by omega) (by omega)
      simpa [sizesOf] using this
    by_cases hI : Index (sizesOf l N)
    · have e : ladder_Read.f l (N : Int) = some (sizesOf l N, 0) := by unfold ladder_Read.f; rw [if_neg hz, if_neg h2, Int.toNat_natCast, if_pos (good_index _ hlen true (by simp [hI]))]
      rw [e, Option.bind_some, if_neg h0, decide_eq_false h1]
      exact key _ _ (.inl ⟨hI, rfl, rfl⟩)
    · have e : ladder_Read.f l (N : Int) = some ([], 12) := by unfold ladder_Read.f; rw [if_neg hz, if_neg h2, Int.toNat_natCast, good_index _ hlen false (by simp [hI]), if_neg (by decide)]
      rw [e, Option.bind_some, if_neg h0, decide_eq_false h1]
      exact key _ _ (.inr ⟨hI, rfl, rfl⟩)
end Go.Proofs.Ytlbhcbfdiojbhaa.Pure
