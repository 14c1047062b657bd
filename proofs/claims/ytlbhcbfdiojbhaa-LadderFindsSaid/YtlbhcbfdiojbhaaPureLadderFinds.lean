/- LadderFinds in plain numbers and lists. By this project's prover (an AI agent). -/
import Derived.Test.YtlbhcbfdiojbhaaLadderSpec
import Derived.Test.YtlbhcbfdiojbhaaGoalLadderFinds
namespace Go.Proofs.Ytlbhcbfdiojbhaa.Pure
open Go Go.RowKit Go.Proofs.Ytlbhcbfdiojbhaa.HL Go.Proofs.Ytlbhcbfdiojbhaa.LadderSpec Go.Proofs.YtlbhcbfdiojbhaaW.PrintWords Go.Proofs.YtlbhcbfdiojbhaaW.PrintLast
/-- What Find and At have told. -/
structure Told (l : List Int) (a o x7 x8 x9 x10 x11 : Int) : Prop where
  fin : 0 ≤ a ∧ a < (l.length : Int) → x7 = spanAt l a.toNat ∧ x8 = spanAt l (a.toNat + 1) ∧ x9 = 0
  fout : ¬ (0 ≤ a ∧ a < (l.length : Int)) → x7 = 0 ∧ x8 = 0 ∧ x9 = 14
  ain : 0 ≤ o ∧ o < spanAt l l.length → ∃ k : Nat, k < l.length ∧ spanAt l k ≤ o ∧ o < spanAt l (k + 1) ∧ x10 = (k : Int) ∧ x11 = 0
  aout : ¬ (0 ≤ o ∧ o < spanAt l l.length) → x10 = 0 ∧ x11 = 14
theorem finds_l0 {l : List Int} (hl : l.length ≤ 100) (hi : Index l) {a o x7 x8 x9 x10 x11 : Int} (T : Told l a o x7 x8 x9 x10 x11) : ∀ (d K j : Nat) (found there : Bool), j + d = l.length → d + 2 < K →
    found = decide (0 ≤ a ∧ a < (j : Int)) → there = decide (0 ≤ o ∧ o < spanAt l j) →
    sackbutlaw17_LadderFinds.l0 K l a o x7 x8 x9 x10 x11 (spanAt l j) found there l (l.length : Int) (j : Int) = some true := by
  intro d
  induction d with
  | zero =>
    intro K j found there hj hK hf ht
    obtain ⟨K, rfl⟩ : ∃ m, K = m + 2 := ⟨K - 2, by omega⟩
    obtain rfl : j = l.length := by omega
    simp only [sackbutlaw17_LadderFinds.l0, sackbutlaw17_LadderFinds.j2]
    rw [if_neg (by omega)]
    by_cases hA : 0 ≤ o ∧ o < spanAt l l.length
    · obtain ⟨k, h1, h2, h3, rfl, rfl⟩ := T.ain hA
      rw [decide_eq_true hA] at ht; subst ht
      by_cases hF : 0 ≤ a ∧ a < (l.length : Int)
      · obtain ⟨rfl, rfl, rfl⟩ := T.fin hF
        rw [decide_eq_true hF] at hf; subst hf
        rw [if_neg (by omega), if_neg (by simp; omega), if_neg (by omega), if_neg (by omega), if_pos rfl]
      · obtain ⟨rfl, rfl, rfl⟩ := T.fout hF
        by_cases h0 : a < 0
        · rw [if_pos h0]; simp [show ¬ o < 0 by omega, show ¬ spanAt l l.length ≤ o by omega]
        · rw [if_neg h0, if_pos (by simp; omega)]; simp [show ¬ o < 0 by omega, show ¬ spanAt l l.length ≤ o by omega]
    · obtain ⟨rfl, rfl⟩ := T.aout hA
      have ho : o < 0 ∨ ¬ o < 0 ∧ o ≥ spanAt l l.length := by omega
      by_cases hF : 0 ≤ a ∧ a < (l.length : Int)
      · obtain ⟨rfl, rfl, rfl⟩ := T.fin hF
        rw [decide_eq_true hF] at hf; subst hf
        rw [if_neg (by omega), if_neg (by simp; omega)]
        rcases ho with h | ⟨h, h'⟩ <;> simp [h]
        intro hh; omega
      · obtain ⟨rfl, rfl, rfl⟩ := T.fout hF
        by_cases h0 : a < 0
        · rw [if_pos h0]
          rcases ho with h | ⟨h, h'⟩ <;> simp [h]
          intro hh; omega
        · rw [if_neg h0, if_pos (by simp; omega)]
          rcases ho with h | ⟨h, h'⟩ <;> simp [h]
          intro hh; omega
  | succ d ih =>
    intro K j found there hj hK hf ht
    obtain ⟨K, rfl⟩ : ∃ m, K = m + 1 := ⟨K - 1, by omega⟩
    have hj' : j < l.length := by omega
    obtain ⟨s1, s2, s3⟩ := span_succ hl hi j hj'
    obtain ⟨b1, b2⟩ := span_bound hl hi j (by omega)
    have hw : wrap64 (spanAt l j + rd l (j : Int)) = spanAt l (j + 1) := by rw [rd_nat l j hj', ← s1]; exact wrap_id (by omega) (by omega)
    have hw1 : wrap64 ((j : Int) + 1) = ((j + 1 : Nat) : Int) := by rw [wrap_id (by omega) (by omega)]; omega
    have hmono := span_mono hl hi (j + 1) l.length (by omega) (by omega)
    have next := fun found there h1 h2 => ih K (j + 1) found there (by omega) (by omega) h1 h2
    simp only [sackbutlaw17_LadderFinds.l0]
    rw [if_pos (by omega), if_pos (by omega), if_pos (by omega), hw, hw1]
    -- the next 'there', if the offset is in this span
    have inside : o ≥ spanAt l j → o < spanAt l (j + 1) → x10 = (j : Int) ∧ x11 = 0 := by
      intro h1 h2
      obtain ⟨k, k1, k2, k3, k4, k5⟩ := T.ain ⟨by omega, by omega⟩
      refine ⟨?_, k5⟩
      have : k = j := by
        rcases Nat.lt_trichotomy k j with h | h | h
        · have := span_mono hl hi (k + 1) j (by omega) (by omega); omega
        · exact h
        · have := span_mono hl hi (j + 1) k (by omega) (by omega); omega
      omega
    have thereNo : ¬ (o ≥ spanAt l j ∧ o < spanAt l (j + 1)) → there = decide (0 ≤ o ∧ o < spanAt l (j + 1)) := fun h => by
      rw [ht]; exact decide_eq_decide.mpr (by omega)
    have foundNo : ¬ (j : Int) = a → found = decide (0 ≤ a ∧ a < ((j + 1 : Nat) : Int)) := fun h => by
      rw [hf]; exact decide_eq_decide.mpr (by omega)
    by_cases hja : (j : Int) = a
    · obtain ⟨f1, f2, f3⟩ := T.fin (by omega)
      rw [show a.toNat = j by omega] at f1 f2
      have fyes : (x9 == 0) = decide (0 ≤ a ∧ a < ((j + 1 : Nat) : Int)) := by
        rw [f3, decide_eq_true (by omega)]; rfl
      rw [if_pos hja, if_pos f1, if_pos f2]
      by_cases h1 : o ≥ spanAt l j
      · by_cases h2 : o < spanAt l (j + 1)
        · obtain ⟨i1, i2⟩ := inside h1 h2
          rw [if_pos h1, if_pos h2, if_pos i1]
          exact next _ _ fyes (by rw [i2, decide_eq_true (by omega)]; rfl)
        · rw [if_pos h1, if_neg h2]
          exact next _ _ fyes (thereNo (fun h => h2 h.2))
      · rw [if_neg h1]
        exact next _ _ fyes (thereNo (fun h => h1 h.1))
    · rw [if_neg hja]
      by_cases h1 : o ≥ spanAt l j
      · by_cases h2 : o < spanAt l (j + 1)
        · obtain ⟨i1, i2⟩ := inside h1 h2
          rw [if_pos h1, if_pos h2, if_pos i1]
          exact next _ _ (foundNo hja) (by rw [i2, decide_eq_true (by omega)]; rfl)
        · rw [if_pos h1, if_neg h2]
          exact next _ _ (foundNo hja) (thereNo (fun h => h2 h.2))
      · rw [if_neg h1]
        exact next _ _ (foundNo hja) (thereNo (fun h => h1 h.1))
theorem told {l : List Int} (hl : l.length ≤ 100) (hi : Index l) (a o : Int) : ∃ x7 x8 x9 x10 x11, ladder_Find.f l a = some (x7, x8, x9) ∧ ladder_At.f l o = some (x10, x11) ∧ Told l a o x7 x8 x9 x10 x11 := by
  have hF : ∃ x7 x8 x9, ladder_Find.f l a = some (x7, x8, x9) ∧ (0 ≤ a ∧ a < (l.length : Int) → x7 = spanAt l a.toNat ∧ x8 = spanAt l (a.toNat + 1) ∧ x9 = 0) ∧ (¬ (0 ≤ a ∧ a < (l.length : Int)) → x7 = 0 ∧ x8 = 0 ∧ x9 = 14) := by
    by_cases h : 0 ≤ a ∧ a < (l.length : Int)
    · have e := find_in hl hi a.toNat (by omega)
      rw [show ((a.toNat : Nat) : Int) = a by omega] at e
      exact ⟨_, _, _, e, fun _ => ⟨rfl, rfl, rfl⟩, fun h' => absurd h h'⟩
    · exact ⟨_, _, _, find_out hl hi a h, fun h' => absurd h' h, fun _ => ⟨rfl, rfl, rfl⟩⟩
  have hA : ∃ x10 x11, ladder_At.f l o = some (x10, x11) ∧ (0 ≤ o ∧ o < spanAt l l.length → ∃ k : Nat, k < l.length ∧ spanAt l k ≤ o ∧ o < spanAt l (k + 1) ∧ x10 = (k : Int) ∧ x11 = 0) ∧ (¬ (0 ≤ o ∧ o < spanAt l l.length) → x10 = 0 ∧ x11 = 14) := by
    by_cases h : 0 ≤ o ∧ o < spanAt l l.length
    · obtain ⟨k, h1, h2, h3⟩ := span_at hl hi o h.1 l.length (Nat.le_refl _) h.2
      exact ⟨_, _, at_in hl hi o k h1 h2 h3, fun _ => ⟨k, h1, h2, h3, rfl, rfl⟩, fun h' => absurd h h'⟩
    · exact ⟨_, _, at_out hl hi o h, fun h' => absurd h' h, fun _ => ⟨rfl, rfl⟩⟩
  obtain ⟨x7, x8, x9, e1, f1, f2⟩ := hF
  obtain ⟨x10, x11, e2, a1, a2⟩ := hA
  exact ⟨x7, x8, x9, x10, x11, e1, e2, ⟨f1, f2, a1, a2⟩⟩
theorem finds_j0 (l : List Int) (a o : Int) (x : Bool) (h : x = false → l.length ≤ 100 ∧ Index l) : sackbutlaw17_LadderFinds.j0 1000 l a o x = some true := by
  simp only [sackbutlaw17_LadderFinds.j0]
  by_cases hx : x = true
  · rw [if_pos hx, awake_ok _ (by omega), Option.bind_some]
  · obtain ⟨hl, hi⟩ := h (by simpa using hx)
    obtain ⟨x7, x8, x9, x10, x11, e1, e2, T⟩ := told hl hi a o
    rw [if_neg hx, e1, Option.bind_some, e2, Option.bind_some]
    have h0 : spanAt l 0 = 0 := by simp [spanAt]
    have := finds_l0 hl hi T l.length 999 0 false false (by omega) (by omega) (decide_eq_false (by omega)).symm (decide_eq_false (by omega)).symm
    rw [h0] at this
    exact this
theorem LadderFinds : PureGLadderFinds := by
  intro l a o _ _ _ _
  refine ⟨1000, ?_⟩
  unfold sackbutlaw17_LadderFinds.f
  rw [awake_ok _ (by omega), Option.bind_some, if_pos rfl]
  by_cases h : (l.length : Int) > 100
  · rw [if_pos h]; exact finds_j0 l a o true (fun h => by cases h)
  · rw [if_neg h]
    obtain ⟨b, e, hb⟩ := good_spec l (by omega) 1000 (by omega)
    rw [e, Option.bind_some]
    exact finds_j0 l a o _ (fun h => ⟨by omega, hb.1 (by simpa using h)⟩)
end Go.Proofs.Ytlbhcbfdiojbhaa.Pure
