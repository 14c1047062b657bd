/- LadderRound in plain numbers and lists. By this project's prover (an AI agent). -/
import Derived.Test.YtlbhcbfdiojbhaaLadderSpec
import Derived.Test.YtlbhcbfdiojbhaaGoalLadderRound
namespace Go.Proofs.Ytlbhcbfdiojbhaa.Pure
open Go Go.RowKit Go.Proofs.Ytlbhcbfdiojbhaa.HL Go.Proofs.Ytlbhcbfdiojbhaa.LadderSpec Go.Proofs.YtlbhcbfdiojbhaaW.PrintWords Go.Proofs.YtlbhcbfdiojbhaaW.PrintLast
theorem round_j0 (l : List Int) (a : Int) (ha : 0 ≤ a ∧ a < 256) (x : Bool) (h : x = false → l.length ≤ 100 ∧ 0 < l.length ∧ Index l) : sackbutlaw17_LadderRound.j0 1000 l a x = some true := by
  simp only [sackbutlaw17_LadderRound.j0]
  by_cases hx : x = true
  · rw [if_pos hx, awake_ok _ (by omega), Option.bind_some]
  · obtain ⟨hl, hpos, hi⟩ := h (by simpa using hx)
    rw [if_neg hx, if_neg (by omega), wrap_id (x := a) (by omega) (by omega)]
    have e : Int.tmod a (l.length : Int) = ((a.toNat % l.length : Nat) : Int) := by
      conv => lhs; rw [show a = ((a.toNat : Nat) : Int) by omega]
      rfl
    rw [e]
    have hm : a.toNat % l.length < l.length := Nat.mod_lt _ hpos
    generalize a.toNat % l.length = i at *
    obtain ⟨s1, s2, s3⟩ := span_succ hl hi i hm
    obtain ⟨b1, b2⟩ := span_bound hl hi i (by omega)
    rw [find_in hl hi i hm, Option.bind_some]
    simp only []
    rw [at_in hl hi (spanAt l i) i hm (Int.le_refl _) (by omega), Option.bind_some, wrap_id (x := spanAt l (i + 1) - 1) (by omega) (by omega), at_in hl hi (spanAt l (i + 1) - 1) i hm (by omega) (by omega), Option.bind_some, wrap_id (x := (l.length : Int) - 1) (by omega) (by omega)]
    by_cases hlast : i + 1 = l.length
    · rw [at_out hl hi (spanAt l (i + 1)) (by rw [hlast]; omega), Option.bind_some]
      simp [show (i : Int) = (l.length : Int) - 1 by omega]
    · obtain ⟨t1, t2, t3⟩ := span_succ hl hi (i + 1) (by omega)
      rw [at_in hl hi (spanAt l (i + 1)) (i + 1) (by omega) (Int.le_refl _) (by omega), Option.bind_some, if_neg (by omega), rd_nat l i hm, wrap_id (x := spanAt l (i + 1) - spanAt l i) (by omega) (by omega), wrap_id (x := (i : Int) + 1) (by omega) (by omega), show spanAt l (i + 1) - spanAt l i = l[i] by omega]
      simp [hm]
theorem wf_u8 {x : Int} (h : (Lit.int .u8 x).wf = true) : 0 ≤ x ∧ x < 256 := by
  simp [Lit.wf, IntKind.min, IntKind.max, IntKind.bits, IntKind.signed] at h
  omega
theorem LadderRound : PureGLadderRound := by
  intro l a _ _ ha
  refine ⟨1000, ?_⟩
  unfold sackbutlaw17_LadderRound.f
  rw [awake_ok _ (by omega), Option.bind_some, if_pos rfl]
  by_cases h : (l.length : Int) > 100
  · rw [if_pos h]; exact round_j0 l a (wf_u8 ha) true (fun h => by cases h)
  · rw [if_neg h]
    obtain ⟨b, e, hb⟩ := good_spec l (by omega) 1000 (by omega)
    rw [e, Option.bind_some]
    by_cases hbt : b = true
    · rw [if_pos hbt]; exact round_j0 l a (wf_u8 ha) _ (fun h => ⟨by omega, by simp at h; exact List.length_pos_iff.mpr h, hb.1 hbt⟩)
    · rw [if_neg hbt]; exact round_j0 l a (wf_u8 ha) true (fun h => by cases h)
end Go.Proofs.Ytlbhcbfdiojbhaa.Pure
