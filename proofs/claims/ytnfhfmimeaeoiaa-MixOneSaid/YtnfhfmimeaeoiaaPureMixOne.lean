/- MixOne in plain numbers and lists. By this project's prover (an AI agent). -/
import Derived.Test.YtnfhfmimeaeoiaaAddSpec
import Derived.Test.YtnfhfmimeaeoiaaGoalMixOne
namespace Go.Proofs.Ytnfhfmimeaeoiaa.Pure
open Go Go.RowKit Go.Proofs.Ytnfhfmimeaeoiaa.HM Go.Proofs.Ytnfhfmimeaeoiaa.MixSpec Go.Proofs.YtnfhfmimeaeoiaaW.PrintWords Go.Proofs.YtnfhfmimeaeoiaaW.PrintLast
theorem quiet_of {l : List Int} (h : code l = 0) : l.any loudB = false := by
  unfold code at h
  split at h
  · cases h
  · split at h
    · cases h
    · rename_i hn; simpa using hn
theorem quiet_rd1 {l : List Int} (h : l.any loudB = false) (k : Nat) : -67108864 ≤ rd l (k : Int) ∧ rd l (k : Int) ≤ 67108864 := by
  unfold rd
  rw [Int.toNat_natCast, List.getD_eq_getElem?_getD]
  cases e : l[k]? with
  | none => simp
  | some x =>
    have h2 := List.any_eq_false.1 h x (List.mem_of_getElem? e)
    simp [loudB] at h2
    show -67108864 ≤ x ∧ x ≤ 67108864
    omega
theorem rd_zeros (n k : Nat) : rd (List.replicate n 0) (k : Int) = 0 := by
  unfold rd
  rw [Int.toNat_natCast, List.getD_eq_getElem?_getD, List.getElem?_replicate]
  split <;> rfl
theorem quiet_zeros (n : Nat) : (List.replicate n (0 : Int)).any loudB = false := by
  rw [List.any_eq_false]
  intro x hx
  rw [(List.mem_replicate.1 hx).2]
  decide
theorem one_sums {l : List Int} (h : l.any loudB = false) (b : Int) : sumsA [l] l.length b = (List.range l.length).map (fun k => cutv (half b) (rd l ((k : Nat) : Int))) ∧ sumsA [l, List.replicate l.length 0] l.length b = (List.range l.length).map (fun k => cutv (half b) (rd l ((k : Nat) : Int))) := by
  constructor
  · unfold sumsA
    refine List.map_congr_left (fun k _ => ?_)
    have := quiet_rd1 h k
    show cutv (half b) (wrap64 (0 + rd l (k : Int))) = _
    rw [wrap_id (by omega) (by omega), Int.zero_add]
  · unfold sumsA
    refine List.map_congr_left (fun k _ => ?_)
    have := quiet_rd1 h k
    show cutv (half b) (wrap64 (wrap64 (0 + rd l (k : Int)) + rd (List.replicate l.length 0) (k : Int))) = _
    rw [rd_zeros, wrap_id (x := 0 + rd l (k : Int)) (by omega) (by omega), wrap_id (by omega) (by omega), Int.zero_add, Int.add_zero]
theorem MixOne : PureGMixOne := by
  intro l t hl _ ht
  have ht2 : 0 ≤ t ∧ t < 256 := by
    simp [Lit.wf, IntKind.min, IntKind.max, IntKind.bits, IntKind.signed] at ht
    omega
  refine ⟨100000, ?_⟩
  unfold sackbutlaw22_MixOne.f
  rw [if_pos ⟨ht2.1, ht2.2, awake_ok _ (by omega)⟩]
  by_cases hn : 100 < l.length
  · rw [if_pos hn]
  · rw [if_neg hn, ref_check l 100000 (by omega)]
    by_cases h0 : code l = 0
    · show (if code l = 0 then _ else _) = _
      rw [if_pos h0, if_pos]
      have hq := quiet_of h0
      have hb : BitsOk (2 + t % 25) := by unfold BitsOk; omega
      obtain ⟨s1, s2⟩ := one_sums hq (2 + t % 25)
      have e1 : addA [l] (2 + t % 25) = ((List.range l.length).map (fun k => cutv (half (2 + t % 25)) (rd l ((k : Nat) : Int))), 0) := by
        unfold addA
        rw [if_pos ⟨hb, by simp, by simp⟩, if_neg (by simp [unlikeB]), if_neg (by unfold loudL; simp [hq])]
        rw [← s1]; rfl
      have e2 : addA [l, List.replicate l.length 0] (2 + t % 25) = ((List.range l.length).map (fun k => cutv (half (2 + t % 25)) (rd l ((k : Nat) : Int))), 0) := by
        unfold addA
        rw [if_pos ⟨hb, by simp, by simp⟩, if_neg (by simp [unlikeB]), if_neg (by unfold loudL; rw [List.any_cons, List.any_cons, hq, quiet_zeros]; simp)]
        rw [← s2]; rfl
      unfold oneB
      rw [add_spec [l] _ (by simp) (fun x hx => by rw [List.mem_singleton.1 hx]; omega) 100000 (by omega), add_spec [l, List.replicate l.length 0] _ (by simp) (fun x hx => by
        rcases List.mem_cons.1 hx with rfl | hx
        · omega
        · rw [List.mem_singleton.1 hx, List.length_replicate]; omega) 100000 (by omega), e1, e2]
      generalize ho : (List.range l.length).map (fun k => cutv (half (2 + t % 25)) (rd l ((k : Nat) : Int))) = o
      have hol : o.length = l.length := by rw [← ho]; simp
      refine decide_eq_true ⟨rfl, rfl, rfl, hol, same_self o (by omega) 100000 (by omega), fun i hi => ?_⟩
      rw [ref_cut hb _ 100000 (by omega), rd_nat o i (by omega)]
      subst ho
      simp
    · show (if code l = 0 then _ else _) = _
      rw [if_neg h0]
end Go.Proofs.Ytnfhfmimeaeoiaa.Pure
