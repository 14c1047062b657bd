/- What the document's check asks of channels, in plain numbers. By this project's prover (an AI agent). -/
import Derived.Test.YtmpaecdgcflalaaPackSpec
namespace Go.Proofs.Ytmpaecdgcflalaa.PackSpec
open Go Go.RowKit Go.Proofs.Ytmpaecdgcflalaa.HK Go.Proofs.YtmpaecdgcflalaaW.PrintWords Go.Proofs.YtmpaecdgcflalaaW.PrintLast

theorem ref_l2 {a : Int} (G : GoodF a) (b : Bool) (l : List (List Int)) (i : Nat) (hi : i < l.length) (hl : l.length ≤ 12) (hr : l[i].length ≤ 200) (R : Nat) (hR30 : 30 ≤ R) (Q : Prop)
    (hR : ∀ K, R ≤ K → ∃ c, sackbutref05_Check.l1 K l (l.length : Int) (((i + 1 : Nat) : Int)) a b = some c ∧ (c = 0 → Q)) :
    ∀ (d K j : Nat), j + d = l[i].length → d + R + 1 ≤ K →
      ∃ c, sackbutref05_Check.l2 K l (i : Int) (l.length : Int) (i : Int) (l[i].length : Int) (j : Int) a b = some c ∧ (c = 0 → (∀ v ∈ l[i].drop j, -lim a ≤ v ∧ v < lim a) ∧ Q) := by
  intro d
  induction d with
  | zero =>
    intro K j hj hK
    obtain ⟨K, rfl⟩ : ∃ m, K = m + 1 := ⟨K - 1, by omega⟩
    simp only [sackbutref05_Check.l2]
    rw [if_neg (by omega), wrap_id (by omega) (by omega), List.drop_eq_nil_of_le (by omega)]
    obtain ⟨c, e, h⟩ := hR K (by omega)
    rw [show ((i + 1 : Nat) : Int) = (i : Int) + 1 by omega] at e
    exact ⟨c, e, fun z => ⟨by simp, h z⟩⟩
  | succ d ih =>
    intro K j hj hK
    obtain ⟨K, rfl⟩ : ∃ m, K = m + 1 := ⟨K - 1, by omega⟩
    have hj' : j < l[i].length := by omega
    simp only [sackbutref05_Check.l2]
    rw [if_pos (by omega), if_pos (by omega), if_pos (by omega), if_pos (by omega), rd1_nat l i hi, if_pos (by omega), rd_nat _ j hj', ref_has G _ K (by omega), Option.bind_some]
    by_cases hv : -lim a ≤ l[i][j] ∧ l[i][j] < lim a
    · rw [decide_eq_true hv, if_pos rfl, wrap_id (by omega) (by omega)]
      obtain ⟨c, e, h⟩ := ih K (j + 1) (by omega) (by omega)
      rw [show ((j + 1 : Nat) : Int) = (j : Int) + 1 by omega] at e
      refine ⟨c, e, fun z => ⟨?_, (h z).2⟩⟩
      rw [List.drop_eq_getElem_cons hj']
      intro v hvv
      rcases List.mem_cons.mp hvv with rfl | hvv
      · exact hv
      · exact (h z).1 v hvv
    · rw [decide_eq_false hv, if_neg (by decide)]
      exact ⟨9, rfl, fun z => absurd z (by decide)⟩
theorem ref_l1 {a : Int} (G : GoodF a) (b : Bool) (l : List (List Int)) (hl : l.length ≤ 12) (hr : ∀ x ∈ l, x.length ≤ 200) :
    ∀ (d K i : Nat), i + d = l.length → d * 210 + 50 ≤ K →
      ∃ c, sackbutref05_Check.l1 K l (l.length : Int) (i : Int) a b = some c ∧ (c = 0 → ∀ x ∈ l.drop i, ∀ v ∈ x, -lim a ≤ v ∧ v < lim a) := by
  intro d
  induction d with
  | zero =>
    intro K i hi hK
    obtain ⟨K, rfl⟩ : ∃ m, K = m + 1 := ⟨K - 1, by omega⟩
    simp only [sackbutref05_Check.l1]
    rw [if_neg (by omega), List.drop_eq_nil_of_le (by omega)]
    exact ⟨0, rfl, fun _ => by simp⟩
  | succ d ih =>
    intro K i hi hK
    obtain ⟨K, rfl⟩ : ∃ m, K = m + 1 := ⟨K - 1, by omega⟩
    have hi' : i < l.length := by omega
    have hl' := hr _ (List.getElem_mem hi')
    simp only [sackbutref05_Check.l1]
    rw [if_pos (by omega), if_pos (by omega), if_pos (by omega), rd1_nat l i hi']
    obtain ⟨c, e, h⟩ := ref_l2 G b l i hi' hl hl' (d * 210 + 50) (by omega) _ (fun K hK => ih K (i + 1) (by omega) hK) l[i].length K 0 (by omega) (by omega)
    rw [show ((0 : Nat) : Int) = 0 from rfl] at e
    refine ⟨c, e, fun z => ?_⟩
    rw [List.drop_eq_getElem_cons hi']
    intro x hx
    rcases List.mem_cons.mp hx with rfl | hx
    · exact (h z).1
    · exact (h z).2 x hx
theorem ref_l0 {a : Int} (G : GoodF a) (b : Bool) (l : List (List Int)) (h1 : 1 ≤ l.length) (hl : l.length ≤ 12) (hr : ∀ x ∈ l, x.length ≤ 200) :
    ∀ (d K i : Nat), i + d = l.length → d + 3000 ≤ K →
      ∃ c, sackbutref05_Check.l0 K l (l.length : Int) (i : Int) a b = some c ∧ (c = 0 → (∀ x ∈ l.drop i, x.length = (rd_L1 l 0).length) ∧ ∀ x ∈ l, ∀ v ∈ x, -lim a ≤ v ∧ v < lim a) := by
  intro d
  induction d with
  | zero =>
    intro K i hi hK
    obtain ⟨K, rfl⟩ : ∃ m, K = m + 1 := ⟨K - 1, by omega⟩
    simp only [sackbutref05_Check.l0]
    rw [if_neg (by omega)]
    obtain ⟨c, e, h⟩ := ref_l1 G b l hl hr l.length K 0 (by omega) (by omega)
    rw [show ((0 : Nat) : Int) = 0 from rfl] at e
    rw [List.drop_eq_nil_of_le (by omega)]
    exact ⟨c, e, fun z => ⟨by simp, by simpa using h z⟩⟩
  | succ d ih =>
    intro K i hi hK
    obtain ⟨K, rfl⟩ : ∃ m, K = m + 1 := ⟨K - 1, by omega⟩
    have hi' : i < l.length := by omega
    have hl' := hr _ (List.getElem_mem hi')
    simp only [sackbutref05_Check.l0]
    rw [if_pos (by omega), if_pos (by omega), if_pos (by omega), if_pos (by omega), rd1_nat l i hi']
    by_cases he : (l[i].length : Int) = ((rd_L1 l 0).length : Int)
    · rw [if_pos he, if_neg (by omega), wrap_id (by omega) (by omega)]
      obtain ⟨c, e, h⟩ := ih K (i + 1) (by omega) (by omega)
      rw [show ((i + 1 : Nat) : Int) = (i : Int) + 1 by omega] at e
      refine ⟨c, e, fun z => ⟨?_, (h z).2⟩⟩
      rw [List.drop_eq_getElem_cons hi']
      intro x hx
      rcases List.mem_cons.mp hx with rfl | hx
      · omega
      · exact (h z).1 x hx
    · rw [if_neg he]
      exact ⟨8, rfl, fun z => absurd z (by decide)⟩
theorem ref_check (a : Int) (b : Bool) (l : List (List Int)) (hl : l.length ≤ 12) (hr : ∀ x ∈ l, x.length ≤ 200) (K : Nat) (hK : 4000 ≤ K) :
    ∃ c, sackbutref05_Check.f K a b l = some c ∧ (c = 0 → ∃ n, Fits a l n ∧ n ≤ 200) := by
  unfold sackbutref05_Check.f
  rw [good_ref, Option.bind_some]
  by_cases G : GoodF a
  · rw [decide_eq_true G, if_pos rfl]
    obtain ⟨K, rfl⟩ : ∃ m, K = m + 1 := ⟨K - 1, by omega⟩
    by_cases h1 : (l.length : Int) < 1
    · rw [if_pos h1]; simp only [sackbutref05_Check.j0, if_true]
      exact ⟨8, rfl, fun z => absurd z (by decide)⟩
    · rw [if_neg h1]; simp only [sackbutref05_Check.j0]
      by_cases h8 : (l.length : Int) > 8
      · rw [if_pos (by simpa using h8)]
        exact ⟨8, rfl, fun z => absurd z (by decide)⟩
      · rw [if_neg (by simpa using h8)]
        obtain ⟨c, e, h⟩ := ref_l0 G b l (by omega) hl hr l.length K 0 (by omega) (by omega)
        rw [show ((0 : Nat) : Int) = 0 from rfl] at e
        have z0 := rd1_nat l 0 (by omega)
        rw [show ((0 : Nat) : Int) = 0 from rfl] at z0
        have h200 : (rd_L1 l 0).length ≤ 200 := by rw [z0]; exact hr _ (List.getElem_mem _)
        refine ⟨c, e, fun z => ⟨(rd_L1 l 0).length, ⟨G, by omega, by omega, by simpa using (h z).1, by omega, (h z).2⟩, h200⟩⟩
  · rw [decide_eq_false G, if_neg (by decide)]
    exact ⟨7, rfl, fun z => absurd z (by decide)⟩
end Go.Proofs.Ytmpaecdgcflalaa.PackSpec
