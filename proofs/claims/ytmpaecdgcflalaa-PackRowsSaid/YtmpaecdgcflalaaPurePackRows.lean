/- PackRows in plain numbers and lists. By this project's prover (an AI agent). -/
import Derived.Test.YtmpaecdgcflalaaPackRef
import Derived.Test.YtmpaecdgcflalaaGoalPackRows
namespace Go.Proofs.Ytmpaecdgcflalaa.Pure
open Go Go.RowKit Go.Proofs.Ytmpaecdgcflalaa.HK Go.Proofs.Ytmpaecdgcflalaa.PackSpec Go.Proofs.YtmpaecdgcflalaaW.PrintWords Go.Proofs.YtmpaecdgcflalaaW.PrintLast

theorem row_loop (l : List (List Int)) (hl : l.length ≤ 12) (i n : Nat) (hi : i < n) (hs : ∀ x ∈ l, x.length = n) : ∀ (d K j : Nat) (acc : List Int), j + d = l.length → d < K → acc.length + d < 1000 →
    pack_Row.l0 K (i : Int) acc l (l.length : Int) (j : Int) = some (acc ++ (l.drop j).map fun r => rd r (i : Int)) := by
  intro d
  induction d with
  | zero =>
    intro K j acc hj hK ha
    obtain ⟨K, rfl⟩ : ∃ m, K = m + 1 := ⟨K - 1, by omega⟩
    simp only [pack_Row.l0]
    rw [if_neg (by omega), List.drop_eq_nil_of_le (by omega)]; simp
  | succ d ih =>
    intro K j acc hj hK ha
    obtain ⟨K, rfl⟩ : ∃ m, K = m + 1 := ⟨K - 1, by omega⟩
    have hj' : j < l.length := by omega
    simp only [pack_Row.l0]
    rw [if_pos (by omega), if_pos (by omega), if_pos (by omega), if_pos (by omega), rd1_nat l j hj', hs _ (List.getElem_mem hj'), if_pos (by omega), if_pos (by omega), wrap_id (by omega) (by omega)]
    have := ih K (j + 1) (acc ++ [rd l[j] (i : Int)]) (by omega) (by omega) (by simp; omega)
    rw [show ((j + 1 : Nat) : Int) = (j : Int) + 1 by omega] at this
    rw [this, List.drop_eq_getElem_cons hj', List.map_cons]; simp
theorem row_spec (l : List (List Int)) (hl : l.length ≤ 12) (i n : Nat) (hi : i < n) (hs : ∀ x ∈ l, x.length = n) (K : Nat) (hK : 20 ≤ K) :
    pack_Row.f K l (i : Int) = some (l.map fun r => rd r (i : Int)) := by
  unfold pack_Row.f
  have := row_loop l hl i n hi hs l.length K 0 [] (by omega) (by omega) (by simp; omega)
  simpa using this
theorem vals_single (v : List Int) : vals (v.map fun x => [x]) 0 1 = v := by
  simp [vals, rd, Function.comp_def]
theorem fits_single {a : Int} {l : List (List Int)} {n : Nat} (F : Fits a l n) (i : Nat) (hi : i < n) : Fits a ((l.map fun r => rd r (i : Int)).map fun x => [x]) 1 := by
  refine ⟨F.good, by simpa using F.one, by simpa using F.eight, by simp, by omega, ?_⟩
  intro x hx v hv
  simp only [List.map_map, List.mem_map, Function.comp] at hx
  obtain ⟨r, hr, rfl⟩ := hx
  have hn := F.same r hr
  rw [List.mem_singleton] at hv; subst hv
  rw [rd_nat r i (by omega)]
  exact F.has r hr _ (List.getElem_mem _)
theorem rows_l1 {a : Int} {l : List (List Int)} {n : Nat} (F : Fits a l n) (b : Bool) (hn : n ≤ 200) (x5 x7 : List Int) (h7 : x7.length < 1000000) (i : Nat) (hi : i < n) (R : Nat)
    (hR : ∀ K, R ≤ K → sackbutlaw05_PackRows.l0 K l x5 0 (x7 ++ (l.map fun r => rd r (i : Int)).flatMap (enc (nbytes a) b)) (n : Int) (((i + 1 : Nat) : Int)) a b = some true) :
    ∀ (d K j : Nat) (acc : List (List Int)), j + d = l.length → d + R + 300 ≤ K → acc ++ ((l.map fun r => rd r (i : Int)).drop j).map (fun x => [x]) = (l.map fun r => rd r (i : Int)).map (fun x => [x]) →
      sackbutlaw05_PackRows.l1 K l x5 0 x7 (i : Int) acc (n : Int) (i : Int) (l.map fun r => rd r (i : Int)) (l.length : Int) (j : Int) a b = some true := by
  have h8 := F.eight; have hb := bytes_le a
  intro d
  induction d with
  | zero =>
    intro K j acc hj hK ha
    obtain ⟨K, rfl⟩ : ∃ m, K = m + 1 := ⟨K - 1, by omega⟩
    rw [List.drop_eq_nil_of_le (by simp; omega)] at ha
    simp only [List.map_nil, List.append_nil] at ha
    simp only [sackbutlaw05_PackRows.l1]
    rw [if_neg (by omega), ha, pack_spec (fits_single F i hi) b K (by omega) (by omega), Option.bind_some, if_pos rfl, vals_single, if_pos (by rw [flat_length (enc_length (nbytes a) b), List.length_map]; have : l.length * nbytes a ≤ 8 * 3 := Nat.mul_le_mul h8 hb; omega), wrap_id (by omega) (by omega)]
    have := hR K (by omega)
    rwa [show ((i + 1 : Nat) : Int) = (i : Int) + 1 by omega] at this
  | succ d ih =>
    intro K j acc hj hK ha
    obtain ⟨K, rfl⟩ : ∃ m, K = m + 1 := ⟨K - 1, by omega⟩
    have hj' : j < l.length := by omega
    have hj2 : j < (l.map fun r => rd r (i : Int)).length := by rw [List.length_map]; exact hj'
    have hs := F.same _ (List.getElem_mem hj')
    have hacc : acc.length ≤ 8 := by have := congrArg List.length ha; simp at this; omega
    simp only [sackbutlaw05_PackRows.l1]
    rw [if_pos (by omega), if_pos (by omega), if_pos (by rw [List.length_map]; omega), if_pos (by omega), if_pos (by omega), rd1_nat l j hj', hs, if_pos (by omega), rd_nat _ j hj2, List.getElem_map, if_pos rfl, if_pos (by omega), wrap_id (by omega) (by omega)]
    have := ih K (j + 1) (acc ++ [[rd l[j] (i : Int)]]) (by omega) (by omega) (by rw [← ha, List.drop_eq_getElem_cons hj2, List.map_cons, List.getElem_map]; simp)
    rwa [show ((j + 1 : Nat) : Int) = (j : Int) + 1 by omega] at this
theorem rows_l0 {a : Int} {l : List (List Int)} {n : Nat} (F : Fits a l n) (b : Bool) (hn : n ≤ 200) (x5 : List Int) : ∀ (d K i : Nat) (x7 : List Int), i + d = n → d * 400 + 300 ≤ K → x7.length ≤ i * 24 → x7 ++ (vals l i d).flatMap (enc (nbytes a) b) = x5 →
    sackbutlaw05_PackRows.l0 K l x5 0 x7 (n : Int) (i : Int) a b = some true := by
  have h8 := F.eight; have hb := bytes_le a
  intro d
  induction d with
  | zero =>
    intro K i x7 hi hK h7 he
    obtain ⟨K, rfl⟩ : ∃ m, K = m + 1 := ⟨K - 1, by omega⟩
    simp only [vals, List.flatMap_nil, List.append_nil] at he; subst he
    simp only [sackbutlaw05_PackRows.l0]
    rw [if_neg (by omega), if_pos trivial]; simp
  | succ d ih =>
    intro K i x7 hi hK h7 he
    obtain ⟨K, rfl⟩ : ∃ m, K = m + 1 := ⟨K - 1, by omega⟩
    simp only [sackbutlaw05_PackRows.l0]
    rw [if_pos (by omega), row_spec l (by omega) i n (by omega) F.same K (by omega), Option.bind_some, if_pos (by simp), List.length_map]
    have hm : l.length * nbytes a ≤ 8 * 3 := Nat.mul_le_mul h8 hb
    exact rows_l1 F b hn x5 x7 (by omega) i (by omega) (d * 400 + 300)
      (fun K hK => ih K (i + 1) _ (by omega) hK (by rw [List.length_append, flat_length (enc_length (nbytes a) b), List.length_map]; omega) (by rw [← he, vals, List.flatMap_append, List.append_assoc])) l.length K 0 [] (by omega) (by omega) (by simp)
theorem rows_j0 {a : Int} (b : Bool) (l : List (List Int)) (x : Bool) (K : Nat) (hK : 100000 ≤ K) (h : x = false → ∃ n, Fits a l n ∧ n ≤ 200) : sackbutlaw05_PackRows.j0 K l x a b = some true := by
  obtain ⟨K, rfl⟩ : ∃ m, K = m + 1 := ⟨K - 1, by omega⟩
  simp only [sackbutlaw05_PackRows.j0]
  by_cases hx : x = true
  · rw [if_pos hx, awake_ok K (by omega), Option.bind_some]
  · rw [if_neg hx]
    obtain ⟨n, F, hn⟩ := h (by simpa using hx)
    have h1 := F.one
    rw [pack_spec F b K (by omega) (by omega), Option.bind_some, if_pos (by omega), F.zero]
    exact rows_l0 F b hn _ n K 0 [] (by omega) (by omega) (by simp) (by simp)
theorem PackRows : PureGPackRows := by
  intro a b l _ hl _; refine ⟨l.length + 200000, ?_⟩
  unfold sackbutlaw05_PackRows.f
  rw [awake_ok _ (by omega), Option.bind_some, if_pos rfl]
  obtain ⟨z, ez, hz⟩ := few_spec l hl (l.length + 200000) (by omega)
  rw [ez, Option.bind_some]
  by_cases h : z = true
  · rw [if_pos h]
    obtain ⟨c, ec, hc⟩ := ref_check a b l (hz h).1 (hz h).2 (l.length + 200000) (by omega)
    rw [ec, Option.bind_some]
    exact rows_j0 b l _ _ (by omega) (fun q => hc (by simpa using q))
  · rw [if_neg h]
    exact rows_j0 b l _ _ (by omega) (fun q => absurd q (by decide))
end Go.Proofs.Ytmpaecdgcflalaa.Pure
