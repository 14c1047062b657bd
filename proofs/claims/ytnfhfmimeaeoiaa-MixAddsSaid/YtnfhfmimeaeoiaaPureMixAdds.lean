/- MixAdds in plain numbers and lists: the order of the channels is nothing to the sums. By this project's prover (an AI agent). -/
import Derived.Test.YtnfhfmimeaeoiaaAddSpec
import Derived.Test.YtnfhfmimeaeoiaaGoalMixAdds
namespace Go.Proofs.Ytnfhfmimeaeoiaa.Pure
open Go Go.RowKit Go.Proofs.Ytnfhfmimeaeoiaa.HM Go.Proofs.Ytnfhfmimeaeoiaa.MixSpec Go.Proofs.YtnfhfmimeaeoiaaW.PrintWords Go.Proofs.YtnfhfmimeaeoiaaW.PrintLast
theorem turn_range : ∀ n : Fin 9, ∀ t : Fin 9, t.val < n.val → ((List.range n.val).map (turnIx n.val t.val)).Perm (List.range n.val) := by decide +kernel
theorem turn_mod (n t i : Nat) : turnIx n t i = turnIx n (t % n) i := by unfold turnIx; rw [Nat.add_mod i t, Nat.add_mod i (t % n), Nat.mod_mod]
theorem getD_all (l : List (List Int)) : (List.range l.length).map (fun i => l.getD i []) = l := by
  refine List.ext_getElem (by simp) (fun i h1 h2 => ?_)
  rw [List.getElem_map, List.getElem_range, List.getD_eq_getElem?_getD, List.getElem?_eq_getElem h2]; rfl
theorem turned_perm (l : List (List Int)) (t : Nat) (h1 : 1 ≤ l.length) (h8 : l.length ≤ 8) : (turned l t).Perm l := by
  have hp := turn_range ⟨l.length, by omega⟩ ⟨t % l.length, by have := Nat.mod_lt t h1; omega⟩ (Nat.mod_lt t h1)
  have h2 := hp.map (fun i => l.getD i [])
  rw [getD_all l, List.map_map] at h2
  have e : turned l t = (List.range l.length).map ((fun i => l.getD i []) ∘ turnIx l.length (t % l.length)) := by
    unfold turned
    refine List.map_congr_left (fun i _ => ?_)
    show l.getD (turnIx l.length t i) [] = l.getD (turnIx l.length (t % l.length) i) []
    rw [turn_mod]
  rw [e]; exact h2
theorem perm_any {m l : List (List Int)} (hp : m.Perm l) (p : List Int → Bool) : m.any p = l.any p := by
  rw [Bool.eq_iff_iff, List.any_eq_true, List.any_eq_true]
  exact ⟨fun ⟨x, h, q⟩ => ⟨x, hp.mem_iff.1 h, q⟩, fun ⟨x, h, q⟩ => ⟨x, hp.mem_iff.2 h, q⟩⟩
theorem unlike_iff (l : List (List Int)) (h : 1 ≤ l.length) : l.any (unlikeB (l.headD []).length) = false ↔ ∀ x ∈ l, ∀ y ∈ l, x.length = y.length := by
  cases l with
  | nil => simp at h
  | cons z l =>
    rw [List.any_eq_false]
    constructor
    · intro hh x hx y hy
      have h1 := hh x hx
      have h2 := hh y hy
      unfold unlikeB at h1 h2
      simp at h1 h2
      omega
    · intro hh x hx
      unfold unlikeB
      have := hh x hx z (by simp)
      simp [this]
def sumL (l : List (List Int)) (k : Nat) : Int := (l.map fun c => rd c (k : Int)).foldr (· + ·) 0
theorem perm_sum {m l : List (List Int)} (hp : m.Perm l) (k : Nat) : sumL m k = sumL l k := by
  unfold sumL
  induction hp with
  | nil => rfl
  | cons x _ ih => simp only [List.map_cons, List.foldr_cons, ih]
  | swap x y l => simp only [List.map_cons, List.foldr_cons]; omega
  | trans _ _ h1 h2 => exact h1.trans h2
theorem quiet_rd {l : List (List Int)} (h : loudL l = false) (k : Nat) : ∀ c ∈ l, -67108864 ≤ rd c (k : Int) ∧ rd c (k : Int) ≤ 67108864 := by
  intro c hc
  unfold rd
  rw [Int.toNat_natCast, List.getD_eq_getElem?_getD]
  cases e : c[k]? with
  | none => simp
  | some x =>
    have h1 := List.any_eq_false.1 h c hc
    have h2 := List.any_eq_false.1 (by simpa using h1) x (List.mem_of_getElem? e)
    simp [loudB] at h2
    show -67108864 ≤ x ∧ x ≤ 67108864
    omega
theorem colSum_eq (k : Nat) : ∀ (l : List (List Int)) (m : Nat) (a : Int), l.length + m ≤ 20 → (∀ c ∈ l, -67108864 ≤ rd c (k : Int) ∧ rd c (k : Int) ≤ 67108864) → (-67108864 * (m : Int) ≤ a ∧ a ≤ 67108864 * (m : Int)) → colSum l k a = a + sumL l k
  | [], m, a, _, _, _ => by show a = a + 0; omega
  | c :: l, m, a, hm, h, ha => by
    have hc := h c (by simp)
    rw [List.length_cons] at hm
    show colSum l k (wrap64 (a + rd c (k : Int))) = a + (rd c (k : Int) + sumL l k)
    rw [wrap_id (by omega) (by omega), colSum_eq k l (m + 1) (a + rd c (k : Int)) (by omega) (fun x hx => h x (List.mem_cons_of_mem _ hx)) (by omega)]
    omega
theorem addA_perm {m l : List (List Int)} (hp : m.Perm l) (b : Int) : addA m b = addA l b := by
  have hlen := hp.length_eq
  unfold addA
  rw [hlen]
  by_cases hb : BitsOk b ∧ 1 ≤ l.length ∧ l.length ≤ 8
  · rw [if_pos hb, if_pos hb]
    have hu : m.any (unlikeB (m.headD []).length) = l.any (unlikeB (l.headD []).length) := by
      rw [Bool.eq_iff_iff, ← Bool.not_eq_false, ← Bool.not_eq_false, unlike_iff m (by omega), unlike_iff l hb.2.1]
      constructor
      · intro h1 h2; exact h1 (fun x hx y hy => h2 x (hp.mem_iff.1 hx) y (hp.mem_iff.1 hy))
      · intro h1 h2; exact h1 (fun x hx y hy => h2 x (hp.mem_iff.2 hx) y (hp.mem_iff.2 hy))
    have hq : loudL m = loudL l := perm_any hp _
    rw [hu, hq]
    cases hu2 : l.any (unlikeB (l.headD []).length) with
    | true => rfl
    | false =>
      rw [if_neg (show ¬ (false = true) by decide), if_neg (show ¬ (false = true) by decide)]
      cases hq2 : loudL l with
      | true => rfl
      | false =>
        rw [if_neg (show ¬ (false = true) by decide), if_neg (show ¬ (false = true) by decide)]
        have hall := (unlike_iff l hb.2.1).1 hu2
        have hmem : ∀ z : List (List Int), 1 ≤ z.length → z.headD [] ∈ z := fun z hz => by cases z with | nil => simp at hz | cons x z => simp
        have hh : (m.headD []).length = (l.headD []).length := hall _ (hp.mem_iff.1 (hmem m (by omega))) _ (hmem l hb.2.1)
        rw [hh]
        have hs : sumsA m (l.headD []).length b = sumsA l (l.headD []).length b := by
          unfold sumsA
          refine List.map_congr_left (fun k _ => ?_)
          rw [colSum_eq k m 0 0 (by omega) (quiet_rd (hq.trans hq2) k) (by omega), colSum_eq k l 0 0 (by omega) (quiet_rd hq2 k) (by omega), perm_sum hp]
        rw [hs]
  · rw [if_neg hb, if_neg hb]
theorem addA_out (l : List (List Int)) (b : Int) (h : l.length < 1 ∨ 8 < l.length) : addA l b = ([], 1) := by
  unfold addA; rw [if_neg (fun hb => by omega)]
theorem addA_len (l : List (List Int)) (b : Int) (hr : ∀ x ∈ l, x.length ≤ 100) : (addA l b).1.length ≤ 100 := by
  unfold addA
  split
  · split
    · simp
    · split
      · simp
      · show (sumsA l (l.headD []).length b).length ≤ 100
        unfold sumsA
        rw [List.length_map, List.length_range]
        rename_i h _ _
        cases l with
        | nil => simp
        | cons x l => exact hr x (by simp)
  · simp
theorem MixAdds : PureGMixAdds := by
  intro l b t _ _ _ ht
  have ht2 : 0 ≤ t ∧ t < 256 := by
    simp [Lit.wf, IntKind.min, IntKind.max, IntKind.bits, IntKind.signed] at ht
    omega
  refine ⟨100000, ?_⟩
  unfold sackbutlaw22_MixAdds.f
  rw [if_pos ⟨ht2.1, ht2.2, awake_ok _ (by omega)⟩]
  by_cases hn : 12 < l.length
  · rw [if_pos hn]
  · rw [if_neg hn]
    by_cases hm : l.any manyB = true
    · rw [if_pos hm]
    · rw [if_neg hm, if_pos]
      have hr : ∀ x ∈ l, x.length ≤ 100 := fun x hx => by
        have h := List.any_eq_false.1 (by simpa using hm) x hx
        unfold manyB at h
        simp at h
        omega
      have hrt : ∀ x ∈ turned l t.toNat, x.length ≤ 100 := fun x hx => by
        unfold turned at hx
        obtain ⟨i, _, rfl⟩ := List.mem_map.1 hx
        rw [List.getD_eq_getElem?_getD]
        cases e : l[turnIx l.length t.toNat i]? with
        | none => simp
        | some y => exact hr y (List.mem_of_getElem? e)
      have htl : (turned l t.toNat).length = l.length := by unfold turned; simp
      have he : addA (turned l t.toNat) b = addA l b := by
        by_cases h8 : 1 ≤ l.length ∧ l.length ≤ 8
        · exact addA_perm (turned_perm l t.toNat h8.1 h8.2) b
        · rw [addA_out l b (by omega), addA_out (turned l t.toNat) b (by omega)]
      unfold addsB
      rw [add_spec l b (by omega) (fun x hx => by have := hr x hx; omega) 100000 (by omega), ref_add_spec l b (by omega) hr 100000 (by omega), add_spec (turned l t.toNat) b (by omega) (fun x hx => by have := hrt x hx; omega) 100000 (by omega), he]
      have hs := addA_len l b hr
      exact decide_eq_true ⟨rfl, rfl, rfl, rfl, same_self (addA l b).1 (by omega) 100000 (by omega)⟩
end Go.Proofs.Ytnfhfmimeaeoiaa.Pure
