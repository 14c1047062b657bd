/- What adding channels comes to, in plain numbers and lists. By this project's prover (an AI agent). -/
import Derived.Test.YtnfhfmimeaeoiaaMixSpec
import Derived.Test.YtnfhfmimeaeoiaaHMx14
import Derived.Test.YtnfhfmimeaeoiaaHMx15
namespace Go.Proofs.Ytnfhfmimeaeoiaa.MixSpec
open Go Go.RowKit Go.Proofs.Ytnfhfmimeaeoiaa.HM Go.Proofs.YtnfhfmimeaeoiaaW.PrintWords Go.Proofs.YtnfhfmimeaeoiaaW.PrintLast

theorem rd1_nat (l : List (List Int)) (i : Nat) (h : i < l.length) : rd_L1 l (i : Int) = l[i] := by
  unfold rd_L1; rw [Int.toNat_natCast, List.getD_eq_getElem?_getD, List.getElem?_eq_getElem h]; rfl
theorem list_rd {a b : List Int} (hl : a.length = b.length) (h : ∀ k, k < a.length → rd a (k : Int) = rd b (k : Int)) : a = b := by
  refine List.ext_getElem hl (fun k h1 h2 => ?_)
  rw [← rd_nat a k h1, ← rd_nat b k h2]; exact h k h1
theorem rd_set (s : List Int) (i k : Nat) (v : Int) (hi : i < s.length) : rd (s.set i v) (k : Int) = if i = k then v else rd s (k : Int) := by
  unfold rd
  rw [Int.toNat_natCast, List.getD_eq_getElem?_getD, List.getD_eq_getElem?_getD, List.getElem?_set]
  by_cases h : i = k
  · rw [if_pos h, if_pos hi, if_pos h]; rfl
  · rw [if_neg h, if_neg h]
theorem addAt_rd (c : List Int) : ∀ (d i : Nat) (s : List Int), i + d = s.length → ∀ k : Nat, rd (addAt c d i s) (k : Int) = if i ≤ k ∧ k < i + d then wrap64 (rd s (k : Int) + rd c (k : Int)) else rd s (k : Int)
  | 0, i, s, h, k => by rw [addAt, if_neg (by omega)]
  | d + 1, i, s, h, k => by
    rw [addAt, addAt_rd c d (i + 1) _ (by rw [List.length_set]; omega), rd_set s i k _ (by omega)]
    by_cases h1 : i = k
    · subst h1
      rw [if_neg (by omega), if_pos rfl, if_pos (by omega)]
    · rw [if_neg h1]
      by_cases h2 : i ≤ k ∧ k < i + (d + 1)
      · rw [if_pos (by omega), if_pos h2]
      · rw [if_neg (by omega), if_neg h2]
/-- The sums of all channels, place by place. -/
def colSum (l : List (List Int)) (k : Nat) (a : Int) : Int := l.foldl (fun a c => wrap64 (a + rd c (k : Int))) a
def addRows (l : List (List Int)) (s : List Int) : List Int := l.foldl (fun s c => addAt c s.length 0 s) s
theorem addRows_length : ∀ l s, (addRows l s).length = s.length
  | [], _ => rfl
  | c :: l, s => by
    show (addRows l (addAt c s.length 0 s)).length = _
    rw [addRows_length l, addAt_length]
theorem addRows_rd : ∀ (l : List (List Int)) (s : List Int) (k : Nat), k < s.length → rd (addRows l s) (k : Int) = colSum l k (rd s (k : Int))
  | [], _, _, _ => rfl
  | c :: l, s, k, h => by
    show rd (addRows l (addAt c s.length 0 s)) (k : Int) = colSum l k (wrap64 (rd s (k : Int) + rd c (k : Int)))
    rw [addRows_rd l _ k (by rw [addAt_length]; exact h), addAt_rd c s.length 0 s (by omega) k, if_pos (by omega)]
def loudL (l : List (List Int)) : Bool := l.any fun c => c.any loudB
theorem check_code (K : Nat) (hK : 2 ≤ K) (c : List Int) (hc : c.length ≤ 65536) : mix_check.f K c true = some (if c.any loudB then 9 else 0) := by
  rw [check_true c K hK]
  unfold code
  rw [if_neg (by omega)]
theorem addGo_spec (K : Nat) (hK : 2 ≤ K) : ∀ (l : List (List Int)) (s : List Int), (∀ x ∈ l, x.length ≤ 65536) → addGo K l s = if loudL l then some ([], 9) else some (addRows l s, 0)
  | [], s, _ => rfl
  | c :: l, s, h => by
    unfold addGo
    rw [check_code K hK c (h c (by simp)), Option.bind_some, addGo_spec K hK l _ (fun x hx => h x (List.mem_cons_of_mem _ hx))]
    unfold loudL
    rw [List.any_cons]
    cases c.any loudB with
    | true => rw [if_neg (show ¬ ((if true = true then (9 : Int) else 0) = 0) by decide), Bool.true_or, if_pos rfl, if_pos rfl]
    | false => rw [if_pos (show (if false = true then (9 : Int) else 0) = 0 by rfl), Bool.false_or]; rfl
/-- The answer of an addition. -/
def sumsA (l : List (List Int)) (n : Nat) (b : Int) : List Int := (List.range n).map fun k => cutv (half b) (colSum l k 0)
def addA (l : List (List Int)) (b : Int) : List Int × Int := if BitsOk b ∧ 1 ≤ l.length ∧ l.length ≤ 8 then (if l.any (unlikeB (l.headD []).length) = true then ([], 8) else if loudL l then ([], 9) else (sumsA l (l.headD []).length b, 0)) else ([], 1)
theorem cut_spec (s : List Int) (b : Int) (hb : BitsOk b) : eachA stMix s.length [(27, b)] s = some (s.map (cutv (half b))) := by
  simp only [eachA]
  have := mapAt_spec (stMix (27, b)) (cutv (half b)) (fun x => by unfold stMix; rw [if_neg (show ¬ (27 = 26) by decide)]; exact width_cut hb x) s.length 0 s (by omega)
  rw [this]
  simp
theorem sums_eq (l : List (List Int)) (n : Nat) (b : Int) : (addRows l (List.replicate n 0)).map (cutv (half b)) = sumsA l n b := by
  have e : addRows l (List.replicate n 0) = (List.range n).map fun k => colSum l k 0 := by
    refine list_rd (by rw [addRows_length, List.length_replicate, List.length_map, List.length_range]) (fun k hk => ?_)
    rw [addRows_length, List.length_replicate] at hk
    rw [addRows_rd l _ k (by rw [List.length_replicate]; exact hk), rd_nat _ k (by rw [List.length_replicate]; exact hk), List.getElem_replicate, rd_nat _ k (by rw [List.length_map, List.length_range]; exact hk), List.getElem_map, List.getElem_range]
  rw [e, List.map_map]; rfl
theorem add_spec (l : List (List Int)) (b : Int) (hl : l.length ≤ 12) (hr : ∀ x ∈ l, x.length ≤ 65536) (K : Nat) (hK : 2 ≤ K) : mix_Add.f K l b = some (addA l b) := by
  unfold mix_Add.f addA
  rw [width_good, Option.bind_some]
  have ha : l.any longB = false := by
    rw [List.any_eq_false]
    intro x hx
    have := hr x hx
    unfold longB
    simp; omega
  by_cases hb : BitsOk b
  · rw [decide_eq_true hb, if_pos rfl]
    by_cases hn : 1 ≤ l.length ∧ l.length ≤ 8
    · have hw : mix_within.f (l.length : Int) 1 8 = some true := by unfold mix_within.f; rw [if_pos (by omega), decide_eq_true (by omega)]
      rw [hw, Option.bind_some, if_pos rfl, ha, if_neg (show ¬ (false = true) by decide), if_pos (show BitsOk b ∧ 1 ≤ l.length ∧ l.length ≤ 8 from ⟨hb, hn⟩)]
      by_cases hu : l.any (unlikeB (l.headD []).length) = true
      · rw [if_pos hu, if_pos hu]
      · rw [if_neg hu, if_neg hu, addGo_spec K hK l _ hr]
        by_cases hq : loudL l = true
        · rw [if_pos hq, if_pos hq, Option.bind_some, if_neg (by decide)]
        · rw [if_neg hq, if_neg hq, Option.bind_some, if_pos rfl]
          show (eachA stMix (addRows l (List.replicate (l.headD []).length 0)).length _ (addRows l (List.replicate (l.headD []).length 0))).bind _ = _
          rw [cut_spec _ b hb, Option.bind_some, sums_eq]
    · have hw : mix_within.f (l.length : Int) 1 8 = some false := by
        unfold mix_within.f
        by_cases h1 : (l.length : Int) ≥ 1
        · rw [if_pos h1, decide_eq_false (by omega)]
        · rw [if_neg h1]
      rw [hw, Option.bind_some, if_neg (by decide), if_neg (fun h => hn h.2)]
  · rw [decide_eq_false hb, if_neg (by decide), Option.bind_some, if_neg (by decide), if_neg (fun h => hb h.1)]
/-! The document's. -/
theorem ref_l4 (l : List (List Int)) (b : Int) (hb : BitsOk b) (hl : l.length ≤ 12) (n : Nat) (hs : ∀ x ∈ l, x.length = n) (k : Nat) (hk : k < n) (hn : n ≤ 65536) (R : Nat) (hR60 : 60 ≤ R) (acc : List Int) (ha : acc.length < 1000000) (res : Option (List Int × Int)) (hR : ∀ K, R ≤ K → sackbutref22_Add.l3 K l b (acc ++ [cutv (half b) (colSum l k 0)]) (n : Int) (((k + 1 : Nat) : Int)) = res) :
    ∀ (d K j : Nat) (s : Int), j + d = l.length → d + R + 1 ≤ K → colSum (l.drop j) k s = colSum l k 0 → sackbutref22_Add.l4 K l b acc (k : Int) s (n : Int) (k : Int) (l.length : Int) (j : Int) = res := by
  intro d
  induction d with
  | zero =>
    intro K j s hj hK hc
    obtain ⟨K, rfl⟩ : ∃ m, K = m + 1 := ⟨K - 1, by omega⟩
    rw [List.drop_eq_nil_of_le (by omega)] at hc
    have hc' : s = colSum l k 0 := hc
    simp only [sackbutref22_Add.l4]
    rw [if_neg (by omega), ref_cut hb s K (by omega), Option.bind_some, if_pos (by omega), wrap_id (by omega) (by omega), hc']
    have := hR K (by omega)
    rwa [show ((k + 1 : Nat) : Int) = (k : Int) + 1 by omega] at this
  | succ d ih =>
    intro K j s hj hK hc
    obtain ⟨K, rfl⟩ : ∃ m, K = m + 1 := ⟨K - 1, by omega⟩
    have hj' : j < l.length := by omega
    have hx := hs _ (List.getElem_mem hj')
    rw [List.drop_eq_getElem_cons hj'] at hc
    simp only [sackbutref22_Add.l4]
    rw [if_pos (by omega), if_pos (by omega), if_pos (by omega), if_pos (by omega), rd1_nat l j hj', if_pos (by omega), wrap_id (x := (j : Int) + 1) (by omega) (by omega)]
    have := ih K (j + 1) (wrap64 (s + rd l[j] (k : Int))) (by omega) (by omega) hc
    rwa [show ((j + 1 : Nat) : Int) = (j : Int) + 1 by omega] at this
theorem ref_l3 (l : List (List Int)) (b : Int) (hb : BitsOk b) (hl : l.length ≤ 12) (n : Nat) (hs : ∀ x ∈ l, x.length = n) (hn : n ≤ 65536) : ∀ (d K k : Nat) (acc : List Int), k + d = n → d * 20 + 100 ≤ K → acc.length + d < 1000000 → sackbutref22_Add.l3 K l b acc (n : Int) (k : Int) = some (acc ++ (List.range' k d).map (fun k => cutv (half b) (colSum l k 0)), 0) := by
  intro d
  induction d with
  | zero =>
    intro K k acc hk hK ha
    obtain ⟨K, rfl⟩ : ∃ m, K = m + 1 := ⟨K - 1, by omega⟩
    simp only [sackbutref22_Add.l3]
    rw [if_neg (by omega)]; simp
  | succ d ih =>
    intro K k acc hk hK ha
    obtain ⟨K, rfl⟩ : ∃ m, K = m + 1 := ⟨K - 1, by omega⟩
    simp only [sackbutref22_Add.l3]
    rw [if_pos (by omega)]
    have := ref_l4 l b hb hl n hs k (by omega) hn (d * 20 + 100) (by omega) acc (by omega) _ (fun K hK => ih K (k + 1) (acc ++ [cutv (half b) (colSum l k 0)]) (by omega) hK (by simp; omega)) l.length K 0 0 (by omega) (by omega) (by rw [List.drop_zero])
    rw [show ((0 : Nat) : Int) = 0 from rfl] at this
    rw [this, List.range'_succ, List.map_cons, List.append_assoc]; rfl
theorem head_zero (l : List (List Int)) (h : 1 ≤ l.length) : rd_L1 l 0 = l.headD [] := by
  cases l with
  | nil => simp at h
  | cons x l => rfl
theorem ref_l2 (l : List (List Int)) (b : Int) (hb : BitsOk b) (h1 : 1 ≤ l.length) (hl : l.length ≤ 12) (n : Nat) (hh : (l.headD []).length = n) (hs : ∀ x ∈ l, x.length = n) (hn : n ≤ 100) : ∀ (d K j : Nat), j + d = l.length → d + 70000 ≤ K → sackbutref22_Add.l2 K l b (l.length : Int) (j : Int) = some (if loudL (l.drop j) then ([], 9) else (sumsA l n b, 0)) := by
  intro d
  induction d with
  | zero =>
    intro K j hj hK
    obtain ⟨K, rfl⟩ : ∃ m, K = m + 1 := ⟨K - 1, by omega⟩
    simp only [sackbutref22_Add.l2]
    have := ref_l3 l b hb hl n hs (by omega) n K 0 [] (by omega) (by omega) (by simp; omega)
    rw [show ((0 : Nat) : Int) = 0 from rfl] at this
    rw [if_neg (by omega), if_pos (by omega), head_zero l h1, hh, this, List.drop_eq_nil_of_le (by omega), List.nil_append, ← List.range_eq_range']
    rfl
  | succ d ih =>
    intro K j hj hK
    obtain ⟨K, rfl⟩ : ∃ m, K = m + 1 := ⟨K - 1, by omega⟩
    have hj' : j < l.length := by omega
    have hx := hs _ (List.getElem_mem hj')
    simp only [sackbutref22_Add.l2]
    rw [if_pos (by omega), if_pos (by omega), if_pos (by omega), rd1_nat l j hj', ref_check l[j] K (by omega), Option.bind_some, wrap_id (by omega) (by omega)]
    have := ih K (j + 1) (by omega) (by omega)
    rw [show ((j + 1 : Nat) : Int) = (j : Int) + 1 by omega] at this
    rw [this, List.drop_eq_getElem_cons hj']
    unfold code loudL
    rw [if_neg (show ¬ ((l[j].length : Int) > 65536) by omega), List.any_cons]
    cases l[j].any loudB with
    | true => rw [if_neg (show ¬ ((if true = true then (9 : Int) else 0) = 0) by decide), Bool.true_or, if_pos rfl, if_pos rfl]
    | false => rw [if_pos (show (if false = true then (9 : Int) else 0) = 0 by rfl), Bool.false_or]
theorem ref_l1 (l : List (List Int)) (b : Int) (hb : BitsOk b) (h1 : 1 ≤ l.length) (hl : l.length ≤ 12) (hr : ∀ x ∈ l, x.length ≤ 100) : ∀ (d K j : Nat), j + d = l.length → d + 70100 ≤ K → (∀ x ∈ l.take j, x.length = (l.headD []).length) → sackbutref22_Add.l1 K l b (l.length : Int) (j : Int) = some (if (l.drop j).any (unlikeB (l.headD []).length) = true then ([], 8) else if loudL l then ([], 9) else (sumsA l (l.headD []).length b, 0)) := by
  have hh : (l.headD []).length ≤ 100 := by
    have := rd1_nat l 0 (by omega)
    rw [show ((0 : Nat) : Int) = 0 from rfl] at this
    rw [← head_zero l h1, this]; exact hr _ (List.getElem_mem _)
  intro d
  induction d with
  | zero =>
    intro K j hj hK ht
    obtain ⟨K, rfl⟩ : ∃ m, K = m + 1 := ⟨K - 1, by omega⟩
    rw [List.take_of_length_le (by omega)] at ht
    simp only [sackbutref22_Add.l1]
    have := ref_l2 l b hb h1 hl _ rfl ht hh l.length K 0 (by omega) (by omega)
    rw [show ((0 : Nat) : Int) = 0 from rfl, List.drop_zero] at this
    rw [if_neg (by omega), this, List.drop_eq_nil_of_le (by omega)]
    rfl
  | succ d ih =>
    intro K j hj hK ht
    obtain ⟨K, rfl⟩ : ∃ m, K = m + 1 := ⟨K - 1, by omega⟩
    have hj' : j < l.length := by omega
    simp only [sackbutref22_Add.l1]
    rw [if_pos (by omega), if_pos (by omega), if_pos (by omega), if_pos (by omega), rd1_nat l j hj', head_zero l h1, List.drop_eq_getElem_cons hj', List.any_cons, wrap_id (by omega) (by omega)]
    by_cases he : (l[j].length : Int) = ((l.headD []).length : Int)
    · have := ih K (j + 1) (by omega) (by omega) (fun x hx => by
        rw [List.take_succ_eq_append_getElem hj'] at hx
        rcases List.mem_append.1 hx with hx | hx
        · exact ht x hx
        · rw [List.mem_singleton.1 hx]; omega)
      rw [show ((j + 1 : Nat) : Int) = (j : Int) + 1 by omega] at this
      have hu : unlikeB (l.headD []).length l[j] = false := by unfold unlikeB; exact decide_eq_false (by simpa using he)
      rw [if_pos he, this, hu, Bool.false_or]
    · have hu : unlikeB (l.headD []).length l[j] = true := by unfold unlikeB; exact decide_eq_true he
      rw [if_neg he, hu, Bool.true_or, if_pos rfl]
theorem ref_l0 (l : List (List Int)) (b : Int) (hb : BitsOk b) (h1 : 1 ≤ l.length) (hl : l.length ≤ 12) (hr : ∀ x ∈ l, x.length ≤ 100) : ∀ (d K j : Nat), j + d = l.length → d + 70200 ≤ K → sackbutref22_Add.l0 K l b (l.length : Int) (j : Int) = some (if l.any (unlikeB (l.headD []).length) = true then ([], 8) else if loudL l then ([], 9) else (sumsA l (l.headD []).length b, 0)) := by
  intro d
  induction d with
  | zero =>
    intro K j hj hK
    obtain ⟨K, rfl⟩ : ∃ m, K = m + 1 := ⟨K - 1, by omega⟩
    simp only [sackbutref22_Add.l0]
    have := ref_l1 l b hb h1 hl hr l.length K 0 (by omega) (by omega) (by simp)
    rw [show ((0 : Nat) : Int) = 0 from rfl, List.drop_zero] at this
    rw [if_neg (by omega), this]
  | succ d ih =>
    intro K j hj hK
    obtain ⟨K, rfl⟩ : ∃ m, K = m + 1 := ⟨K - 1, by omega⟩
    have hj' : j < l.length := by omega
    have hx := hr _ (List.getElem_mem hj')
    simp only [sackbutref22_Add.l0]
    rw [if_pos (by omega), if_pos (by omega), if_pos (by omega), rd1_nat l j hj', if_neg (by omega), wrap_id (by omega) (by omega)]
    have := ih K (j + 1) (by omega) (by omega)
    rwa [show ((j + 1 : Nat) : Int) = (j : Int) + 1 by omega] at this
theorem ref_add_spec (l : List (List Int)) (b : Int) (hl : l.length ≤ 12) (hr : ∀ x ∈ l, x.length ≤ 100) (K : Nat) (hK : 80000 ≤ K) : sackbutref22_Add.f K l b = some (addA l b) := by
  have no : sackbutref22_Add.j0 K l b true = some ([], 1) := by
    obtain ⟨K, rfl⟩ : ∃ m, K = m + 1 := ⟨K - 1, by omega⟩
    simp only [sackbutref22_Add.j0, if_true]
  unfold sackbutref22_Add.f addA
  rw [ref_bits, Option.bind_some]
  by_cases hb : BitsOk b
  · rw [decide_eq_true hb, if_pos rfl]
    by_cases h1 : (l.length : Int) < 1
    · rw [if_pos h1, no, if_neg (by omega)]
    · rw [if_neg h1]
      by_cases h8 : (l.length : Int) > 8
      · rw [decide_eq_true h8, no, if_neg (by omega)]
      · rw [decide_eq_false h8, if_pos ⟨hb, by omega⟩]
        obtain ⟨K, rfl⟩ : ∃ m, K = m + 1 := ⟨K - 1, by omega⟩
        simp only [sackbutref22_Add.j0]
        have := ref_l0 l b hb (by omega) hl hr l.length K 0 (by omega) (by omega)
        rw [show ((0 : Nat) : Int) = 0 from rfl] at this
        rw [if_neg (by decide), this]
  · rw [decide_eq_false hb, if_neg (by decide), no, if_neg (fun h => hb h.1)]
end Go.Proofs.Ytnfhfmimeaeoiaa.MixSpec
