/- MixThins in plain numbers and lists. By this project's prover (an AI agent). -/
import Derived.Test.YtnfhfmimeaeoiaaMixSpec
import Derived.Test.YtnfhfmimeaeoiaaHMx22
namespace Go.Proofs.Ytnfhfmimeaeoiaa.Pure
open Go Go.RowKit Go.Proofs.Ytnfhfmimeaeoiaa.HM Go.Proofs.Ytnfhfmimeaeoiaa.MixSpec Go.Proofs.YtnfhfmimeaeoiaaW.PrintWords Go.Proofs.YtnfhfmimeaeoiaaW.PrintLast
def ByOk (b : Int) : Prop := 1 ≤ b ∧ b ≤ 1000
instance (b : Int) : Decidable (ByOk b) := by unfold ByOk; infer_instance
theorem within_by (b : Int) : mix_within.f b 1 1000 = some (decide (ByOk b)) := by
  unfold mix_within.f
  by_cases h : b ≥ 1
  · rw [if_pos h]; exact congrArg some (decide_eq_decide.mpr (by unfold ByOk; omega))
  · rw [if_neg h]; exact congrArg some (decide_eq_false (by unfold ByOk; omega)).symm
def thinA (l : List Int) (b : Int) : List Int × Int := if ByOk b then (if code l = 0 then (thins l b.toNat, 0) else ([], code l)) else ([], 1)
theorem thin_spec (l : List Int) (b : Int) (K : Nat) (hK : 2 ≤ K) : mix_Thin.f K l b = some (thinA l b) := by
  unfold mix_Thin.f thinA
  rw [within_by, Option.bind_some]
  by_cases h : ByOk b
  · rw [decide_eq_true h, check_true l K hK, Option.bind_some, if_pos h]
    split <;> rfl
  · rw [decide_eq_false h, check_false l K hK, Option.bind_some, if_neg (by decide), if_neg h]
theorem sumTo_zero (l : List Int) (o : Nat) : sumTo l o 0 = 0 := by unfold sumTo; simp
theorem sumTo_next (l : List Int) (o j : Nat) (h : o + j < l.length) : sumTo l o (j + 1) = wrap64 (sumTo l o j + l[o + j]) := by
  unfold sumTo
  rw [List.take_succ_eq_append_getElem (by simp; omega), List.foldl_append]
  simp
theorem ref_l1 (l : List Int) (hl : l.length ≤ 65536) (n : Nat) (hn : 1 ≤ n ∧ n ≤ 1000) (k : Nat) (hk : k * n < l.length) (acc : List Int) (ha : acc.length < 100000) : ∀ (d K j : Nat), j + d = min n (l.length - k * n) → d < K → sackbutref22_Thin.l1 K l (n : Int) acc ((k * n : Nat) : Int) (sumTo l (k * n) j) (j : Int) ((k * n + j : Nat) : Int) = sackbutref22_Thin.l0 (K - d - 1) l (n : Int) (acc ++ [thinAt l n k]) (((k + 1) * n : Nat) : Int) := by
  intro d
  have hs : (k + 1) * n = k * n + n := Nat.succ_mul k n
  generalize (k + 1) * n = p at *
  have hth : ∀ m, m = min n (l.length - k * n) → thinAt l n k = wrap64 (Int.tdiv (sumTo l (k * n) m) (m : Int)) := fun m e => by rw [e]; rfl
  generalize k * n = o at *
  subst hs
  induction d with
  | zero =>
    intro K j hj hK
    obtain ⟨K, rfl⟩ : ∃ m, K = m + 1 := ⟨K - 1, by omega⟩
    simp only [sackbutref22_Thin.l1]
    rw [wrap_id (x := (o : Int) + (n : Int)) (by omega) (by omega), hth j (by omega)]
    by_cases h : ((o + j : Nat) : Int) < (o : Int) + (n : Int)
    · rw [if_pos h, if_neg (by omega), if_neg (by omega), if_pos (by omega)]
      rw [show K + 1 - 0 - 1 = K by omega, show ((o + n : Nat) : Int) = (o : Int) + (n : Int) by omega]
    · rw [if_neg h, if_neg (by omega), if_pos (by omega)]
      rw [show K + 1 - 0 - 1 = K by omega, show ((o + n : Nat) : Int) = (o : Int) + (n : Int) by omega]
  | succ d ih =>
    intro K j hj hK
    obtain ⟨K, rfl⟩ : ∃ m, K = m + 1 := ⟨K - 1, by omega⟩
    simp only [sackbutref22_Thin.l1]
    rw [wrap_id (x := (o : Int) + (n : Int)) (by omega) (by omega), if_pos (by omega), if_pos (by omega), if_pos (by omega), rd_nat l (o + j) (by omega), ← sumTo_next l o j (by omega), wrap_id (x := (j : Int) + 1) (by omega) (by omega), wrap_id (by omega) (by omega)]
    have := ih K (j + 1) (by omega) (by omega)
    rw [show ((j + 1 : Nat) : Int) = (j : Int) + 1 by omega, show ((o + (j + 1) : Nat) : Int) = ((o + j : Nat) : Int) + 1 by omega] at this
    rw [this, show K + 1 - (d + 1) - 1 = K - d - 1 by omega]
theorem chunks_iff (len n k : Nat) (hn : 1 ≤ n) : k < (len + n - 1) / n ↔ k * n < len := by
  rw [← Nat.succ_le_iff, Nat.le_div_iff_mul_le (by omega), Nat.succ_mul]; omega
theorem ref_l0 (l : List Int) (hl : l.length ≤ 65536) (n : Nat) (hn : 1 ≤ n ∧ n ≤ 1000) : ∀ (c K k : Nat) (acc : List Int), k + c = (l.length + n - 1) / n → c * (n + 2) < K → acc.length + c < 100000 → sackbutref22_Thin.l0 K l (n : Int) acc ((k * n : Nat) : Int) = some (acc ++ (List.range' k c).map (thinAt l n), 0) := by
  intro c
  induction c with
  | zero =>
    intro K k acc hk hK ha
    obtain ⟨K, rfl⟩ : ∃ m, K = m + 1 := ⟨K - 1, by omega⟩
    have : ¬ (k * n < l.length) := fun h => by have := (chunks_iff l.length n k hn.1).2 h; omega
    simp only [sackbutref22_Thin.l0]
    rw [if_neg (by omega)]; simp
  | succ c ih =>
    intro K k acc hk hK ha
    rw [Nat.succ_mul] at hK
    obtain ⟨K, rfl⟩ : ∃ m, K = m + 1 := ⟨K - 1, by omega⟩
    have h : k * n < l.length := (chunks_iff l.length n k hn.1).1 (by omega)
    simp only [sackbutref22_Thin.l0]
    rw [if_pos (by omega)]
    have h1 := ref_l1 l hl n hn k h acc (by omega) (min n (l.length - k * n)) K 0 (by omega) (by omega)
    rw [sumTo_zero] at h1
    rw [show ((k * n + 0 : Nat) : Int) = ((k * n : Nat) : Int) by rw [Nat.add_zero], show ((0 : Nat) : Int) = 0 from rfl] at h1
    rw [h1, ih _ (k + 1) _ (by omega) (by omega) (by simp; omega), List.range'_succ, List.map_cons]
    simp
theorem ref_thin_spec (l : List Int) (b : Int) (hl : l.length ≤ 60) : sackbutref22_Thin.f 200000 l b = some (thinA l b) := by
  have no : sackbutref22_Thin.j0 200000 l b true = some ([], 1) := by
    rw [show (200000 : Nat) = 199999 + 1 from rfl]
    simp only [sackbutref22_Thin.j0, if_true]
  unfold sackbutref22_Thin.f thinA
  by_cases h : ByOk b
  · have hb := h
    unfold ByOk at hb
    rw [if_neg (by omega), decide_eq_false (by omega), if_pos h]
    rw [show (200000 : Nat) = 199999 + 1 from rfl]
    simp only [sackbutref22_Thin.j0]
    rw [if_neg (by decide), ref_check l _ (by omega), Option.bind_some]
    by_cases h0 : code l = 0
    · rw [if_pos h0, if_pos h0]
      obtain ⟨n, rfl⟩ : ∃ n : Nat, b = (n : Int) := ⟨b.toNat, by omega⟩
      have hc : (l.length + n - 1) / n ≤ 60 := by
        refine Nat.le_of_lt_succ (Nat.div_lt_of_lt_mul ?_)
        have : n * (60 + 1) = 60 * n + n := by omega
        have : 60 ≤ 60 * n := by omega
        omega
      have hm : (l.length + n - 1) / n * (n + 2) ≤ 60 * 1002 := Nat.mul_le_mul hc (by omega)
      have := ref_l0 l (by omega) n (by omega) ((l.length + n - 1) / n) 199999 0 [] (by omega) (by omega) (by simp; omega)
      rw [show ((0 * n : Nat) : Int) = 0 by simp] at this
      rw [this, List.nil_append, Int.toNat_natCast, ← List.range_eq_range']
      rfl
    · rw [if_neg h0, if_neg h0]
  · rw [if_neg h]
    unfold ByOk at h
    by_cases h1 : b < 1
    · rw [if_pos h1]; exact no
    · rw [if_neg h1, decide_eq_true (by omega)]; exact no
def thick (l : List Int) (n : Nat) : List Int := l.flatMap (List.replicate n)
theorem thick_len (l : List Int) (n : Nat) : (thick l n).length = l.length * n := by
  unfold thick
  induction l with
  | nil => simp
  | cons a l ih => rw [List.flatMap_cons, List.length_append, ih, List.length_replicate, List.length_cons, Nat.succ_mul]; omega
theorem thick_loop (l : List Int) (n : Nat) (hn : 1 ≤ n ∧ n ≤ 1000) (hl : l.length ≤ 60) : ∀ (d K j : Nat) (acc : List Int), j + d = l.length → d < K → acc.length + d * 1000 < 10000000 → mix_Thick.l0 K (n : Int) acc l (l.length : Int) (j : Int) = some (acc ++ thick (l.drop j) n, 0) := by
  intro d
  induction d with
  | zero =>
    intro K j acc hj hK ha
    obtain ⟨K, rfl⟩ : ∃ m, K = m + 1 := ⟨K - 1, by omega⟩
    simp only [mix_Thick.l0]
    rw [if_neg (by omega), List.drop_eq_nil_of_le (by omega)]; simp [thick]
  | succ d ih =>
    intro K j acc hj hK ha
    obtain ⟨K, rfl⟩ : ∃ m, K = m + 1 := ⟨K - 1, by omega⟩
    have hj' : j < l.length := by omega
    simp only [mix_Thick.l0, slices_Repeat_int_int.f]
    rw [if_pos (by omega), if_pos (by omega), if_pos (by omega), if_pos (by exact ⟨rfl, by omega, by omega⟩), Option.bind_some, Int.toNat_natCast, if_pos (by rw [List.length_replicate]; omega), wrap_id (by omega) (by omega)]
    have := ih K (j + 1) (acc ++ List.replicate n (rd [rd l (j : Int)] 0)) (by omega) (by omega) (by rw [List.length_append, List.length_replicate]; omega)
    rw [show ((j + 1 : Nat) : Int) = (j : Int) + 1 by omega] at this
    rw [this, List.drop_eq_getElem_cons hj']
    unfold thick
    rw [List.flatMap_cons, List.append_assoc, rd_nat l j hj']
    rfl
def thickA (l : List Int) (b : Int) : List Int × Int := if ByOk b then (if code l = 0 then (thick l b.toNat, 0) else ([], code l)) else ([], 1)
theorem thick_spec (l : List Int) (b : Int) (K : Nat) (hK : 200 ≤ K) (hl : l.length ≤ 60) : mix_Thick.f K l b = some (thickA l b) := by
  unfold mix_Thick.f thickA
  rw [within_by, Option.bind_some]
  by_cases h : ByOk b
  · have hb := h
    unfold ByOk at hb
    have hm : mx b 1 = b := by unfold mx; split <;> omega
    have hd : (l.length : Int) ≤ 65536 / b := by
      refine Int.le_ediv_of_mul_le (by omega) ?_
      have : (l.length : Int) * b ≤ 60 * 1000 := Int.mul_le_mul (by omega) (by omega) (by omega) (by omega)
      omega
    rw [decide_eq_true h, if_pos rfl, hm, if_neg (by omega), decide_eq_true hd, check_true l K (by omega), Option.bind_some, if_pos h]
    obtain ⟨K, rfl⟩ : ∃ m, K = m + 1 := ⟨K - 1, by omega⟩
    simp only [mix_Thick.j0]
    by_cases h0 : code l = 0
    · rw [if_pos h0, if_pos h0]
      obtain ⟨n, rfl⟩ : ∃ n : Nat, b = (n : Int) := ⟨b.toNat, by omega⟩
      have := thick_loop l n (by omega) hl l.length K 0 [] (by omega) (by omega) (by simp; omega)
      simpa using this
    · rw [if_neg h0, if_neg h0]
  · rw [decide_eq_false h, if_neg (by decide), check_false l K (by omega), Option.bind_some, if_neg h]
    obtain ⟨K, rfl⟩ : ∃ m, K = m + 1 := ⟨K - 1, by omega⟩
    simp only [mix_Thick.j0]
    rw [if_neg (by decide)]
theorem thick_get (n : Nat) (hn : 1 ≤ n) : ∀ (l : List Int) (i : Nat), i < l.length * n → (thick l n)[i]? = l[i / n]? := by
  intro l
  induction l with
  | nil => intro i h; simp at h
  | cons a l ih =>
    intro i h
    rw [List.length_cons, Nat.succ_mul] at h
    unfold thick
    rw [List.flatMap_cons]
    by_cases hi : i < n
    · rw [List.getElem?_append_left (by simpa using hi), Nat.div_eq_of_lt hi, List.getElem?_replicate, if_pos hi]; rfl
    · rw [List.getElem?_append_right (by simp; omega), List.length_replicate]
      have := ih (i - n) (by omega)
      unfold thick at this
      rw [this, show i / n = (i - n) / n + 1 by rw [← Nat.add_div_right _ (by omega)]; congr 1; omega, List.getElem?_cons_succ]
theorem thick_drop (n : Nat) : ∀ (k : Nat) (l : List Int), (thick l n).drop (k * n) = thick (l.drop k) n
  | 0, l => by simp
  | k + 1, [] => by simp [thick]
  | k + 1, a :: l => by
    have := thick_drop n k l
    rw [List.drop_succ_cons, ← this, Nat.succ_mul]
    unfold thick
    rw [List.flatMap_cons, Nat.add_comm (k * n) n, ← List.drop_drop, List.drop_left' (by simp)]
theorem fold_rep (v : Int) (hv : -67108864 ≤ v ∧ v ≤ 67108864) : ∀ (n m : Nat) (s : Int), n + m ≤ 1000 → -67108864 * (m : Int) ≤ s ∧ s ≤ 67108864 * (m : Int) → (List.replicate n v).foldl (fun s v => wrap64 (s + v)) s = s + (n : Int) * v
  | 0, m, s, _, _ => by simp
  | n + 1, m, s, hm, hs => by
    rw [List.replicate_succ, List.foldl_cons, wrap_id (by omega) (by omega), fold_rep v hv n (m + 1) (s + v) (by omega) (by omega), show ((n + 1 : Nat) : Int) = (n : Int) + 1 by omega, Int.add_mul]
    omega
theorem code_fit {l : List Int} (h : code l = 0) : ∀ x ∈ l, -67108864 ≤ x ∧ x ≤ 67108864 := by
  intro x hx
  unfold code at h
  rw [if_neg (by have := code_len (l := l) h; omega)] at h
  have hn : l.any loudB = false := by
    cases e : l.any loudB with
    | true => rw [e, if_pos rfl] at h; cases h
    | false => rfl
  have := List.any_eq_false.1 hn x hx
  simp [loudB] at this
  omega
theorem thick_code {l : List Int} (n : Nat) (hn : n ≤ 1000) (hl : l.length ≤ 60) (h : code l = 0) : code (thick l n) = 0 := by
  have hm : l.length * n ≤ 60 * 1000 := Nat.mul_le_mul hl hn
  unfold code
  rw [if_neg (by rw [thick_len]; omega), if_neg]
  simp only [List.any_eq_true, not_exists, not_and]
  intro x hx
  unfold thick at hx
  obtain ⟨y, hy, hx⟩ := List.mem_flatMap.1 hx
  obtain ⟨_, rfl⟩ := List.mem_replicate.1 hx
  have := code_fit h x hy
  simp [loudB]; omega
theorem thin_thick {l : List Int} (n : Nat) (hn : 1 ≤ n ∧ n ≤ 1000) (h : code l = 0) : thins (thick l n) n = l := by
  have hlen : (l.length * n + n - 1) / n = l.length := by
    exact Nat.div_eq_of_lt_le (by omega) (by rw [Nat.succ_mul]; omega)
  unfold thins
  rw [thick_len, hlen]
  refine List.ext_getElem (by simp) ?_
  intro k h1 h2
  simp only [List.getElem_map, List.getElem_range]
  unfold thinAt sumTo
  have hm : min n ((thick l n).length - k * n) = n := by
    rw [thick_len]
    have : (k + 1) * n ≤ l.length * n := Nat.mul_le_mul_right n h2
    rw [Nat.succ_mul] at this
    omega
  have hv := code_fit h l[k] (List.getElem_mem h2)
  have hb : -67108864 * (n : Int) ≤ (n : Int) * l[k] ∧ (n : Int) * l[k] ≤ 67108864 * (n : Int) := by
    have a1 := Int.mul_le_mul_of_nonneg_left (c := (n : Int)) hv.1 (by omega)
    have a2 := Int.mul_le_mul_of_nonneg_left (c := (n : Int)) hv.2 (by omega)
    omega
  rw [hm, thick_drop, List.drop_eq_getElem_cons h2]
  unfold thick
  rw [List.flatMap_cons, List.take_append_of_le_length (by simp), List.take_of_length_le (by simp), fold_rep l[k] hv n 0 0 (by omega) (by omega), Int.zero_add, Int.mul_tdiv_cancel_left _ (by omega), wrap_id (by omega) (by omega)]
theorem rd_some {l : List Int} {i : Nat} (h : i < l.length) : l[i]? = some (rd l (i : Int)) := by rw [rd_nat l i h, List.getElem?_eq_getElem h]
theorem law_l0 (l : List Int) (hl : l.length ≤ 60) (n : Nat) (hn : 1 ≤ n ∧ n ≤ 1000) (h0 : code l = 0) : ∀ (d K i : Nat), i + d = l.length * n → d + 100 < K → sackbutlaw22_MixThins.l0 K l (n : Int) (thick l n) 0 (thick l n) ((thick l n).length : Int) (i : Int) = some true := by
  intro d
  have hm : l.length * n ≤ 60 * 1000 := Nat.mul_le_mul hl hn.2
  have htl := thick_len l n
  induction d with
  | zero =>
    intro K i hi hK
    obtain ⟨K, rfl⟩ : ∃ m, K = m + 1 := ⟨K - 1, by omega⟩
    have ht : thinA (thick l n) (n : Int) = (l, 0) := by
      unfold thinA
      rw [if_pos (by unfold ByOk; omega), if_pos (thick_code n hn.2 hl h0), Int.toNat_natCast, thin_thick n hn h0]
    simp only [sackbutlaw22_MixThins.l0]
    rw [if_neg (by omega), thin_spec _ _ K (by omega), Option.bind_some, if_pos trivial, ht, htl]
    have hp : ((l.length * n : Nat) : Int) = (l.length : Int) * (n : Int) := Int.natCast_mul _ _
    rw [← hp, wrap_id (by omega) (by omega), if_pos rfl, if_pos rfl, same_self l (by omega) _ (by omega), Option.bind_some]
  | succ d ih =>
    intro K i hi hK
    obtain ⟨K, rfl⟩ : ∃ m, K = m + 1 := ⟨K - 1, by omega⟩
    have hq : i / n < l.length := Nat.div_lt_of_lt_mul (by rw [Nat.mul_comm]; omega)
    have he : rd (thick l n) (i : Int) = rd l ((i / n : Nat) : Int) := by
      have := thick_get n hn.1 l i (by omega)
      rw [rd_some (by omega), rd_some hq] at this
      exact Option.some.inj this
    have hqe : Int.tdiv (i : Int) (n : Int) = ((i / n : Nat) : Int) := rfl
    generalize i / n = q at *
    simp only [sackbutlaw22_MixThins.l0]
    rw [if_pos (by omega), if_pos (by omega), if_pos (by omega), if_neg (by omega), hqe, wrap_id (x := (q : Int)) (by omega) (by omega), if_neg (by omega), if_pos (by omega), if_pos (by omega)]
    rw [if_pos he, wrap_id (by omega) (by omega)]
    have := ih K (i + 1) (by omega) (by omega)
    rwa [show ((i + 1 : Nat) : Int) = (i : Int) + 1 by omega] at this
theorem thinA_len (l : List Int) (b : Int) (hl : l.length ≤ 60) : (thinA l b).1.length ≤ 60 := by
  unfold thinA
  split
  · split
    · rename_i h _
      unfold ByOk at h
      unfold thins
      simp only [List.length_map, List.length_range]
      refine Nat.le_of_lt_succ (Nat.div_lt_of_lt_mul ?_)
      have hn : 1 ≤ b.toNat := by omega
      generalize b.toNat = n at *
      have : n * (60 + 1) = 60 * n + n := by omega
      have : 60 ≤ 60 * n := by omega
      omega
    · simp
  · simp
theorem MixThins_j0 (l : List Int) (b : Int) (x : Bool) (hx : x = false → l.length ≤ 60) : sackbutlaw22_MixThins.j0 200001 l b x = some true := by
  rw [show (200001 : Nat) = 200000 + 1 from rfl]
  simp only [sackbutlaw22_MixThins.j0]
  by_cases h : x = true
  · rw [if_pos h, awake_ok _ (by omega), Option.bind_some]
  · have hl := hx (by simpa using h)
    rw [if_neg h, thin_spec l b _ (by omega), Option.bind_some, ref_thin_spec l b hl, Option.bind_some, if_pos rfl]
    have hg := thinA_len l b hl
    rw [same_self _ (by omega) _ (by omega), Option.bind_some]
    rw [show (200000 : Nat) = 199999 + 1 from rfl]
    simp only [sackbutlaw22_MixThins.j1]
    rw [if_neg (by decide), thick_spec l b _ (by omega) hl, Option.bind_some]
    rw [show (199999 : Nat) = 199998 + 1 from rfl]
    by_cases hb : ByOk b
    · have hb2 := hb
      unfold ByOk at hb2
      by_cases h0 : code l = 0
      · have e1 : thinA l b = (thins l b.toNat, 0) := by unfold thinA; rw [if_pos hb, if_pos h0]
        have e2 : thickA l b = (thick l b.toNat, 0) := by unfold thickA; rw [if_pos hb, if_pos h0]
        obtain ⟨n, rfl⟩ : ∃ n : Nat, b = (n : Int) := ⟨b.toNat, by omega⟩
        rw [Int.toNat_natCast] at e1 e2
        have hm : l.length * n ≤ 60 * 1000 := Nat.mul_le_mul hl (by omega)
        have hp : ((l.length * n : Nat) : Int) = (l.length : Int) * (n : Int) := Int.natCast_mul _ _
        rw [e1, e2]
        simp only []
        rw [if_pos trivial, ← hp, wrap_id (by omega) (by omega), decide_eq_false (by omega)]
        simp only [sackbutlaw22_MixThins.j2]
        rw [if_neg (by decide)]
        exact law_l0 l hl n (by omega) h0 (l.length * n) _ 0 (by omega) (by omega)
      · have e1 : thinA l b = ([], code l) := by unfold thinA; rw [if_pos hb, if_neg h0]
        have e2 : thickA l b = ([], code l) := by unfold thickA; rw [if_pos hb, if_neg h0]
        rw [e1, e2]
        simp only []
        rw [if_neg h0]
        simp only [sackbutlaw22_MixThins.j2]
        rw [if_pos trivial, if_neg h0]; rfl
    · have e1 : thinA l b = ([], 1) := by unfold thinA; rw [if_neg hb]
      have e2 : thickA l b = ([], 1) := by unfold thickA; rw [if_neg hb]
      rw [e1, e2]
      simp only []
      rw [if_neg (by decide)]
      simp only [sackbutlaw22_MixThins.j2]
      rw [if_pos trivial, if_neg (by decide)]; rfl
theorem MixThins : sackbutlaw22_MixThins.Pure := by
  intro l b hl _ _ _
  refine ⟨200001, ?_⟩
  unfold sackbutlaw22_MixThins.f
  rw [awake_ok _ (by omega), Option.bind_some, if_pos rfl]
  exact MixThins_j0 l b _ (fun h => by have := of_decide_eq_false h; omega)
end Go.Proofs.Ytnfhfmimeaeoiaa.Pure
