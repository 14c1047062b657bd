/- What the program's gains and fades come to, in plain numbers. By this project's prover (an AI agent). -/
import Derived.Test.YtnfhfmimeaeoiaaHMx11
import Derived.Test.YtnfhfmimeaeoiaaHMx10
import Derived.Test.YtnfhfmimeaeoiaaHMx7
import Derived.Test.YtnfhfmimeaeoiaaHMx2
namespace Go.Proofs.Ytnfhfmimeaeoiaa.MixSpec
open Go Go.RowKit Go.Proofs.Ytnfhfmimeaeoiaa.HM Go.Proofs.YtnfhfmimeaeoiaaW.PrintWords Go.Proofs.YtnfhfmimeaeoiaaW.PrintLast

theorem wrap_id {x : Int} (h0 : -9223372036854775808 ≤ x) (h1 : x < 9223372036854775808) : wrap64 x = x := by unfold wrap64; omega
theorem wrap_bounds (x : Int) : -9223372036854775808 ≤ wrap64 x ∧ wrap64 x < 9223372036854775808 := by unfold wrap64; omega
theorem rd_nat (l : List Int) (i : Nat) (h : i < l.length) : rd l (i : Int) = l[i] := by
  unfold rd; rw [Int.toNat_natCast, List.getD_eq_getElem?_getD, List.getElem?_eq_getElem h]; rfl
theorem mono_le {α : Type} {f : Nat → Option α} (h : ∀ k, LeO (f k) (f (k + 1))) {k K : Nat} (hk : k ≤ K) {r : α} (e : f k = some r) : f K = some r := by
  induction hk with
  | refl => exact e
  | step _ ih => exact h _ _ ih
theorem awake_ok (K : Nat) (hK : 60 ≤ K) : sackbutlaw22_awake.f K = some true := mono_le sackbutlaw22_awake.mono hK (by decide +kernel)
theorem same_self_loop (l : List Int) (hl : l.length ≤ 9223372036854775807) : ∀ (d K j : Nat), j + d = l.length → d < K → sackbutref01_Same.l0 K l l (l.length : Int) (j : Int) = some true := by
  intro d
  induction d with
  | zero =>
    intro K j hj hK
    obtain ⟨K, rfl⟩ : ∃ m, K = m + 1 := ⟨K - 1, by omega⟩
    simp only [sackbutref01_Same.l0]
    rw [if_neg (by omega)]
  | succ d ih =>
    intro K j hj hK
    obtain ⟨K, rfl⟩ : ∃ m, K = m + 1 := ⟨K - 1, by omega⟩
    simp only [sackbutref01_Same.l0]
    rw [if_pos (by omega), if_pos (by omega), if_pos (by omega), if_pos (by omega), if_pos trivial, wrap_id (by omega) (by omega)]
    have := ih K (j + 1) (by omega) (by omega)
    rwa [show ((j + 1 : Nat) : Int) = (j : Int) + 1 by omega] at this
theorem same_self (l : List Int) (hl : l.length ≤ 9223372036854775807) (K : Nat) (hK : l.length < K) : sackbutref01_Same.f K l l = some true := by
  unfold sackbutref01_Same.f
  rw [if_pos rfl]
  exact same_self_loop l hl l.length K 0 (by omega) hK

/-- A sample cut to the bits whose half range is p. -/
def cutv (p x : Int) : Int := if x > p - 1 then p - 1 else if x < -p then -p else x
def gainv (s x : Int) : Int := (wrap64 (wrap64 (x * s) + 128)) / 256
def half (b : Int) : Int := 2 ^ (b - 1).toNat
theorem scale_of (s x : Int) : mix_scale_of.f s x = some (gainv s x) := rfl
theorem ref_gain (s x : Int) : sackbutref22_Gain.f x s = some (gainv s x) := by
  unfold sackbutref22_Gain.f gainv
  obtain ⟨h0, h1⟩ := wrap_bounds (wrap64 (x * s) + 128)
  generalize wrap64 (wrap64 (x * s) + 128) = v at *
  have e : v = 256 * Int.tdiv v 256 + Int.tmod v 256 := (Int.mul_tdiv_add_tmod v 256).symm
  have hm : Int.tmod v 256 < 256 := Int.tmod_lt_of_pos v (by decide)
  have hm2 : -256 < Int.tmod v 256 := by
    have := Int.tmod_lt_of_pos (-v) (show (0 : Int) < 256 by decide)
    rw [Int.neg_tmod] at this; omega
  generalize Int.tdiv v 256 = q at *
  generalize Int.tmod v 256 = t at *
  rw [wrap_id (x := q) (by omega) (by omega)]
  by_cases h : t < 0
  · rw [if_pos h, wrap_id (by omega) (by omega)]; congr 1; omega
  · rw [if_neg h]; congr 1; omega
theorem half_shl : ∀ n : Nat, n < 26 → shl .i64 1 (n : Int) = 2 ^ n ∧ shl .i64 (-1) (n : Int) = -2 ^ n := by decide +kernel
theorem half_pow : ∀ n : Nat, n < 26 → sackbutref01_Power.f 60 (n : Int) = some (2 ^ n) := by decide +kernel
theorem half_le : ∀ n : Nat, n < 26 → (1 : Int) ≤ 2 ^ n ∧ (2 : Int) ^ n ≤ 33554432 := by decide +kernel
theorem half_bounds {b : Int} (h : 2 ≤ b ∧ b ≤ 26) : 1 ≤ half b ∧ half b ≤ 33554432 := half_le _ (by omega)
theorem width_cut {b : Int} (h : 2 ≤ b ∧ b ≤ 26) (x : Int) : mix_width_cut.f b x = some (cutv (half b) x) := by
  unfold mix_width_cut.f
  have e : b - 1 = (((b - 1).toNat : Nat) : Int) := by omega
  obtain ⟨h1, h2⟩ := half_shl (b - 1).toNat (by omega)
  rw [wrap_id (by omega) (by omega), if_pos (by omega)]
  rw [← e] at h1 h2
  have hb := half_bounds h
  rw [h1, h2]
  show some (mn (mx x (-half b)) (wrap64 (half b - 1))) = _
  rw [wrap_id (by omega) (by omega)]
  unfold cutv mn mx
  congr 1
  repeat' split
  all_goals omega
theorem ref_cut {b : Int} (h : 2 ≤ b ∧ b ≤ 26) (x : Int) (K : Nat) (hK : 60 ≤ K) : sackbutref22_Cut.f K x b = some (cutv (half b) x) := by
  unfold sackbutref22_Cut.f
  have e : b - 1 = (((b - 1).toNat : Nat) : Int) := by omega
  have h1 := half_pow (b - 1).toNat (by omega)
  rw [← e] at h1
  rw [wrap_id (by omega) (by omega), mono_le (sackbutref01_Power.mono _) hK h1, Option.bind_some]
  have hb := half_bounds h
  show (if x > wrap64 (half b - 1) then some (wrap64 (half b - 1)) else if x < wrap64 (wrap64 (-wrap64 (half b - 1)) - 1) then some (wrap64 (wrap64 (-wrap64 (half b - 1)) - 1)) else some x) = _
  rw [wrap_id (x := half b - 1) (by omega) (by omega), wrap_id (x := -(half b - 1)) (by omega) (by omega), wrap_id (x := -(half b - 1) - 1) (by omega) (by omega)]
  unfold cutv
  by_cases g1 : x > half b - 1
  · rw [if_pos g1, if_pos g1]
  · rw [if_neg g1, if_neg g1, show -(half b - 1) - 1 = -half b by omega]
    split <;> rfl

/-- Whether a fade of l by these is well asked: the number that tells what is wrong. -/
def GainOk (g : Int) : Prop := -65536 ≤ g ∧ g ≤ 65536
def BitsOk (b : Int) : Prop := 2 ≤ b ∧ b ≤ 26
instance (g : Int) : Decidable (GainOk g) := by unfold GainOk; infer_instance
instance (b : Int) : Decidable (BitsOk b) := by unfold BitsOk; infer_instance
theorem scale_good (g : Int) : mix_scale_good.f g = some (decide (GainOk g)) := by
  unfold mix_scale_good.f mix_within.f
  by_cases h : g ≥ -65536
  · rw [if_pos h, Option.bind_some]; exact congrArg some (decide_eq_decide.mpr (by unfold GainOk; omega))
  · rw [if_neg h, Option.bind_some]; exact congrArg some (decide_eq_false (by unfold GainOk; omega)).symm
theorem ref_good (g : Int) : sackbutref22_gain.f g = some (decide (GainOk g)) := by
  unfold sackbutref22_gain.f
  by_cases h : g ≥ -65536
  · rw [if_pos h]; exact congrArg some (decide_eq_decide.mpr (by unfold GainOk; omega))
  · rw [if_neg h]; exact congrArg some (decide_eq_false (by unfold GainOk; omega)).symm
theorem width_good (b : Int) : mix_width_good.f b = some (decide (BitsOk b)) := by
  unfold mix_width_good.f mix_within.f
  by_cases h : b ≥ 2
  · rw [if_pos h, Option.bind_some]; exact congrArg some (decide_eq_decide.mpr (by unfold BitsOk; omega))
  · rw [if_neg h, Option.bind_some]; exact congrArg some (decide_eq_false (by unfold BitsOk; omega)).symm
theorem ref_bits (b : Int) : sackbutref22_bits.f b = some (decide (BitsOk b)) := by
  unfold sackbutref22_bits.f
  by_cases h : b ≥ 2
  · rw [if_pos h]; exact congrArg some (decide_eq_decide.mpr (by unfold BitsOk; omega))
  · rw [if_neg h]; exact congrArg some (decide_eq_false (by unfold BitsOk; omega)).symm
def code (l : List Int) : Int := if (l.length : Int) > 65536 then 1 else if l.any loudB then 9 else 0
theorem check_false (l : List Int) (K : Nat) (hK : 2 ≤ K) : mix_check.f K l false = some 1 := by
  obtain ⟨K, rfl⟩ : ∃ m, K = m + 1 := ⟨K - 1, by omega⟩
  unfold mix_check.f
  rw [if_neg (by decide)]; simp only [mix_check.j0, if_true]
theorem check_true (l : List Int) (K : Nat) (hK : 2 ≤ K) : mix_check.f K l true = some (code l) := by
  obtain ⟨K, rfl⟩ : ∃ m, K = m + 1 := ⟨K - 1, by omega⟩
  unfold mix_check.f code
  rw [if_pos rfl]; simp only [mix_check.j0, mix_anyLoud.f]
  by_cases h : (l.length : Int) > 65536
  · rw [if_pos (by simpa using h), if_pos h]
  · rw [if_neg (by simpa using h), if_neg h, Option.bind_some]
    split <;> rfl
theorem ref_check_loop (l : List Int) (hl : (l.length : Int) ≤ 65536) : ∀ (d K j : Nat), j + d = l.length → d < K → sackbutref20_Check.l0 K l (l.length : Int) (j : Int) = some (if (l.drop j).any loudB then 9 else 0) := by
  intro d
  induction d with
  | zero =>
    intro K j hj hK
    obtain ⟨K, rfl⟩ : ∃ m, K = m + 1 := ⟨K - 1, by omega⟩
    simp only [sackbutref20_Check.l0]
    rw [if_neg (by omega), List.drop_eq_nil_of_le (by omega)]; simp
  | succ d ih =>
    intro K j hj hK
    obtain ⟨K, rfl⟩ : ∃ m, K = m + 1 := ⟨K - 1, by omega⟩
    have hj' : j < l.length := by omega
    simp only [sackbutref20_Check.l0]
    rw [if_pos (by omega), if_pos (by omega), if_pos (by omega), rd_nat l j hj', List.drop_eq_getElem_cons hj', List.any_cons]
    by_cases h1 : l[j] > 67108864
    · rw [if_pos h1, if_pos (by simp [loudB, h1])]
    · by_cases h2 : l[j] < -67108864
      · rw [if_neg h1, if_pos h2, if_pos (by simp [loudB, h2])]
      · rw [if_neg h1, if_neg h2, wrap_id (by omega) (by omega)]
        have e : loudB l[j] = false := by simp [loudB]; omega
        have := ih K (j + 1) (by omega) (by omega)
        rw [show ((j + 1 : Nat) : Int) = (j : Int) + 1 by omega] at this
        rw [this, e, Bool.false_or]
theorem ref_check (l : List Int) (K : Nat) (hK : 65540 ≤ K) : sackbutref20_Check.f K l = some (code l) := by
  unfold sackbutref20_Check.f code
  by_cases h : (l.length : Int) > 65536
  · rw [if_pos h, if_pos h]
  · rw [if_neg h, if_neg h]
    have := ref_check_loop l (by omega) l.length K 0 (by omega) (by omega)
    simpa using this

theorem mapAt_spec (g : Int → Option Int) (h : Int → Int) (hg : ∀ x, g x = some (h x)) : ∀ (d j : Nat) (l : List Int), j + d = l.length → mapAt g d j l = some (l.take j ++ (l.drop j).map h)
  | 0, j, l, hj => by simp only [mapAt]; rw [List.drop_eq_nil_of_le (by omega), List.take_of_length_le (by omega)]; simp
  | d + 1, j, l, hj => by
    have hj' : j < l.length := by omega
    simp only [mapAt]
    rw [rd_nat l j hj', hg, Option.bind_some, mapAt_spec g h hg d (j + 1) _ (by simp; omega), List.drop_eq_getElem_cons hj', List.map_cons]
    congr 1
    rw [List.drop_set_of_lt (by omega), List.take_set, List.take_succ_eq_append_getElem hj', List.set_append_right _ _ (by simp; omega)]
    simp [show min j l.length = j by omega]
def gains (l : List Int) (g b : Int) : List Int := l.map fun x => cutv (half b) (gainv g x)
theorem each_spec (l : List Int) (g b : Int) (hb : BitsOk b) : eachA stMix l.length [(26, g), (27, b)] l = some (gains l g b) := by
  simp only [eachA]
  rw [mapAt_spec _ (gainv g) (fun x => by unfold stMix; rw [if_pos rfl]; exact scale_of g x) l.length 0 l (by omega)]
  simp only [List.take_zero, List.nil_append, List.drop_zero, Option.bind_some]
  have := mapAt_spec (stMix (27, b)) (cutv (half b)) (fun x => by unfold stMix; rw [if_neg (show ¬ (27 = 26) by decide)]; exact width_cut hb x) l.length 0 (l.map (gainv g)) (by simp)
  rw [this]
  simp [gains, Function.comp_def]
/-- The answer of a gain. -/
def gainA (l : List Int) (g b : Int) : List Int × Int := if GainOk g ∧ BitsOk b then (if code l = 0 then (gains l g b, 0) else ([], code l)) else ([], 1)
theorem gain_spec (l : List Int) (g b : Int) (K : Nat) (hK : 60 ≤ K) : mix_Gain.f K l g b = some (gainA l g b) := by
  unfold mix_Gain.f gainA
  rw [scale_good, Option.bind_some, width_good]
  by_cases h1 : GainOk g
  · rw [decide_eq_true h1, if_pos rfl, Option.bind_some]
    by_cases h2 : BitsOk b
    · rw [decide_eq_true h2, check_true l K (by omega), Option.bind_some, if_pos (show GainOk g ∧ BitsOk b from ⟨h1, h2⟩)]
      by_cases h3 : code l = 0
      · have hl : l.length ≤ 65536 := by
          unfold code at h3
          by_cases q : (l.length : Int) > 65536
          · rw [if_pos q] at h3; cases h3
          · omega
        rw [if_pos h3, if_pos h3, if_pos (by omega), each_spec l g b h2, Option.bind_some]
      · rw [if_neg h3, if_neg h3]
    · rw [decide_eq_false h2, check_false l K (by omega), Option.bind_some, if_neg (by decide), if_neg (fun h => h2 h.2)]
  · rw [decide_eq_false h1, if_neg (by decide), Option.bind_some, check_false l K (by omega), Option.bind_some, if_neg (by decide), if_neg (fun h => h1 h.1)]

/-- The gain of a fade at a place. -/
def at_ (n : Int) (f t : Int) (j : Nat) : Int := wrap64 (f + wrap64 (Int.tdiv (wrap64 (wrap64 (t - f) * (j : Int))) n))
def fades (l : List Int) (f t b : Int) : Nat → Nat → List Int
  | _, 0 => []
  | j, d + 1 => cutv (half b) (gainv (at_ (l.length : Int) f t j) (rd l (j : Int))) :: fades l f t b (j + 1) d
def fadeA (l : List Int) (f t b : Int) : List Int × Int := if GainOk f ∧ GainOk t ∧ BitsOk b then (if code l = 0 then (fades l f t b 0 l.length, 0) else ([], code l)) else ([], 1)
theorem fade_loop (l : List Int) (hl : (l.length : Int) ≤ 65536) (f t b : Int) (hb : BitsOk b) : ∀ (d K j : Nat) (acc : List Int), j + d = l.length → d < K → acc.length + d < 10000000 → mix_Fade.l0 K l f t b acc l (l.length : Int) (j : Int) = some (acc ++ fades l f t b j d, 0) := by
  intro d
  induction d with
  | zero =>
    intro K j acc hj hK ha
    obtain ⟨K, rfl⟩ : ∃ m, K = m + 1 := ⟨K - 1, by omega⟩
    simp only [mix_Fade.l0, fades]
    rw [if_neg (by omega), List.append_nil]
  | succ d ih =>
    intro K j acc hj hK ha
    obtain ⟨K, rfl⟩ : ∃ m, K = m + 1 := ⟨K - 1, by omega⟩
    simp only [mix_Fade.l0]
    rw [if_pos (by omega), if_pos (by omega), if_pos (by omega), if_neg (by omega), scale_of, Option.bind_some, width_cut hb, Option.bind_some, if_pos (by omega), wrap_id (x := (j : Int) + 1) (by omega) (by omega)]
    have := ih K (j + 1) (acc ++ [cutv (half b) (gainv (at_ (l.length : Int) f t j) (rd l (j : Int)))]) (by omega) (by omega) (by simp; omega)
    rw [show ((j + 1 : Nat) : Int) = (j : Int) + 1 by omega] at this
    rw [fades]
    simpa [at_] using this
theorem ref_fade_loop (l : List Int) (hl : (l.length : Int) ≤ 65536) (f t b : Int) (hb : BitsOk b) : ∀ (d K j : Nat) (acc : List Int), j + d = l.length → d + 60 < K → acc.length + d < 10000000 → sackbutref22_Fade.l0 K l f t b acc (l.length : Int) (j : Int) = some (acc ++ fades l f t b j d, 0) := by
  intro d
  induction d with
  | zero =>
    intro K j acc hj hK ha
    obtain ⟨K, rfl⟩ : ∃ m, K = m + 1 := ⟨K - 1, by omega⟩
    simp only [sackbutref22_Fade.l0, fades]
    rw [if_neg (by omega), List.append_nil]
  | succ d ih =>
    intro K j acc hj hK ha
    obtain ⟨K, rfl⟩ : ∃ m, K = m + 1 := ⟨K - 1, by omega⟩
    simp only [sackbutref22_Fade.l0]
    rw [if_pos (by omega), if_pos (by omega), if_pos (by omega), if_neg (by omega), ref_gain, Option.bind_some, ref_cut hb _ K (by omega), Option.bind_some, if_pos (by omega), wrap_id (x := (j : Int) + 1) (by omega) (by omega)]
    have := ih K (j + 1) (acc ++ [cutv (half b) (gainv (at_ (l.length : Int) f t j) (rd l (j : Int)))]) (by omega) (by omega) (by simp; omega)
    rw [show ((j + 1 : Nat) : Int) = (j : Int) + 1 by omega] at this
    rw [fades]
    simpa [at_] using this
theorem code_len {l : List Int} (h : code l = 0) : (l.length : Int) ≤ 65536 := by
  unfold code at h
  by_cases q : (l.length : Int) > 65536
  · rw [if_pos q] at h; cases h
  · omega
theorem fade_j0 (l : List Int) (f t b : Int) (hb : BitsOk b) (K : Nat) (hK : 70000 ≤ K) : mix_Fade.j0 K l f t b (code l) = some (if code l = 0 then (fades l f t b 0 l.length, 0) else ([], code l)) := by
  obtain ⟨K, rfl⟩ : ∃ m, K = m + 1 := ⟨K - 1, by omega⟩
  simp only [mix_Fade.j0]
  by_cases h : code l = 0
  · rw [if_pos h, if_pos h]
    have hl := code_len h
    have := fade_loop l hl f t b hb l.length K 0 [] (by omega) (by omega) (by simp; omega)
    simpa using this
  · rw [if_neg h, if_neg h]
theorem fade_spec (l : List Int) (f t b : Int) (K : Nat) (hK : 70000 ≤ K) : mix_Fade.f K l f t b = some (fadeA l f t b) := by
  have no : mix_Fade.j0 K l f t b 1 = some ([], 1) := by
    obtain ⟨K, rfl⟩ : ∃ m, K = m + 1 := ⟨K - 1, by omega⟩
    simp only [mix_Fade.j0]; rw [if_neg (by decide)]
  unfold mix_Fade.f fadeA
  rw [scale_good, Option.bind_some, scale_good, width_good, check_false l K (by omega)]
  by_cases h1 : GainOk f
  · rw [decide_eq_true h1, if_pos rfl, Option.bind_some]
    by_cases h2 : GainOk t
    · rw [decide_eq_true h2, if_pos rfl, Option.bind_some]
      by_cases h3 : BitsOk b
      · rw [decide_eq_true h3, check_true l K (by omega), Option.bind_some, fade_j0 l f t b h3 K hK, if_pos (show GainOk f ∧ GainOk t ∧ BitsOk b from ⟨h1, h2, h3⟩)]
      · rw [decide_eq_false h3, check_false l K (by omega), Option.bind_some, no, if_neg (fun h => h3 h.2.2)]
    · rw [decide_eq_false h2, if_neg (by decide), Option.bind_some, no, if_neg (fun h => h2 h.2.1)]
  · rw [decide_eq_false h1, if_neg (by decide), Option.bind_some, no, if_neg (fun h => h1 h.1)]
theorem ref_fade_spec (l : List Int) (f t b : Int) (K : Nat) (hK : 70000 ≤ K) : sackbutref22_Fade.f K l f t b = some (fadeA l f t b) := by
  have no : sackbutref22_Fade.j0 K l f t b true = some ([], 1) := by
    obtain ⟨K, rfl⟩ : ∃ m, K = m + 1 := ⟨K - 1, by omega⟩
    simp only [sackbutref22_Fade.j0, if_true]
  unfold sackbutref22_Fade.f fadeA
  rw [ref_good, Option.bind_some, ref_good, ref_bits]
  by_cases h1 : GainOk f
  · rw [decide_eq_true h1, if_pos rfl, Option.bind_some]
    by_cases h2 : GainOk t
    · rw [decide_eq_true h2, if_pos rfl, Option.bind_some]
      by_cases h3 : BitsOk b
      · rw [decide_eq_true h3, if_pos (show GainOk f ∧ GainOk t ∧ BitsOk b from ⟨h1, h2, h3⟩)]
        obtain ⟨K, rfl⟩ : ∃ m, K = m + 1 := ⟨K - 1, by omega⟩
        simp only [sackbutref22_Fade.j0]
        rw [if_neg (by decide), ref_check l K (by omega), Option.bind_some]
        by_cases h : code l = 0
        · rw [if_pos h, if_pos h]
          have hl := code_len h
          have := ref_fade_loop l hl f t b h3 l.length K 0 [] (by omega) (by omega) (by simp; omega)
          simpa using this
        · rw [if_neg h, if_neg h]
      · rw [decide_eq_false h3, if_neg (fun h => h3 h.2.2)]; exact no
    · rw [decide_eq_false h2, if_neg (by decide), no, if_neg (fun h => h2 h.2.1)]
  · rw [decide_eq_false h1, if_neg (by decide), no, if_neg (fun h => h1 h.1)]
theorem at_same {n g : Int} (hg : GainOk g) (j : Nat) : at_ n g g j = g := by
  unfold at_ GainOk at *
  rw [Int.sub_self, show wrap64 0 = 0 by decide +kernel, Int.zero_mul, show wrap64 0 = 0 by decide +kernel, Int.zero_tdiv, show wrap64 0 = 0 by decide +kernel, Int.add_zero, wrap_id (by omega) (by omega)]
theorem fades_same {g : Int} (hg : GainOk g) (l : List Int) (b : Int) : ∀ (d j : Nat), j + d = l.length → fades l g g b j d = (l.drop j).map fun x => cutv (half b) (gainv g x)
  | 0, j, hj => by rw [List.drop_eq_nil_of_le (by omega)]; rfl
  | d + 1, j, hj => by rw [fades, fades_same hg l b d (j + 1) (by omega), at_same hg, List.drop_eq_getElem_cons (show j < l.length by omega), List.map_cons, rd_nat l j (by omega)]
theorem fadeA_same (l : List Int) (g b : Int) : fadeA l g g b = gainA l g b := by
  unfold fadeA gainA
  by_cases h1 : GainOk g
  · by_cases h2 : BitsOk b
    · rw [if_pos (show GainOk g ∧ GainOk g ∧ BitsOk b from ⟨h1, h1, h2⟩), if_pos (show GainOk g ∧ BitsOk b from ⟨h1, h2⟩), fades_same h1 l b l.length 0 (by omega)]; rfl
    · rw [if_neg (fun h => h2 h.2.2), if_neg (fun h => h2 h.2)]
  · rw [if_neg (fun h => h1 h.1), if_neg (fun h => h1 h.1)]
end Go.Proofs.Ytnfhfmimeaeoiaa.MixSpec
