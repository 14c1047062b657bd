/- What the program's packing comes to, in plain numbers. By this project's prover (an AI agent). -/
import Derived.Test.YtmpaecdgcflalaaHKx9
import Derived.Test.YtmpaecdgcflalaaHKx11
import Derived.Test.YtmpaecdgcflalaaHKx10
import Derived.Test.YtmpaecdgcflalaaHKx1
namespace Go.Proofs.Ytmpaecdgcflalaa.PackSpec
open Go Go.RowKit Go.Proofs.Ytmpaecdgcflalaa.HK Go.Proofs.YtmpaecdgcflalaaW.PrintWords Go.Proofs.YtmpaecdgcflalaaW.PrintLast

theorem wrap_id {x : Int} (h0 : -9223372036854775808 ≤ x) (h1 : x < 9223372036854775808) : wrap64 x = x := by unfold wrap64; omega
theorem rd_nat (l : List Int) (i : Nat) (h : i < l.length) : rd l (i : Int) = l[i] := by
  unfold rd; rw [Int.toNat_natCast, List.getD_eq_getElem?_getD, List.getElem?_eq_getElem h]; rfl
theorem rd1_nat (l : List (List Int)) (i : Nat) (h : i < l.length) : rd_L1 l (i : Int) = l[i] := by
  unfold rd_L1; rw [Int.toNat_natCast, List.getD_eq_getElem?_getD, List.getElem?_eq_getElem h]; rfl
theorem few_loop (l : List (List Int)) (hl : l.length ≤ 9223372036854775807) : ∀ (d K i : Nat), i + d = l.length → d < K →
    ∃ b, sackbutlaw05_Few.l0 K l l (l.length : Int) (i : Int) = some b ∧ (b = true → l.length ≤ 12 ∧ ∀ x ∈ l.drop i, x.length ≤ 200) := by
  intro d
  induction d with
  | zero =>
    intro K i hi hK
    obtain ⟨K, rfl⟩ : ∃ m, K = m + 1 := ⟨K - 1, by omega⟩
    simp only [sackbutlaw05_Few.l0]
    rw [if_neg (by omega)]
    refine ⟨_, rfl, fun h => ⟨by have := of_decide_eq_true h; omega, ?_⟩⟩
    rw [List.drop_eq_nil_of_le (by omega)]; simp
  | succ d ih =>
    intro K i hi hK
    obtain ⟨K, rfl⟩ : ∃ m, K = m + 1 := ⟨K - 1, by omega⟩
    have hi' : i < l.length := by omega
    simp only [sackbutlaw05_Few.l0]
    rw [if_pos (by omega), if_pos (by omega), if_pos (by omega), rd1_nat l i hi']
    by_cases h2 : ((l[i].length : Int) > 200)
    · rw [if_pos h2]; exact ⟨false, rfl, by simp⟩
    · rw [if_neg h2, wrap_id (by omega) (by omega)]
      obtain ⟨b, e, hb⟩ := ih K (i + 1) (by omega) (by omega)
      rw [show ((i + 1 : Nat) : Int) = (i : Int) + 1 by omega] at e
      refine ⟨b, e, fun h => ⟨(hb h).1, ?_⟩⟩
      rw [List.drop_eq_getElem_cons hi']
      intro x hx
      rcases List.mem_cons.mp hx with rfl | hx
      · omega
      · exact (hb h).2 x hx
theorem few_spec (l : List (List Int)) (hl : l.length ≤ 9223372036854775807) (K : Nat) (hK : l.length < K) :
    ∃ b, sackbutlaw05_Few.f K l = some b ∧ (b = true → l.length ≤ 12 ∧ ∀ x ∈ l, x.length ≤ 200) := by
  unfold sackbutlaw05_Few.f
  have := few_loop l hl l.length K 0 (by omega) hK
  simpa using this

/-- One more than the greatest sample of a form. -/
def lim (a : Int) : Int := if a = 8 then 128 else if a = 16 then 32768 else 8388608
def GoodF (a : Int) : Prop := a = 8 ∨ a = 16 ∨ a = 24
instance (a : Int) : Decidable (GoodF a) := by unfold GoodF; infer_instance
theorem power7 : ∀ K, 30 ≤ K → sackbutref01_Power.f K (wrap64 (8 - 1)) = some 128 := by
  intro K hK; obtain ⟨K, rfl⟩ : ∃ m, K = m + 30 := ⟨K - 30, by omega⟩
  rw [show wrap64 (8 - 1) = 7 by decide +kernel]
  simp [sackbutref01_Power.f, sackbutref01_Power.l0, wrap64]
theorem power15 : ∀ K, 30 ≤ K → sackbutref01_Power.f K (wrap64 (16 - 1)) = some 32768 := by
  intro K hK; obtain ⟨K, rfl⟩ : ∃ m, K = m + 30 := ⟨K - 30, by omega⟩
  rw [show wrap64 (16 - 1) = 15 by decide +kernel]
  simp [sackbutref01_Power.f, sackbutref01_Power.l0, wrap64]
theorem power23 : ∀ K, 30 ≤ K → sackbutref01_Power.f K (wrap64 (24 - 1)) = some 8388608 := by
  intro K hK; obtain ⟨K, rfl⟩ : ∃ m, K = m + 30 := ⟨K - 30, by omega⟩
  rw [show wrap64 (24 - 1) = 23 by decide +kernel]
  simp [sackbutref01_Power.f, sackbutref01_Power.l0, wrap64]
theorem power_lim {a : Int} (h : GoodF a) (K : Nat) (hK : 30 ≤ K) : sackbutref01_Power.f K (wrap64 (a - 1)) = some (lim a) := by
  rcases h with rfl | rfl | rfl
  · exact power7 K hK
  · exact power15 K hK
  · exact power23 K hK
theorem lim_neg {a : Int} (h : GoodF a) : wrap64 (-lim a) = -lim a := by rcases h with rfl | rfl | rfl <;> decide +kernel
theorem ref_has {a : Int} (h : GoodF a) (v : Int) (K : Nat) (hK : 30 ≤ K) : sackbutref05_Has.f K a v = some (decide (-lim a ≤ v ∧ v < lim a)) := by
  unfold sackbutref05_Has.f
  rw [power_lim h K hK, Option.bind_some, Option.bind_some, lim_neg h]
  by_cases h1 : v ≥ -lim a <;> simp [h1]
theorem form_has {a : Int} (h : GoodF a) (b : Bool) (v : Int) : pack_Form_Has.f a b v = some (decide (-lim a ≤ v ∧ v < lim a)) := by
  unfold pack_Form_Has.f
  have h0 : 0 ≤ wrap64 (a - 1) := by rcases h with rfl | rfl | rfl <;> decide +kernel
  have h1 : shl .i64 (-1) (wrap64 (a - 1)) = -lim a := by rcases h with rfl | rfl | rfl <;> decide +kernel
  have h2 : shl .i64 1 (wrap64 (a - 1)) = lim a := by rcases h with rfl | rfl | rfl <;> decide +kernel
  rw [if_pos h0, h1, h2]
  by_cases h3 : v ≥ -lim a <;> simp [h3]
theorem good_ref (a : Int) (b : Bool) : sackbutref05_Good.f a b = some (decide (GoodF a)) := by
  unfold sackbutref05_Good.f GoodF
  by_cases h : a = 8 <;> by_cases h' : a = 16 <;> simp [h, h']
  rfl
theorem good_form (a : Int) (b : Bool) : pack_Form_Good.f a b = some (decide (GoodF a)) := by
  unfold pack_Form_Good.f GoodF
  by_cases h : a = 8 <;> by_cases h' : a = 16 <;> simp [h, h']
  rfl

/-- What a form asks of the channels. -/
structure Fits (a : Int) (l : List (List Int)) (c : Nat) : Prop where
  good : GoodF a
  one : 1 ≤ l.length
  eight : l.length ≤ 8
  same : ∀ x ∈ l, x.length = c
  most : c ≤ 1048576
  has : ∀ x ∈ l, ∀ v ∈ x, -lim a ≤ v ∧ v < lim a
theorem Fits.zero {a : Int} {l : List (List Int)} {c : Nat} (F : Fits a l c) : (rd_L1 l 0).length = c := by
  have := rd1_nat l 0 (by have := F.one; omega)
  rw [show ((0 : Nat) : Int) = 0 from rfl] at this
  rw [this]; exact F.same _ (List.getElem_mem _)
theorem lacks {a : Int} (h : GoodF a) (b : Bool) (l : List Int) (hl : ∀ v ∈ l, -lim a ≤ v ∧ v < lim a) : pack_anyLacks.f l a b = some false := by
  unfold pack_anyLacks.f
  have e : ∀ v, pack_Form_lacks.f a b v = some (!decide (-lim a ≤ v ∧ v < lim a)) := fun v => by unfold pack_Form_lacks.f; rw [form_has h]; rfl
  rw [if_pos (by simp [e])]
  congr 1
  rw [List.any_eq_false]
  intro x hx
  rw [e, decide_eq_true (hl x hx)]
  decide
theorem check_l1 {a : Int} (h : GoodF a) (b : Bool) (l : List (List Int)) (hl8 : l.length ≤ 8) (hl : ∀ x ∈ l, ∀ v ∈ x, -lim a ≤ v ∧ v < lim a) : ∀ (d K i : Nat), i + d = l.length → d < K → pack_Check.l1 K l (l.length : Int) (i : Int) a b = some 0 := by
  intro d
  induction d with
  | zero =>
    intro K i hi hK
    obtain ⟨K, rfl⟩ : ∃ m, K = m + 1 := ⟨K - 1, by omega⟩
    simp only [pack_Check.l1]
    rw [if_neg (by omega)]
  | succ d ih =>
    intro K i hi hK
    obtain ⟨K, rfl⟩ : ∃ m, K = m + 1 := ⟨K - 1, by omega⟩
    have hi' : i < l.length := by omega
    simp only [pack_Check.l1]
    rw [if_pos (by omega), if_pos (by omega), if_pos (by omega), rd1_nat l i hi', lacks h b _ (hl _ (List.getElem_mem hi')), Option.bind_some, if_neg (by decide), wrap_id (by omega) (by omega)]
    have := ih K (i + 1) (by omega) (by omega)
    rwa [show ((i + 1 : Nat) : Int) = (i : Int) + 1 by omega] at this
theorem check_l0 {a : Int} {l : List (List Int)} {c : Nat} (F : Fits a l c) (b : Bool) : ∀ (d K i : Nat), i + d = l.length → d + 10 < K → pack_Check.l0 K l l (l.length : Int) (i : Int) a b = some 0 := by
  have h8 := F.eight
  intro d
  induction d with
  | zero =>
    intro K i hi hK
    obtain ⟨K, rfl⟩ : ∃ m, K = m + 1 := ⟨K - 1, by omega⟩
    simp only [pack_Check.l0]
    rw [if_neg (by omega)]
    exact check_l1 F.good b l F.eight F.has l.length K 0 (by omega) (by omega)
  | succ d ih =>
    intro K i hi hK
    obtain ⟨K, rfl⟩ : ∃ m, K = m + 1 := ⟨K - 1, by omega⟩
    have hi' : i < l.length := by omega
    simp only [pack_Check.l0]
    rw [if_pos (by omega), if_pos (by omega), if_pos (by omega), if_pos (by omega), rd1_nat l i hi', F.zero, F.same _ (List.getElem_mem hi'), if_pos rfl, wrap_id (by omega) (by omega)]
    have := ih K (i + 1) (by omega) (by omega)
    rwa [show ((i + 1 : Nat) : Int) = (i : Int) + 1 by omega] at this
theorem check_spec {a : Int} {l : List (List Int)} {c : Nat} (F : Fits a l c) (b : Bool) (K : Nat) (hK : 20 ≤ K) : pack_Check.f K a b l = some 0 := by
  have h8 := F.eight; have h1 := F.one; have hm := F.most
  unfold pack_Check.f
  rw [good_form, decide_eq_true F.good, Option.bind_some, if_pos rfl]
  unfold pack_count.f
  rw [if_pos (by omega), Option.bind_some, decide_eq_true (by omega), if_pos rfl, if_pos (by omega), F.zero, if_neg (by omega)]
  exact check_l0 F b l.length K 0 (by omega) (by omega)

/-- The bytes of a sample, the least first. -/
def leb : Nat → Int → List Int
  | 0, _ => []
  | n + 1, v => (v % 256) :: leb n (v / 256)
def enc (n : Nat) (b : Bool) (v : Int) : List Int := if b then (leb n v).reverse else leb n v
theorem leb_length (n : Nat) (v : Int) : (leb n v).length = n := by induction n generalizing v with | zero => rfl | succ n ih => simp [leb, ih]
theorem enc_length (n : Nat) (b : Bool) (v : Int) : (enc n b v).length = n := by unfold enc; split <;> simp [leb_length]
def Puts (a : Int) (b : Bool) (n : Nat) : Prop := ∀ (K : Nat) (l : List Int) (v : Int), 20 ≤ K → l.length < 100000000000 → pack_Form_put.f K a b l v = some (l ++ enc n b v)
theorem size8 (b : Bool) : pack_Form_size.f 8 b = some 1 := by unfold pack_Form_size.f; rw [show wrap64 (Int.tdiv 8 8) = 1 by decide +kernel]
theorem size16 (b : Bool) : pack_Form_size.f 16 b = some 2 := by unfold pack_Form_size.f; rw [show wrap64 (Int.tdiv 16 8) = 2 by decide +kernel]
theorem size24 (b : Bool) : pack_Form_size.f 24 b = some 3 := by unfold pack_Form_size.f; rw [show wrap64 (Int.tdiv 24 8) = 3 by decide +kernel]
theorem put8 (b : Bool) : Puts 8 b 1 := by
  intro K l v hK hl
  obtain ⟨K, rfl⟩ : ∃ m, K = m + 20 := ⟨K - 20, by omega⟩
  unfold pack_Form_put.f
  rw [size8, Option.bind_some]
  cases b
  · simp [pack_Form_put.l0, wrap64, enc, leb]; omega
  · simp [pack_Form_put.l0, wrap64, enc, leb, slices_Reverse_byte_byte.f, slices_Reverse_byte_byte.l0]; omega
theorem put16 (b : Bool) : Puts 16 b 2 := by
  intro K l v hK hl
  obtain ⟨K, rfl⟩ : ∃ m, K = m + 20 := ⟨K - 20, by omega⟩
  unfold pack_Form_put.f
  rw [size16, Option.bind_some]
  cases b
  · simp [pack_Form_put.l0, wrap64, enc, leb]; omega
  · simp [pack_Form_put.l0, wrap64, enc, leb, slices_Reverse_byte_byte.f, slices_Reverse_byte_byte.l0, rd]; omega
theorem put24 (b : Bool) : Puts 24 b 3 := by
  intro K l v hK hl
  obtain ⟨K, rfl⟩ : ∃ m, K = m + 20 := ⟨K - 20, by omega⟩
  unfold pack_Form_put.f
  rw [size24, Option.bind_some]
  cases b
  · simp [pack_Form_put.l0, wrap64, enc, leb]; omega
  · simp [pack_Form_put.l0, wrap64, enc, leb, slices_Reverse_byte_byte.f, slices_Reverse_byte_byte.l0, rd]; omega
def nbytes (a : Int) : Nat := if a = 8 then 1 else if a = 16 then 2 else 3
theorem puts {a : Int} (h : GoodF a) (b : Bool) : Puts a b (nbytes a) := by
  rcases h with rfl | rfl | rfl
  · exact put8 b
  · exact put16 b
  · exact put24 b
theorem bytes_le (a : Int) : nbytes a ≤ 3 := by unfold nbytes; (repeat' split) <;> omega
theorem bytes_pos (a : Int) : 1 ≤ nbytes a := by unfold nbytes; (repeat' split) <;> omega

/-- The samples in the order that they are packed in, from a column on. -/
def vals (l : List (List Int)) : Nat → Nat → List Int
  | _, 0 => []
  | i, d + 1 => (l.map fun r => rd r (i : Int)) ++ vals l (i + 1) d
theorem vals_length (l : List (List Int)) : ∀ d i, (vals l i d).length = d * l.length
  | 0, i => by simp [vals]
  | d + 1, i => by simp [vals, vals_length l d (i + 1), Nat.succ_mul]; omega
theorem flat_length {n : Nat} {f : Int → List Int} (hf : ∀ v, (f v).length = n) : ∀ l : List Int, (l.flatMap f).length = l.length * n
  | [] => by simp
  | x :: l => by simp [List.flatMap_cons, flat_length hf l, hf, Nat.succ_mul]; omega
theorem pack_l1 {a : Int} {l : List (List Int)} {c : Nat} (F : Fits a l c) (b : Bool) (i : Nat) (hi : i < c) (R : Nat) (res : List Int → Option (List Int × Int)) (hR : ∀ K acc, R ≤ K → acc.length + (c - (i + 1)) * 24 < 50000000 → pack_Pack.l0 K l acc (c : Int) (((i + 1 : Nat) : Int)) a b = res acc) :
    ∀ (d K j : Nat) (acc : List Int), j + d = l.length → d + R + 21 ≤ K → acc.length + (c - (i + 1)) * 24 + d * 3 < 50000000 →
      pack_Pack.l1 K l acc (i : Int) (c : Int) (i : Int) l (l.length : Int) (j : Int) a b = res (acc ++ ((l.drop j).map fun r => rd r (i : Int)).flatMap (enc (nbytes a) b)) := by
  have h8 := F.eight; have hb := bytes_le a; have hm := F.most
  intro d
  induction d with
  | zero =>
    intro K j acc hj hK ha
    obtain ⟨K, rfl⟩ : ∃ m, K = m + 1 := ⟨K - 1, by omega⟩
    simp only [pack_Pack.l1]
    rw [if_neg (by omega), wrap_id (by omega) (by omega), List.drop_eq_nil_of_le (by omega)]
    have := hR K acc (by omega) (by omega)
    rw [show ((i + 1 : Nat) : Int) = (i : Int) + 1 by omega] at this
    rw [this]; simp
  | succ d ih =>
    intro K j acc hj hK ha
    obtain ⟨K, rfl⟩ : ∃ m, K = m + 1 := ⟨K - 1, by omega⟩
    have hj' : j < l.length := by omega
    have hs := F.same _ (List.getElem_mem hj')
    simp only [pack_Pack.l1]
    rw [if_pos (by omega), if_pos (by omega), if_pos (by omega), if_pos (by omega), rd1_nat l j hj', hs, if_pos (by omega), puts F.good b K acc _ (by omega) (by omega), Option.bind_some, wrap_id (by omega) (by omega)]
    have := ih K (j + 1) (acc ++ enc (nbytes a) b (rd l[j] (i : Int))) (by omega) (by omega) (by rw [List.length_append, enc_length]; omega)
    rw [show ((j + 1 : Nat) : Int) = (j : Int) + 1 by omega] at this
    rw [this, List.drop_eq_getElem_cons hj', List.map_cons, List.flatMap_cons, List.append_assoc]
theorem pack_l0 {a : Int} {l : List (List Int)} {c : Nat} (F : Fits a l c) (b : Bool) : ∀ (d K i : Nat) (acc : List Int), i + d = c → d * 40 + 60 ≤ K → acc.length + d * 24 < 50000000 →
      pack_Pack.l0 K l acc (c : Int) (i : Int) a b = some (acc ++ (vals l i d).flatMap (enc (nbytes a) b), 0) := by
  have h8 := F.eight; have hb := bytes_le a; have hm := F.most
  intro d
  induction d with
  | zero =>
    intro K i acc hi hK ha
    obtain ⟨K, rfl⟩ : ∃ m, K = m + 1 := ⟨K - 1, by omega⟩
    simp only [pack_Pack.l0]
    rw [if_neg (by omega)]; simp [vals]
  | succ d ih =>
    intro K i acc hi hK ha
    obtain ⟨K, rfl⟩ : ∃ m, K = m + 1 := ⟨K - 1, by omega⟩
    simp only [pack_Pack.l0]
    rw [if_pos (by omega)]
    have := pack_l1 F b i (by omega) (d * 40 + 60) (fun acc => some (acc ++ (vals l (i + 1) d).flatMap (enc (nbytes a) b), 0)) (fun K acc hK ha => ih K (i + 1) acc (by omega) hK (by omega)) l.length K 0 acc (by omega) (by omega) (by omega)
    rw [show ((0 : Nat) : Int) = 0 from rfl] at this
    rw [this, List.drop_zero, List.append_assoc, vals, List.flatMap_append]
theorem pack_spec {a : Int} {l : List (List Int)} {c : Nat} (F : Fits a l c) (b : Bool) (K : Nat) (hK : c * 40 + 60 ≤ K) (hc : c ≤ 2000000) : pack_Pack.f K a b l = some ((vals l 0 c).flatMap (enc (nbytes a) b), 0) := by
  have h1 := F.one
  unfold pack_Pack.f
  rw [check_spec F b K (by omega), Option.bind_some, if_pos rfl, if_pos (by omega), F.zero]
  have := pack_l0 F b c K 0 [] (by omega) hK (by simp; omega)
  simpa using this
theorem fits_awake : Fits 16 [[1, -2]] 2 := ⟨by decide, by decide, by decide, by decide, by decide, by decide⟩
theorem awake_ok (K : Nat) (hK : 200 ≤ K) : sackbutlaw05_awake.f K = some true := by
  unfold sackbutlaw05_awake.f
  rw [pack_spec fits_awake false K (by omega) (by omega), Option.bind_some, if_pos rfl]
  decide +kernel
end Go.Proofs.Ytmpaecdgcflalaa.PackSpec
