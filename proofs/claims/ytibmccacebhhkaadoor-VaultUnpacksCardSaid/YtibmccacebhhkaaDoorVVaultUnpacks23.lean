/- VaultUnpacks: what the claim's theorem reaches of this seat's texts, part 23, put together by this project's own program (bale.py); conditions: those of each theorem. -/
import Derived.Test.YtibmccacebhhkaaDoorVVaultUnpacks5
import Derived.Test.YtibmccacebhhkaaDoorVVaultUnpacks6
import Derived.Test.YtibmccacebhhkaaDoorVVaultUnpacks9
import Derived.Test.YtibmccacebhhkaaDoorVVaultUnpacks12
import Derived.Test.YtibmccacebhhkaaDoorVVaultUnpacks22
namespace Go.Proofs.YtibmccacebhhkaaDoor.VaultNum
open Go Go.RowKit Go.Proofs.YtibmccacebhhkaaDoor.HV Go.Proofs.YtibmccacebhhkaaDoor.BitStr Go.Proofs.YtibmccacebhhkaaDoorW.PrintWords Go.Proofs.YtibmccacebhhkaaDoorW.PrintLast

def Bs (l : List Int) : Prop := ∀ x ∈ l, 0 ≤ x ∧ x < 256
theorem rd_nat (l : List Int) (i : Nat) (h : i < l.length) : rd l (i : Int) = l[i] := by
  unfold rd; rw [Int.toNat_natCast, List.getD_eq_getElem?_getD, List.getElem?_eq_getElem h]; rfl
theorem bits_loop (l : List Int) (hb : Bs l) (hl : l.length ≤ 1000) : ∀ (d K j : Nat) (s : List UInt8), j + d = l.length → d + 20 < K → s.length ≤ 8 * j →
    sackbutref01_Bits.l0 K l (str s) (l.length : Int) (j : Int) = some (str (s ++ bits8 ((l.drop j).map Int.toNat))) := by
  intro d
  induction d with
  | zero =>
    intro K j s hj hK hs
    obtain ⟨K, rfl⟩ : ∃ m, K = m + 1 := ⟨K - 1, by omega⟩
    simp only [sackbutref01_Bits.l0]
    rw [if_neg (by omega), List.drop_eq_nil_of_le (by omega)]; simp [bits8]
  | succ d ih =>
    intro K j s hj hK hs
    obtain ⟨K, rfl⟩ : ∃ m, K = m + 1 := ⟨K - 1, by omega⟩
    have hj' : j < l.length := by omega
    have hx := hb _ (List.getElem_mem hj')
    simp only [sackbutref01_Bits.l0]
    rw [if_pos (by omega), if_pos (by omega), if_pos (by omega), rd_nat l j hj', BitStr.wrap_id (by omega) (by omega)]
    have hp := put_spec 8 l[j].toNat K (by omega) (by omega) (by omega)
    rw [show ((l[j].toNat : Nat) : Int) = l[j] by omega, show ((8 : Nat) : Int) = 8 from rfl] at hp
    rw [hp, Option.bind_some, if_pos (by rw [str_size, str_size, putL_length]; omega), str_append, BitStr.wrap_id (by omega) (by omega)]
    have := ih K (j + 1) (s ++ putL 8 l[j].toNat) (by omega) (by omega) (by rw [List.length_append, putL_length]; omega)
    rw [show ((j + 1 : Nat) : Int) = (j : Int) + 1 by omega] at this
    rw [this, List.drop_eq_getElem_cons hj', List.map_cons]
    unfold bits8
    rw [List.flatMap_cons, List.append_assoc]
theorem bits_spec (l : List Int) (hb : Bs l) (hl : l.length ≤ 1000) (K : Nat) (hK : l.length + 20 < K) : sackbutref01_Bits.f K l = some (str (bits8 (l.map Int.toNat))) := by
  unfold sackbutref01_Bits.f
  have := bits_loop l hb hl l.length K 0 [] (by omega) hK (by simp)
  simpa [str_nil] using this
theorem fold_nat : ∀ (l : List Int) (a : Nat), Bs l → (((l.map Int.toNat).foldl (fun a c => a * 256 + c) a : Nat) : Int) = l.foldl (fun a x => a * 256 + x) (a : Int)
  | [], a, _ => rfl
  | x :: l, a, h => by
    have hx := h x (by simp)
    rw [List.map_cons, List.foldl_cons, List.foldl_cons, fold_nat l _ (fun y hy => h y (by simp [hy]))]
    congr 1
    omega
/-- The document's number of up to four bytes. -/
theorem number_be (l : List Int) (hl : l.length ≤ 4) (hb : Bs l) (K : Nat) (hK : 100 ≤ K) : sackbutref25_number.f K l = some (beL l) := by
  unfold sackbutref25_number.f
  rw [bits_spec l hb (by omega) K (by omega), Option.bind_some, number_spec _ (by rw [bits8_length, List.length_map]; omega) K (by rw [bits8_length, List.length_map]; omega), Option.bind_some]
  rw [numL_bits8 _ (by intro x hx; obtain ⟨y, hy, rfl⟩ := List.mem_map.1 hx; have := hb y hy; omega)]
  congr 1
  exact fold_nat l 0 hb
theorem bt_nat (s : ByteArray) (i : Nat) (h : i < s.size) : bt s (i : Int) = ((s[i]'h).toNat : Nat) := by
  unfold bt
  rw [dif_pos (by rw [Int.toNat_natCast]; exact h)]
  simp only [Int.toNat_natCast]
theorem right_loop (s : ByteArray) (hs : s.size ≤ 1000) : ∀ (d K i : Nat), i + d = s.size → d < K → (∀ t, (h : t < s.size) → t < i → letterZ ((s[t]'h).toNat : Nat) = true) → sackbutref23_Right.l0 K (i : Int) 0 s = some (namedB s) := by
  intro d
  induction d with
  | zero =>
    intro K i hi hK ha
    obtain ⟨K, rfl⟩ : ∃ m, K = m + 1 := ⟨K - 1, by omega⟩
    simp only [sackbutref23_Right.l0]
    rw [if_neg (by omega), named_all s (fun t h => ha t h (by omega))]
    by_cases h1 : 1 ≤ s.size
    · by_cases h2 : s.size ≤ 24
      · rw [if_pos (by omega), if_pos (by omega), if_pos (by omega), decide_eq_true h1, decide_eq_true h2]
        rfl
      · rw [if_pos (by omega), if_neg (by omega), decide_eq_true h1, decide_eq_false h2]
        rfl
    · rw [if_neg (by omega), decide_eq_false h1]
      rfl
  | succ d ih =>
    intro K i hi hK ha
    obtain ⟨K, rfl⟩ : ∃ m, K = m + 1 := ⟨K - 1, by omega⟩
    have hi' : i < s.size := by omega
    have hstep := ih K (i + 1) (by omega) (by omega)
    rw [show ((i + 1 : Nat) : Int) = (i : Int) + 1 by omega] at hstep
    simp only [sackbutref23_Right.l0]
    rw [if_pos (by omega), if_pos (by omega), BitStr.wrap_id (by omega) (by omega), bt_nat s i hi']
    cases hl : letterZ ((s[i]'hi').toNat : Nat) with
    | true =>
      rw [hstep (fun t h ht => by
        by_cases e : t = i
        · subst e; exact hl
        · exact ha t h (by omega))]
      simp only [letterZ, Bool.or_eq_true, Bool.and_eq_true, decide_eq_true_eq] at hl
      rcases hl with (⟨h1, h2⟩ | ⟨h1, h2⟩) | h1
      · rw [if_pos h1, if_pos h2]
      · rw [if_neg (by omega), if_pos h1, if_pos h2]
      · rw [if_neg (by omega), if_neg (by omega), if_pos h1]
    | false =>
      rw [named_miss s i hi' hl]
      simp only [letterZ, Bool.or_eq_false_iff, Bool.and_eq_false_iff, decide_eq_false_iff_not] at hl
      obtain ⟨⟨h1, h2⟩, h3⟩ := hl
      repeat' split
      all_goals first | rfl | omega
theorem right_named (s : ByteArray) (hs : s.size ≤ 1000) (K : Nat) (hK : 1001 < K) : sackbutref25_Right.f K s [] = some (namedB s) := by
  unfold sackbutref25_Right.f sackbutref23_Right.f
  have := right_loop s hs s.size K 0 (by omega) (by omega) (fun t _ h => absurd h (Nat.not_lt_zero _))
  rw [show ((0 : Nat) : Int) = 0 from rfl] at this
  rw [this, Option.bind_some]
  cases namedB s <;> simp
end Go.Proofs.YtibmccacebhhkaaDoor.VaultNum

