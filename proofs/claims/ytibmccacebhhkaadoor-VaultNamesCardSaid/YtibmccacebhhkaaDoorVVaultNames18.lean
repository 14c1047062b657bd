/- VaultNames: what the claim's theorem reaches of this seat's texts, part 18, put together by this project's own program (bale.py); conditions: those of each theorem. -/
import Derived.Test.YtibmccacebhhkaaDoorVVaultNames5
import Derived.Test.YtibmccacebhhkaaDoorVVaultNames6
import Derived.Test.YtibmccacebhhkaaDoorVVaultNames17
import Derived.Laws.BitsLemmas
namespace Go.Proofs.YtibmccacebhhkaaDoor.HV
open Go.RowKit Go.Proofs.YtibmccacebhhkaaDoorW.PrintWords Go.Proofs.YtibmccacebhhkaaDoorW.PrintLast Go.Proofs.YtibmccacebhhkaaDoorW.PrintMore
attribute [local go_sem] max2_int min2_int max_two min_two max_three min_three max_four min_four   -- for this text's walks alone
set_option linter.unusedVariables false
set_option linter.unusedSimpArgs false

-- NOT PRINTED: function 17 (vault_Unpack)

end Go.Proofs.YtibmccacebhhkaaDoor.HV

namespace Go.Proofs.YtibmccacebhhkaaDoor.BitStr
open Go Go.RowKit Go.Proofs.YtibmccacebhhkaaDoor.HV Go.Proofs.YtibmccacebhhkaaDoorW.PrintWords Go.Proofs.YtibmccacebhhkaaDoorW.PrintLast

theorem wrap_id {x : Int} (h0 : -9223372036854775808 ≤ x) (h1 : x < 9223372036854775808) : wrap64 x = x := by unfold wrap64; omega
theorem ba_ext {s t : ByteArray} (h : s.data.toList = t.data.toList) : s = t := by
  cases s with | mk a => cases t with | mk b => congr 1; exact Array.toList_inj.1 h
def str (l : List UInt8) : ByteArray := ⟨l.toArray⟩
theorem str_size (l : List UInt8) : (str l).size = l.length := rfl
theorem str_append (a b : List UInt8) : str a ++ str b = str (a ++ b) := ba_ext (by simp [str])
theorem str_nil : (⟨#[]⟩ : ByteArray) = str [] := rfl
/-- A digit. -/
def dg (v : Nat) : UInt8 := if v % 2 = 1 then 49 else 48
/-- A number as so many bits, the highest first. -/
def putL : Nat → Nat → List UInt8
  | 0, _ => []
  | n + 1, v => putL n (v / 2) ++ [dg v]
theorem putL_length (n v : Nat) : (putL n v).length = n := by induction n generalizing v with | zero => rfl | succ n ih => simp [putL, ih]
theorem nums_one (v : Nat) : strOfNums [(wrap64 (48 + (Int.tmod (v : Int) 2))) % 256] = str [dg v] := by
  have h : Int.tmod (v : Int) 2 = ((v % 2 : Nat) : Int) := by rw [Int.tmod_eq_emod_of_nonneg (by omega)]; omega
  rw [h, wrap_id (by omega) (by omega)]
  unfold dg
  rcases Nat.mod_two_eq_zero_or_one v with e | e <;> rw [e] <;> rfl
theorem put_loop (n : Nat) (hn : n ≤ 1000) : ∀ (d K i v : Nat) (s : List UInt8), i + d = n → d < K → v < 9223372036854775808 → s.length + d ≤ 1000000 →
    sackbutref01_Put.l0 K (v : Int) (n : Int) (str s) (i : Int) = some (str (putL d v ++ s)) := by
  intro d
  induction d with
  | zero =>
    intro K i v s hi hK hv hs
    obtain ⟨K, rfl⟩ : ∃ m, K = m + 1 := ⟨K - 1, by omega⟩
    simp only [sackbutref01_Put.l0]
    rw [if_neg (by omega)]; rfl
  | succ d ih =>
    intro K i v s hi hK hv hs
    obtain ⟨K, rfl⟩ : ∃ m, K = m + 1 := ⟨K - 1, by omega⟩
    simp only [sackbutref01_Put.l0]
    rw [if_pos (by omega), Option.bind_some, nums_one, if_pos (by rw [str_size, str_size]; simp; omega), str_append]
    have hv2 : Int.tdiv (v : Int) 2 = ((v / 2 : Nat) : Int) := by rw [Int.tdiv_eq_ediv_of_nonneg (by omega)]; omega
    rw [hv2, wrap_id (by omega) (by omega), wrap_id (by omega) (by omega)]
    have := ih K (i + 1) (v / 2) ([dg v] ++ s) (by omega) (by omega) (by omega) (by simp; omega)
    rw [show ((i + 1 : Nat) : Int) = (i : Int) + 1 by omega] at this
    rw [this, putL, List.append_assoc]
theorem put_spec (n v K : Nat) (hn : n ≤ 1000) (hK : n < K) (hv : v < 9223372036854775808) : sackbutref01_Put.f K (v : Int) (n : Int) = some (str (putL n v)) := by
  unfold sackbutref01_Put.f
  have := put_loop n hn n K 0 v [] (by omega) hK hv (by simp; omega)
  simpa [str_nil] using this
/-- The number of bits. -/
def numL (l : List UInt8) (a : Nat) : Nat := l.foldl (fun a c => 2 * a + if c = 49 then 1 else 0) a
theorem dg_val (v : Nat) : (if dg v = 49 then 1 else 0) = v % 2 := by
  unfold dg
  rcases Nat.mod_two_eq_zero_or_one v with e | e <;> rw [e] <;> rfl
theorem numL_append (a b : List UInt8) (x : Nat) : numL (a ++ b) x = numL b (numL a x) := by unfold numL; rw [List.foldl_append]
theorem numL_putL (n : Nat) : ∀ v a, numL (putL n v) a = a * 2 ^ n + v % 2 ^ n := by
  induction n with
  | zero => intro v a; simp [putL, numL, Nat.mod_one]
  | succ n ih =>
    intro v a
    show numL (putL n (v / 2) ++ [dg v]) a = _
    rw [numL_append, ih]
    show 2 * _ + _ = _
    rw [dg_val, Nat.pow_succ]
    have h : v % (2 ^ n * 2) = 2 * (v / 2 % 2 ^ n) + v % 2 := by
      rw [Nat.mul_comm, Nat.mod_mul]; omega
    rw [h, Nat.mul_add, show a * (2 ^ n * 2) = 2 * (a * 2 ^ n) by rw [← Nat.mul_assoc, Nat.mul_comm]]
    omega
theorem bt_str (l : List UInt8) (i : Nat) (h : i < l.length) : bt (str l) (i : Int) = ((l[i].toNat : Nat) : Int) := by
  unfold bt
  rw [dif_pos (by rw [Int.toNat_natCast, str_size]; exact h)]
  rfl
theorem number_loop (l : List UInt8) (hl : l.length ≤ 62) : ∀ (d K i a : Nat), i + d = l.length → d < K → a < 2 ^ i →
    sackbutref01_Number.l0 K (str l) (a : Int) (i : Int) = some ((numL (l.drop i) a : Nat) : Int) := by
  intro d
  induction d with
  | zero =>
    intro K i a hi hK ha
    obtain ⟨K, rfl⟩ : ∃ m, K = m + 1 := ⟨K - 1, by omega⟩
    simp only [sackbutref01_Number.l0]
    rw [if_neg (by rw [str_size]; omega), List.drop_eq_nil_of_le (by omega)]; rfl
  | succ d ih =>
    intro K i a hi hK ha
    obtain ⟨K, rfl⟩ : ∃ m, K = m + 1 := ⟨K - 1, by omega⟩
    have hi' : i < l.length := by omega
    have h62 : a < 4611686018427387904 := Nat.lt_of_lt_of_le ha (Nat.le_trans (Nat.pow_le_pow_right (by decide) (show i ≤ 61 by omega)) (by decide))
    have ha1 : 2 * a + 1 < 2 ^ (i + 1) := by rw [Nat.pow_succ]; omega
    simp only [sackbutref01_Number.l0]
    rw [if_pos (by rw [str_size]; omega), if_pos (by omega), bt_str l i hi', List.drop_eq_getElem_cons hi']
    show _ = some ((numL (l.drop (i + 1)) (2 * a + if l[i] = 49 then 1 else 0) : Nat) : Int)
    rw [wrap_id (x := (a : Int) * 2) (by omega) (by omega)]
    by_cases hc : l[i] = 49
    · rw [if_pos (by rw [hc]; rfl), if_pos hc, wrap_id (by omega) (by omega), wrap_id (by omega) (by omega)]
      have := ih K (i + 1) (2 * a + 1) (by omega) (by omega) ha1
      rw [show ((i + 1 : Nat) : Int) = (i : Int) + 1 by omega, show ((2 * a + 1 : Nat) : Int) = (a : Int) * 2 + 1 by omega] at this
      exact this
    · have hc2 : ¬ ((l[i].toNat : Nat) : Int) = 49 := fun h => hc (UInt8.toNat_inj.1 (by show l[i].toNat = 49; omega))
      rw [if_neg hc2, if_neg hc, wrap_id (by omega) (by omega)]
      have := ih K (i + 1) (2 * a + 0) (by omega) (by omega) (by omega)
      rw [show ((i + 1 : Nat) : Int) = (i : Int) + 1 by omega, show ((2 * a + 0 : Nat) : Int) = (a : Int) * 2 by omega] at this
      exact this
theorem number_spec (l : List UInt8) (hl : l.length ≤ 62) (K : Nat) (hK : l.length < K) : sackbutref01_Number.f K (str l) = some ((numL l 0 : Nat) : Int) := by
  unfold sackbutref01_Number.f
  have := number_loop l hl l.length K 0 0 (by omega) hK (by decide)
  simpa using this
/-- Bytes as bits. -/
def bits8 (l : List Nat) : List UInt8 := l.flatMap (putL 8)
theorem bits8_length (l : List Nat) : (bits8 l).length = 8 * l.length := by
  unfold bits8
  induction l with
  | nil => rfl
  | cons x l ih => rw [List.flatMap_cons, List.length_append, putL_length, ih, List.length_cons]; omega
theorem numL_bits8 (l : List Nat) (h : ∀ x ∈ l, x < 256) : ∀ a, numL (bits8 l) a = l.foldl (fun a c => a * 256 + c) a := by
  induction l with
  | nil => intro a; rfl
  | cons x l ih =>
    intro a
    show numL (putL 8 x ++ bits8 l) a = _
    rw [numL_append, numL_putL, ih (fun y hy => h y (by simp [hy])), Nat.mod_eq_of_lt (h x (by simp))]
    rfl
end Go.Proofs.YtibmccacebhhkaaDoor.BitStr

