/- VaultUnpacks: what the claim's theorem reaches of this seat's texts, part 21, put together by this project's own program (bale.py); conditions: those of each theorem. -/
import Derived.Laws.BitsLemmas
import Derived.RowKit
namespace Go.Proofs.YtibmccacebhhkaaDoor.TollMath
open Go Go.RowKit

/-! ### exclusive or of plain numbers -/
theorem xor_comm (a b : Nat) : a ^^^ b = b ^^^ a := Nat.xor_comm a b
theorem xor_left_comm (a b c : Nat) : a ^^^ (b ^^^ c) = b ^^^ (a ^^^ c) := by rw [← Nat.xor_assoc, Nat.xor_comm a b, Nat.xor_assoc]
theorem xor_add (i a b : Nat) (h : b < 2 ^ i) : (2 ^ i * a) ^^^ b = 2 ^ i * a + b := by
  apply Nat.eq_of_testBit_eq
  intro j
  rw [Nat.testBit_xor, Nat.testBit_two_pow_mul_add a h j, Nat.testBit_two_pow_mul]
  by_cases hj : j < i
  · simp [hj, Nat.not_le.2 hj]
  · have hb : b.testBit j = false := Nat.testBit_lt_two_pow (Nat.lt_of_lt_of_le h (Nat.pow_le_pow_right (by decide) (Nat.not_lt.1 hj)))
    simp [hj, hb, Nat.not_lt.1 hj]

/-! ### the register -/
def P : Nat := 3988292384
def L (s : Nat) : Nat := (s / 2) ^^^ (if s % 2 = 1 then P else 0)
theorem L_xor (a b : Nat) : L (a ^^^ b) = L a ^^^ L b := by
  unfold L
  rw [Nat.xor_div_two]
  have h : (a ^^^ b) % 2 = (a % 2) ^^^ (b % 2) := by
    have := @Nat.xor_mod_two_pow a b 1
    simpa using this
  rw [h]
  rcases Nat.mod_two_eq_zero_or_one a with ha | ha <;> rcases Nat.mod_two_eq_zero_or_one b with hb | hb <;> rw [ha, hb]
  · simp
  · simp only [Nat.zero_xor, Nat.reduceEqDiff, if_true, if_false, Nat.xor_zero, Nat.xor_assoc]
  · simp only [Nat.xor_zero, if_true]
    rw [if_neg (by decide), Nat.xor_zero, Nat.xor_assoc, Nat.xor_assoc, xor_comm P]
  · rw [if_neg (by decide), if_pos rfl, Nat.xor_zero, Nat.xor_assoc, xor_left_comm P, Nat.xor_self, Nat.xor_zero]
theorem L_double (s : Nat) : L (2 * s) = s := by
  unfold L
  rw [if_neg (by omega), Nat.xor_zero]
  omega
theorem L_lt {s : Nat} (h : s < 2 ^ 32) : L s < 2 ^ 32 := by
  unfold L
  refine Nat.xor_lt_two_pow (by omega) ?_
  split
  · decide
  · decide
def Lp : Nat → Nat → Nat
  | 0, s => s
  | n + 1, s => Lp n (L s)
theorem Lp_add (m n s : Nat) : Lp (m + n) s = Lp n (Lp m s) := by
  induction m generalizing s with
  | zero => simp [Lp]
  | succ m ih => rw [Nat.add_right_comm]; exact ih (L s)
theorem Lp_xor (n a b : Nat) : Lp n (a ^^^ b) = Lp n a ^^^ Lp n b := by
  induction n generalizing a b with
  | zero => rfl
  | succ n ih => show Lp n (L (a ^^^ b)) = _; rw [L_xor, ih]; rfl
theorem Lp_lt (n : Nat) {s : Nat} (h : s < 2 ^ 32) : Lp n s < 2 ^ 32 := by
  induction n generalizing s with
  | zero => exact h
  | succ n ih => exact ih (L_lt h)
theorem Lp_shift (n s : Nat) : Lp n (2 ^ n * s) = s := by
  induction n generalizing s with
  | zero => simp [Lp]
  | succ n ih =>
    show Lp n (L (2 ^ (n + 1) * s)) = s
    have : 2 ^ (n + 1) * s = 2 * (2 ^ n * s) := by rw [Nat.pow_succ, Nat.mul_comm (2 ^ n) 2, Nat.mul_assoc]
    rw [this, L_double, ih]

/-! ### the table of four bits -/
def tab : List Nat := [0, 498536548, 997073096, 651767980, 1994146192, 1802195444, 1303535960, 1342533948, 3988292384, 4027552580, 3604390888, 3412177804, 2607071920, 2262029012, 2685067896, 3183342108]
theorem tab_eq : ∀ r, r < 16 → Lp 4 r = tab.getD r 0 := by decide
theorem half_eq (s : Nat) : (s / 16) ^^^ tab.getD (s % 16) 0 = Lp 4 s := by
  have h : s = (2 ^ 4 * (s / 16)) ^^^ (s % 16) := by rw [xor_add 4 _ _ (by omega)]; omega
  rw [← tab_eq _ (by omega)]
  conv => rhs; rw [h]
  rw [Lp_xor, Lp_shift]

def st : List Int → Nat → Nat
  | [], s => s
  | c :: l, s => st l (Lp 8 (s ^^^ c.toNat))
def Bytes (l : List Int) : Prop := ∀ x ∈ l, 0 ≤ x ∧ x < 256
theorem Bytes.cons {c : Int} {l : List Int} (h : Bytes (c :: l)) : (0 ≤ c ∧ c < 256) ∧ Bytes l := ⟨h c (by simp), fun x hx => h x (by simp [hx])⟩
theorem st_lt (l : List Int) (h : Bytes l) {s : Nat} (hs : s < 2 ^ 32) : st l s < 2 ^ 32 := by
  induction l generalizing s with
  | nil => exact hs
  | cons c l ih =>
    obtain ⟨hc, hl⟩ := h.cons
    exact ih hl (Lp_lt 8 (Nat.xor_lt_two_pow hs (by omega)))
def full : Nat := 4294967295
/-- The sum of bytes. -/
def crc (l : List Int) : Nat := st l full ^^^ full
theorem crc_lt (l : List Int) (h : Bytes l) : crc l < 2 ^ 32 := Nat.xor_lt_two_pow (st_lt l h (by decide)) (by decide)
/-! ### Go's words -/
theorem bits_xor (k : IntKind) (j : Nat) (hj : j ≤ k.bits) (hk : ∀ n : Int, 0 ≤ n → n < 2 ^ j → k.wrap n = n) (a b : Nat) (ha : a < 2 ^ j) (hb : b < 2 ^ j) : Go.bits .xor k (a : Int) (b : Int) = ((a ^^^ b : Nat) : Int) := by
  have hp : 2 ^ j ≤ 2 ^ k.bits := Nat.pow_le_pow_right (by decide) hj
  have ha' : a % 2 ^ k.bits = a := Nat.mod_eq_of_lt (Nat.lt_of_lt_of_le ha hp)
  have hb' : b % 2 ^ k.bits = b := Nat.mod_eq_of_lt (Nat.lt_of_lt_of_le hb hp)
  have cast : ∀ n : Nat, n < 2 ^ j → ((n : Nat) : Int) < 2 ^ j := fun n h => by exact_mod_cast h
  simp only [Go.bits, BitVec.ofInt_natCast, BitVec.toNat_xor, BitVec.toNat_ofNat, ha', hb']
  exact hk _ (Int.natCast_nonneg _) (cast _ (Nat.xor_lt_two_pow ha hb))
theorem xor_u32 (a b : Nat) (ha : a < 2 ^ 32) (hb : b < 2 ^ 32) : Go.bits .xor .u32 (a : Int) (b : Int) = ((a ^^^ b : Nat) : Int) :=
  bits_xor .u32 32 (by decide) (fun n h0 h1 => by rw [IntKind.wrap_u32]; omega) a b ha hb
end Go.Proofs.YtibmccacebhhkaaDoor.TollMath

