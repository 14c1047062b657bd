/- The sum of bytes, in plain numbers: a register that goes down by one bit is linear over exclusive or, and nothing but 0 goes to 0. -/
import Derived.Laws.BitsLemmas
import Derived.RowKit
namespace Go.Proofs.YtibmpphnchdheaaDoor.TollMath
open Go Go.RowKit

/-! ### exclusive or of plain numbers -/
theorem xor_comm (a b : Nat) : a ^^^ b = b ^^^ a := Nat.xor_comm a b
theorem xor_left_comm (a b c : Nat) : a ^^^ (b ^^^ c) = b ^^^ (a ^^^ c) := by rw [← Nat.xor_assoc, Nat.xor_comm a b, Nat.xor_assoc]
theorem xor_cancel (a b : Nat) : a ^^^ (a ^^^ b) = b := by rw [← Nat.xor_assoc, Nat.xor_self, Nat.zero_xor]
theorem xor_cancel_right (a b : Nat) : (a ^^^ b) ^^^ b = a := by rw [Nat.xor_assoc, Nat.xor_self, Nat.xor_zero]
theorem eq_of_xor (a b : Nat) (h : a ^^^ b = 0) : a = b := by
  have : a ^^^ (a ^^^ b) = a ^^^ 0 := by rw [h]
  rw [xor_cancel, Nat.xor_zero] at this
  exact this.symm
theorem xor_add (i a b : Nat) (h : b < 2 ^ i) : (2 ^ i * a) ^^^ b = 2 ^ i * a + b := by
  apply Nat.eq_of_testBit_eq
  intro j
  rw [Nat.testBit_xor, Nat.testBit_two_pow_mul_add a h j, Nat.testBit_two_pow_mul]
  by_cases hj : j < i
  · simp [hj, Nat.not_le.2 hj]
  · have hb : b.testBit j = false := Nat.testBit_lt_two_pow (Nat.lt_of_lt_of_le h (Nat.pow_le_pow_right (by decide) (Nat.not_lt.1 hj)))
    simp [hj, hb, Nat.not_lt.1 hj]

/-! ### the register -/
def P : Nat := 3988292384
def L (s : Nat) : Nat := (s / 2) ^^^ (if s % 2 = 1 then P else 0)
theorem L_zero : L 0 = 0 := by decide
theorem L_xor (a b : Nat) : L (a ^^^ b) = L a ^^^ L b := by
  unfold L
  rw [Nat.xor_div_two]
  have h : (a ^^^ b) % 2 = (a % 2) ^^^ (b % 2) := by
    have := @Nat.xor_mod_two_pow a b 1
    simpa using this
  rw [h]
  rcases Nat.mod_two_eq_zero_or_one a with ha | ha <;> rcases Nat.mod_two_eq_zero_or_one b with hb | hb <;> rw [ha, hb]
  · simp
  · simp only [Nat.zero_xor, Nat.reduceEqDiff, if_true, if_false, Nat.xor_zero, Nat.xor_assoc]
  · simp only [Nat.xor_zero, if_true]
    rw [if_neg (by decide), Nat.xor_zero, Nat.xor_assoc, Nat.xor_assoc, xor_comm P]
  · rw [if_neg (by decide), if_pos rfl, Nat.xor_zero, Nat.xor_assoc, xor_left_comm P, Nat.xor_self, Nat.xor_zero]
theorem L_double (s : Nat) : L (2 * s) = s := by
  unfold L
  rw [if_neg (by omega), Nat.xor_zero]
  omega
theorem L_lt {s : Nat} (h : s < 2 ^ 32) : L s < 2 ^ 32 := by
  unfold L
  refine Nat.xor_lt_two_pow (by omega) ?_
  split
  · decide
  · decide
theorem L_eq_zero {s : Nat} (h : s < 2 ^ 32) (e : L s = 0) : s = 0 := by
  unfold L at e
  by_cases h1 : s % 2 = 1
  · rw [if_pos h1] at e
    have := eq_of_xor _ _ e
    unfold P at this
    omega
  · rw [if_neg h1, Nat.xor_zero] at e
    omega

def Lp : Nat → Nat → Nat
  | 0, s => s
  | n + 1, s => Lp n (L s)
theorem Lp_add (m n s : Nat) : Lp (m + n) s = Lp n (Lp m s) := by
  induction m generalizing s with
  | zero => simp [Lp]
  | succ m ih => rw [Nat.add_right_comm]; exact ih (L s)
theorem Lp_L (n s : Nat) : Lp n (L s) = L (Lp n s) := by
  have h1 : Lp (1 + n) s = Lp n (Lp 1 s) := Lp_add 1 n s
  have h2 : Lp (n + 1) s = Lp 1 (Lp n s) := Lp_add n 1 s
  rw [Nat.add_comm] at h1
  rw [h1] at h2
  exact h2
theorem Lp_xor (n a b : Nat) : Lp n (a ^^^ b) = Lp n a ^^^ Lp n b := by
  induction n generalizing a b with
  | zero => rfl
  | succ n ih => show Lp n (L (a ^^^ b)) = _; rw [L_xor, ih]; rfl
theorem Lp_zero (n : Nat) : Lp n 0 = 0 := by
  induction n with
  | zero => rfl
  | succ n ih => show Lp n (L 0) = 0; rw [L_zero, ih]
theorem Lp_lt (n : Nat) {s : Nat} (h : s < 2 ^ 32) : Lp n s < 2 ^ 32 := by
  induction n generalizing s with
  | zero => exact h
  | succ n ih => exact ih (L_lt h)
theorem Lp_eq_zero (n : Nat) {s : Nat} (h : s < 2 ^ 32) (e : Lp n s = 0) : s = 0 := by
  induction n generalizing s with
  | zero => exact e
  | succ n ih => exact L_eq_zero h (ih (L_lt h) e)
theorem Lp_shift (n s : Nat) : Lp n (2 ^ n * s) = s := by
  induction n generalizing s with
  | zero => simp [Lp]
  | succ n ih =>
    show Lp n (L (2 ^ (n + 1) * s)) = s
    have : 2 ^ (n + 1) * s = 2 * (2 ^ n * s) := by rw [Nat.pow_succ, Nat.mul_comm (2 ^ n) 2, Nat.mul_assoc]
    rw [this, L_double, ih]

/-! ### the table of four bits -/
def tab : List Nat := [0, 498536548, 997073096, 651767980, 1994146192, 1802195444, 1303535960, 1342533948, 3988292384, 4027552580, 3604390888, 3412177804, 2607071920, 2262029012, 2685067896, 3183342108]
theorem tab_eq : ∀ r, r < 16 → Lp 4 r = tab.getD r 0 := by decide
theorem half_eq (s : Nat) : (s / 16) ^^^ tab.getD (s % 16) 0 = Lp 4 s := by
  have h : s = (2 ^ 4 * (s / 16)) ^^^ (s % 16) := by rw [xor_add 4 _ _ (by omega)]; omega
  rw [← tab_eq _ (by omega)]
  conv => rhs; rw [h]
  rw [Lp_xor, Lp_shift]

/-! ### bytes: the register behind them is a function of the great number that they are -/
def val : List Int → Nat
  | [] => 0
  | c :: l => c.toNat + 256 * val l
def st : List Int → Nat → Nat
  | [], s => s
  | c :: l, s => st l (Lp 8 (s ^^^ c.toNat))
def Bytes (l : List Int) : Prop := ∀ x ∈ l, 0 ≤ x ∧ x < 256
theorem Bytes.cons {c : Int} {l : List Int} (h : Bytes (c :: l)) : (0 ≤ c ∧ c < 256) ∧ Bytes l := ⟨h c (by simp), fun x hx => h x (by simp [hx])⟩
theorem st_eq (l : List Int) (h : Bytes l) (s : Nat) : st l s = Lp (8 * l.length) (s ^^^ val l) := by
  induction l generalizing s with
  | nil => simp [st, val, Lp]
  | cons c l ih =>
    obtain ⟨hc, hl⟩ := h.cons
    show st l (Lp 8 (s ^^^ c.toNat)) = _
    rw [ih hl, List.length_cons, show 8 * (l.length + 1) = 8 + 8 * l.length by omega, Lp_add]
    show _ = Lp _ (Lp 8 (s ^^^ (c.toNat + 256 * val l)))
    have hv : c.toNat + 256 * val l = (2 ^ 8 * val l) ^^^ c.toNat := by rw [xor_add 8 _ _ (by omega)]; omega
    rw [hv, Lp_xor 8 s (_ ^^^ _), Lp_xor 8 (2 ^ 8 * val l), Lp_shift, Lp_xor 8 s, Nat.xor_assoc, xor_comm (val l)]
theorem st_append (a b : List Int) (s : Nat) : st (a ++ b) s = st b (st a s) := by
  induction a generalizing s with
  | nil => rfl
  | cons c l ih => exact ih _
theorem st_lt (l : List Int) (h : Bytes l) {s : Nat} (hs : s < 2 ^ 32) : st l s < 2 ^ 32 := by
  induction l generalizing s with
  | nil => exact hs
  | cons c l ih =>
    obtain ⟨hc, hl⟩ := h.cons
    exact ih hl (Lp_lt 8 (Nat.xor_lt_two_pow hs (by omega)))
theorem st_xor (l : List Int) (h : Bytes l) (s d : Nat) : st l (s ^^^ d) = st l s ^^^ Lp (8 * l.length) d := by
  rw [st_eq l h, st_eq l h, ← Lp_xor]
  congr 1
  rw [Nat.xor_assoc, Nat.xor_assoc, xor_comm d]
def full : Nat := 4294967295
/-- The sum of bytes. -/
def crc (l : List Int) : Nat := st l full ^^^ full
theorem crc_lt (l : List Int) (h : Bytes l) : crc l < 2 ^ 32 := Nat.xor_lt_two_pow (st_lt l h (by decide)) (by decide)
/-- Bytes of one length whose great numbers differ in a window of 32 bits have unlike sums. -/
theorem crc_window (a b : List Int) (ha : Bytes a) (hb : Bytes b) (hl : a.length = b.length) (e m : Nat) (he : e < 2 ^ 32) (hv : val a ^^^ val b = 2 ^ m * e) (hm : m ≤ 8 * a.length) :
    crc a = crc b ↔ e = 0 := by
  unfold crc
  have h : st a full ^^^ st b full = Lp (8 * a.length - m) e := by
    rw [st_eq a ha, st_eq b hb, ← hl, ← Lp_xor]
    have : (full ^^^ val a) ^^^ (full ^^^ val b) = 2 ^ m * e := by
      rw [← hv, Nat.xor_assoc, xor_left_comm (val a), xor_cancel]
    rw [this, show 8 * a.length = m + (8 * a.length - m) by omega, Lp_add, Lp_shift, show m + (8 * a.length - m) - m = 8 * a.length - m by omega]
  constructor
  · intro h1
    have h2 : st a full = st b full := by
      have h3 : (st a full ^^^ full) ^^^ full = (st b full ^^^ full) ^^^ full := by rw [h1]
      rwa [xor_cancel_right, xor_cancel_right] at h3
    rw [h2, Nat.xor_self] at h
    exact Lp_eq_zero _ he h.symm
  · rintro rfl
    rw [Lp_zero] at h
    rw [eq_of_xor _ _ h]

/-! ### products -/
def T : Nat → Nat → Nat → Nat → Nat
  | 0, _, _, o => o
  | n + 1, a, b, o => T n ((a * 2) % 2 ^ 32) (L b) (if 2 ^ 31 ≤ a then o ^^^ b else o)
theorem T_out (n a b o : Nat) : T n a b o = o ^^^ T n a b 0 := by
  induction n generalizing a b o with
  | zero => simp [T]
  | succ n ih =>
    show T n _ _ _ = o ^^^ T n _ _ _
    split
    · rw [ih, ih _ _ (0 ^^^ b), Nat.zero_xor, Nat.xor_assoc]
    · exact ih _ _ _
theorem T_zero (n b o : Nat) : T n 0 b o = o := by
  induction n generalizing b o with
  | zero => rfl
  | succ n ih => show T n _ _ _ = o; rw [if_neg (by decide)]; exact ih _ _
theorem T_L (n a b : Nat) : T n a (L b) 0 = L (T n a b 0) := by
  induction n generalizing a b with
  | zero => exact L_zero.symm
  | succ n ih =>
    show T n _ _ _ = L (T n _ _ _)
    split
    · rw [T_out, ih, T_out n _ (L b) (0 ^^^ b), L_xor, Nat.zero_xor, Nat.zero_xor]
    · exact ih _ _
theorem T_Lp (m a b : Nat) : T 32 a (Lp m b) 0 = Lp m (T 32 a b 0) := by
  induction m generalizing b with
  | zero => rfl
  | succ m ih => show T 32 a (Lp m (L b)) 0 = Lp m (L _); rw [ih, T_L]
theorem T_unit (n : Nat) (hn : n ≤ 32) (c o : Nat) (hc : c < 2 ^ n) : T n (c * 2 ^ (32 - n)) (2 ^ n / 2) o = o ^^^ c := by
  induction n generalizing c o with
  | zero => have : c = 0 := by simpa using hc
            subst this; simp [T]
  | succ n ih =>
    have hp : 2 ^ (32 - n) = 2 * 2 ^ (32 - (n + 1)) := by
      rw [show 32 - n = (32 - (n + 1)) + 1 by omega, Nat.pow_succ, Nat.mul_comm]
    have hq : 2 ^ n * 2 ^ (32 - (n + 1)) = 2 ^ 31 := by rw [← Nat.pow_add]; congr 1; omega
    have hpos : 0 < 2 ^ (32 - (n + 1)) := Nat.two_pow_pos _
    generalize 2 ^ (32 - (n + 1)) = p at hp hq hpos ⊢
    have h2 : 2 ^ (n + 1) / 2 = 2 ^ n := by rw [Nat.pow_succ]; omega
    have hmod : (c * p * 2) % 2 ^ 32 = (c % 2 ^ n) * 2 ^ (32 - n) := by
      rw [hp, show (2 : Nat) ^ 32 = (2 * p) * 2 ^ n by rw [Nat.mul_assoc, Nat.mul_comm p, hq], show c * p * 2 = (2 * p) * c by rw [Nat.mul_comm (c * p), Nat.mul_comm c p, Nat.mul_assoc], Nat.mul_mod_mul_left, Nat.mul_comm]
    have hL : L (2 ^ n) = 2 ^ n / 2 ∨ n = 0 := by
      rcases Nat.eq_zero_or_pos n with h0 | h0
      · exact .inr h0
      · left
        obtain ⟨m, rfl⟩ : ∃ m, n = m + 1 := ⟨n - 1, by omega⟩
        rw [Nat.pow_succ, Nat.mul_comm, L_double]
        omega
    show T n ((c * p * 2) % 2 ^ 32) (L (2 ^ (n + 1) / 2)) (if 2 ^ 31 ≤ c * p then o ^^^ (2 ^ (n + 1) / 2) else o) = o ^^^ c
    have hcm : c % 2 ^ n < 2 ^ n := Nat.mod_lt _ (Nat.two_pow_pos n)
    have hTn : ∀ o', T n ((c % 2 ^ n) * 2 ^ (32 - n)) (L (2 ^ n)) o' = o' ^^^ (c % 2 ^ n) := by
      intro o'
      rcases hL with h | rfl
      · rw [h]; exact ih (by omega) _ _ hcm
      · have : c % 2 ^ 0 = 0 := Nat.mod_one c
        rw [this]; simp [T]
    rw [hmod, h2, hTn]
    have hge : 2 ^ 31 ≤ c * p ↔ 2 ^ n ≤ c := by
      rw [← hq]
      exact ⟨fun h => Nat.le_of_mul_le_mul_right h hpos, fun h => Nat.mul_le_mul_right p h⟩
    by_cases hb : 2 ^ n ≤ c
    · rw [if_pos (hge.2 hb)]
      have h1 : c = (2 ^ n * 1) ^^^ (c % 2 ^ n) := by
        rw [xor_add n 1 _ hcm]
        have : c % 2 ^ n = c - 2 ^ n := by
          rw [Nat.mod_eq_sub_mod hb, Nat.mod_eq_of_lt (by rw [Nat.pow_succ] at hc; omega)]
        omega
      conv => rhs; rw [h1]
      rw [Nat.mul_one, Nat.xor_assoc]
    · rw [if_neg (fun h => hb (hge.1 h)), Nat.mod_eq_of_lt (Nat.lt_of_not_le hb)]
theorem T_one (a : Nat) (h : a < 2 ^ 32) : T 32 a (2 ^ 31) 0 = a := by
  have := T_unit 32 (Nat.le_refl _) a 0 h
  simpa using this
/-- A product with a power of x is that many steps of the register. -/
theorem T_power (m a : Nat) (h : a < 2 ^ 32) : T 32 a (Lp m (2 ^ 31)) 0 = Lp m a := by rw [T_Lp, T_one a h]

/-! ### Go's words -/
theorem bits_xor (k : IntKind) (j : Nat) (hj : j ≤ k.bits) (hk : ∀ n : Int, 0 ≤ n → n < 2 ^ j → k.wrap n = n) (a b : Nat) (ha : a < 2 ^ j) (hb : b < 2 ^ j) : Go.bits .xor k (a : Int) (b : Int) = ((a ^^^ b : Nat) : Int) := by
  have hp : 2 ^ j ≤ 2 ^ k.bits := Nat.pow_le_pow_right (by decide) hj
  have ha' : a % 2 ^ k.bits = a := Nat.mod_eq_of_lt (Nat.lt_of_lt_of_le ha hp)
  have hb' : b % 2 ^ k.bits = b := Nat.mod_eq_of_lt (Nat.lt_of_lt_of_le hb hp)
  have cast : ∀ n : Nat, n < 2 ^ j → ((n : Nat) : Int) < 2 ^ j := fun n h => by exact_mod_cast h
  simp only [Go.bits, BitVec.ofInt_natCast, BitVec.toNat_xor, BitVec.toNat_ofNat, ha', hb']
  exact hk _ (Int.natCast_nonneg _) (cast _ (Nat.xor_lt_two_pow ha hb))
theorem xor_u32 (a b : Nat) (ha : a < 2 ^ 32) (hb : b < 2 ^ 32) : Go.bits .xor .u32 (a : Int) (b : Int) = ((a ^^^ b : Nat) : Int) :=
  bits_xor .u32 32 (by decide) (fun n h0 h1 => by rw [IntKind.wrap_u32]; omega) a b ha hb
theorem xor_u8 (a b : Nat) (ha : a < 2 ^ 8) (hb : b < 2 ^ 8) : Go.bits .xor .u8 (a : Int) (b : Int) = ((a ^^^ b : Nat) : Int) :=
  bits_xor .u8 8 (by decide) wraps_u8 a b ha hb
theorem and_one_u32 (x : Int) (h0 : 0 ≤ x) (h1 : x < 4294967296) : Go.bits .and .u32 x 1 = x % 2 := by
  have h := bits_mask .u32 32 (by decide) (fun n h0 h1 => by rw [IntKind.wrap_u32]; omega) 1 (by decide) x h0 h1
  simpa using h
theorem and_one_i64 (x : Int) (h0 : 0 ≤ x) (h1 : x < 9223372036854775808) : Go.bits .and .i64 x 1 = x % 2 := by
  have h := bits_mask .i64 63 (by decide) (fun n h0 h1 => by rw [IntKind.wrap_i64]; omega) 1 (by decide) x h0 h1
  simpa using h
theorem and_top_u32 (a : Nat) (h : a < 2 ^ 32) : Go.bits .and .u32 (a : Int) 2147483648 = 0 ↔ ¬ 2 ^ 31 ≤ a := by
  have h1 := (bits_nat .u32 32 (by decide) (fun n h0 h1 => by rw [IntKind.wrap_u32]; omega) a 2147483648 h (by decide)).1
  rw [show (2147483648 : Int) = ((2147483648 : Nat) : Int) from rfl, h1]
  have h2 : a &&& 2147483648 = if 2 ^ 31 ≤ a then 2147483648 else 0 := by
    apply Nat.eq_of_testBit_eq
    intro j
    rw [show (2147483648 : Nat) = 2 ^ 31 from rfl, Nat.testBit_and, Nat.testBit_two_pow]
    by_cases hj : 31 = j
    · subst hj
      have : a.testBit 31 = decide (2 ^ 31 ≤ a) := by
        rw [Nat.testBit_eq_decide_div_mod_eq]
        congr 1
        rw [eq_iff_iff]
        omega
      rw [this]
      by_cases h3 : 2 ^ 31 ≤ a
      · rw [if_pos h3, Nat.testBit_two_pow_self]; simp [h3]
      · rw [if_neg h3]; simp [h3]
    · split
      · rw [Nat.testBit_two_pow]; simp [hj]
      · simp [hj]
  rw [h2]
  split <;> simp_all
end Go.Proofs.YtibmpphnchdheaaDoor.TollMath
