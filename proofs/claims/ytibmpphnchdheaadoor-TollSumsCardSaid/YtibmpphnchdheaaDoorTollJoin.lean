/- What the program's products, powers and joined sums come to, in plain numbers. -/
import Derived.Test.YtibmpphnchdheaaDoorTollSpec
import Derived.Test.YtibmpphnchdheaaDoorHTx6
import Derived.Test.YtibmpphnchdheaaDoorHTx6
import Derived.Test.YtibmpphnchdheaaDoorHTx9
namespace Go.Proofs.YtibmpphnchdheaaDoor.TollSpec
open Go Go.RowKit Go.Proofs.YtibmpphnchdheaaDoor.TollMath Go.Proofs.YtibmpphnchdheaaDoor.HT Go.Proofs.YtibmpphnchdheaaDoorW.PrintWords Go.Proofs.YtibmpphnchdheaaDoorW.PrintLast

theorem dvd_step (n a : Nat) (hn : n + 1 ≤ 32) (h : 2 ^ (32 - (n + 1)) ∣ a) : 2 ^ (32 - n) ∣ (a * 2) % 2 ^ 32 := by
  have hp : 2 ^ (32 - n) = 2 ^ (32 - (n + 1)) * 2 := by rw [show 32 - n = (32 - (n + 1)) + 1 by omega, Nat.pow_succ]
  have h1 : 2 ^ (32 - n) ∣ 2 ^ 32 := Nat.pow_dvd_pow 2 (by omega)
  refine (Nat.dvd_mod_iff h1).2 ?_
  rw [hp]
  exact Nat.mul_dvd_mul_right h 2
theorem times_loop : ∀ (n k a b o : Nat), n ≤ 32 → n < k → a < 2 ^ 32 → b < 2 ^ 32 → o < 2 ^ 32 → 2 ^ (32 - n) ∣ a → toll_times.l0 k (a : Int) (b : Int) (o : Int) = some ((T n a b o : Nat) : Int) := by
  intro n
  induction n with
  | zero =>
    intro k a b o _ hk ha hb ho hd
    obtain ⟨k, rfl⟩ : ∃ m, k = m + 1 := ⟨k - 1, by omega⟩
    have h0 : a = 0 := Nat.eq_zero_of_dvd_of_lt hd ha
    subst h0
    simp only [toll_times.l0]
    rfl
  | succ n ih =>
    intro k a b o hn hk ha hb ho hd
    obtain ⟨k, rfl⟩ : ∃ m, k = m + 1 := ⟨k - 1, by omega⟩
    have hd' := dvd_step n a hn hd
    clear hd
    have ha' : (a * 2) % 2 ^ 32 < 2 ^ 32 := Nat.mod_lt _ (by decide)
    have hbL : (if Go.bits .and .u32 (b : Int) 1 = 0 then ((b : Int) / 2) else Go.bits .xor .u32 ((b : Int) / 2) 3988292384) = ((L b : Nat) : Int) := by
      rw [and_one_u32 _ (by omega) (by omega)]
      unfold L
      by_cases h : b % 2 = 1
      · rw [if_neg (by omega), if_pos h, show ((b : Int) / 2) = ((b / 2 : Nat) : Int) by omega, show (3988292384 : Int) = ((P : Nat) : Int) from rfl, xor_u32 _ _ (by omega) (by decide)]
      · rw [if_pos (by omega), if_neg h, Nat.xor_zero]
        omega
    have ha2 : ((a : Int) * 2) % 4294967296 = (((a * 2) % 2 ^ 32 : Nat) : Int) := by omega
    have hT : ∀ o' : Nat, o' < 2 ^ 32 → toll_times.l0 k (((a : Int) * 2) % 4294967296) (if Go.bits .and .u32 (b : Int) 1 = 0 then ((b : Int) / 2) else Go.bits .xor .u32 ((b : Int) / 2) 3988292384) (o' : Int) = some ((T n ((a * 2) % 2 ^ 32) (L b) o' : Nat) : Int) := by
      intro o' ho'
      rw [hbL, ha2]
      exact ih k _ _ _ (by omega) (by omega) ha' (L_lt hb) ho' hd'
    clear hd' ih
    simp only [toll_times.l0]
    by_cases h0 : a = 0
    · subst h0
      rw [T_zero]
      rfl
    · rw [if_neg (by omega)]
      by_cases ht : 2 ^ 31 ≤ a
      · rw [if_neg (fun h => (and_top_u32 a ha).1 h ht)]
        have hx := hT (o ^^^ b) (Nat.xor_lt_two_pow ho hb)
        rw [xor_u32 o b ho hb]
        show _ = some ((T n _ _ (if 2 ^ 31 ≤ a then o ^^^ b else o) : Nat) : Int)
        rw [if_pos ht, ← hx]
        split <;> rfl
      · rw [if_pos ((and_top_u32 a ha).2 ht)]
        have hx := hT o ho
        show _ = some ((T n _ _ (if 2 ^ 31 ≤ a then o ^^^ b else o) : Nat) : Int)
        rw [if_neg ht, ← hx]
        split <;> rfl
theorem times_spec (a b k : Nat) (ha : a < 2 ^ 32) (hb : b < 2 ^ 32) (hk : 32 < k) : toll_times.f k (a : Int) (b : Int) = some ((T 32 a b 0 : Nat) : Int) :=
  times_loop 32 k a b 0 (by omega) hk ha hb (by decide) (by simp)
/-- The polynomial x to a number. -/
def pw (n : Nat) : Nat := Lp n (2 ^ 31)
theorem pw_lt (n : Nat) : pw n < 2 ^ 32 := Lp_lt n (by decide)
theorem times_pw (a j k : Nat) (ha : a < 2 ^ 32) (hk : 32 < k) : toll_times.f k (a : Int) ((pw j : Nat) : Int) = some ((Lp j a : Nat) : Int) := by
  rw [times_spec a _ k ha (pw_lt j) hk]
  unfold pw
  rw [T_power j a ha]
theorem times_pw2 (i j k : Nat) (hk : 32 < k) : toll_times.f k ((pw i : Nat) : Int) ((pw j : Nat) : Int) = some ((pw (i + j) : Nat) : Int) := by
  rw [times_pw _ _ _ (pw_lt i) hk]
  unfold pw
  rw [Lp_add]
theorem power_loop : ∀ (m k i j n : Nat), n < 2 ^ m → m ≤ 62 → m + 40 < k → toll_power.l1 k (n : Int) ((pw i : Nat) : Int) ((pw j : Nat) : Int) = some ((pw (i + j * n) : Nat) : Int) := by
  intro m
  induction m with
  | zero =>
    intro k i j n hn _ hk
    obtain ⟨k, rfl⟩ : ∃ m, k = m + 1 := ⟨k - 1, by omega⟩
    have h0 : n = 0 := by simpa using hn
    subst h0
    simp only [toll_power.l1]
    rfl
  | succ m ih =>
    intro k i j n hn hm hk
    obtain ⟨k, rfl⟩ : ∃ m, k = m + 1 := ⟨k - 1, by omega⟩
    have hn62 : n < 9223372036854775808 := Nat.lt_of_lt_of_le hn (Nat.le_trans (Nat.pow_le_pow_right (by decide) (show m + 1 ≤ 63 by omega)) (by decide))
    have hn2 : n / 2 < 2 ^ m := by rw [Nat.pow_succ] at hn; omega
    have hk' : m + 40 < k := by omega
    have hm' : m ≤ 62 := by omega
    clear hn
    simp only [toll_power.l1]
    by_cases h0 : n = 0
    · subst h0
      rfl
    · rw [if_pos (by omega), and_one_i64 _ (by omega) (by omega), times_pw2 j j k (by omega)]
      have hd : (n : Int) / 2 = ((n / 2 : Nat) : Int) := by omega
      rw [hd]
      by_cases h1 : n % 2 = 1
      · rw [if_pos (by omega), times_pw2 i j k (by omega), Option.bind_some, Option.bind_some, ih k (i + j) (j + j) (n / 2) hn2 hm' hk']
        have h2 : j * n = (j + j) * (n / 2) + j := by
          have : n = 2 * (n / 2) + 1 := by omega
          conv => lhs; rw [this]
          rw [Nat.mul_add, ← Nat.mul_assoc, Nat.mul_two, Nat.mul_one]
        rw [show i + j + (j + j) * (n / 2) = i + j * n by omega]
      · rw [if_neg (by omega), Option.bind_some, ih k i (j + j) (n / 2) hn2 hm' hk']
        have h2 : j * n = (j + j) * (n / 2) := by
          have : n = 2 * (n / 2) := by omega
          conv => lhs; rw [this]
          rw [← Nat.mul_assoc, Nat.mul_two]
        rw [h2]
theorem power_spec (n k : Nat) (hn : n < 2 ^ 62) (hk : 200 < k) : toll_power.f k (n : Int) = some ((pw (8 * n) : Nat) : Int) := by
  obtain ⟨k, rfl⟩ : ∃ m, k = m + 4 := ⟨k - 4, by omega⟩
  unfold toll_power.f
  rw [show (2147483648 : Int) = ((pw 0 : Nat) : Int) from rfl, show (1073741824 : Int) = ((pw 1 : Nat) : Int) from rfl]
  simp only [toll_power.l0, show wrap64 (0 + 1) = 1 by unfold wrap64; omega, show wrap64 (1 + 1) = 2 by unfold wrap64; omega, show wrap64 (2 + 1) = 3 by unfold wrap64; omega]
  rw [if_pos (by decide), times_pw2 1 1 _ (by omega), Option.bind_some, if_pos (by decide), times_pw2 _ _ _ (by omega), Option.bind_some, if_pos (by decide), times_pw2 _ _ _ (by omega), Option.bind_some, if_neg (by decide)]
  rw [power_loop 62 k 0 8 n hn (by omega) (by omega), Nat.zero_add]
theorem join_spec (a b n k : Nat) (ha : a < 2 ^ 32) (hb : b < 2 ^ 32) (hn : n < 2 ^ 62) (hk : 200 < k) : toll_Join.f k (a : Int) (b : Int) (n : Int) = some ((Lp (8 * n) a ^^^ b : Nat) : Int) := by
  unfold toll_Join.f
  rw [power_spec n k hn hk, Option.bind_some, times_pw a _ k ha (by omega), Option.bind_some, xor_u32 _ _ (Lp_lt _ ha) hb]
theorem join_crc (a b : List Int) (hb : Bytes b) : Lp (8 * b.length) (crc a) ^^^ crc b = crc (a ++ b) := by
  unfold crc
  rw [st_append]
  have h : st a full = full ^^^ (st a full ^^^ full) := by rw [TollMath.xor_comm (st a full), xor_cancel]
  conv => rhs; rw [h]
  rw [st_xor b hb, TollMath.xor_comm (st b full), TollMath.xor_comm (st b full), Nat.xor_assoc, TollMath.xor_comm full]
end Go.Proofs.YtibmpphnchdheaaDoor.TollSpec
