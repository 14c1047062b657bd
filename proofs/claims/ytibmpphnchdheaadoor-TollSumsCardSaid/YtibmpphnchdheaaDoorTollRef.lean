/- The document's sum of bytes, bit by bit, is the program's; so is that of bytes 0. By this project's prover (an AI agent). -/
import Derived.Test.YtibmpphnchdheaaDoorTollJoin
import Derived.Test.YtibmpphnchdheaaDoorHTx6
import Derived.Test.YtibmpphnchdheaaDoorHTx7
namespace Go.Proofs.YtibmpphnchdheaaDoor.TollSpec
open Go Go.RowKit Go.Proofs.YtibmpphnchdheaaDoor.TollMath Go.Proofs.YtibmpphnchdheaaDoor.HT Go.Proofs.YtibmpphnchdheaaDoorW.PrintWords Go.Proofs.YtibmpphnchdheaaDoorW.PrintLast

theorem L_bit (s b : Nat) (hb : b < 2) : L (s ^^^ b) = (s / 2) ^^^ (if (s % 2 = 1) = (b = 1) then 0 else P) := by
  unfold L
  have h2 : (s ^^^ b) / 2 = s / 2 := by rw [Nat.xor_div_two, show b / 2 = 0 by omega, Nat.xor_zero]
  have h : (s ^^^ b) % 2 = (s % 2) ^^^ (b % 2) := by
    have := @Nat.xor_mod_two_pow s b 1
    simpa using this
  rw [h2, h]
  rcases Nat.mod_two_eq_zero_or_one s with e | e <;> rcases (show b = 0 ∨ b = 1 by omega) with rfl | rfl <;> rw [e] <;> simp
theorem ref_bit (s b : Nat) (hs : s < 2 ^ 32) (hb : b < 2) : sackbutref04_bit.f (s : Int) (((b : Nat) : Int) == 1) = some ((L (s ^^^ b) : Nat) : Int) := by
  unfold sackbutref04_bit.f
  have h1 : Int.tmod (s : Int) 2 = ((s % 2 : Nat) : Int) := by rw [Int.tmod_eq_emod_of_nonneg (by omega)]; omega
  have h2 : Int.tdiv (s : Int) 2 = ((s / 2 : Nat) : Int) := by rw [Int.tdiv_eq_ediv_of_nonneg (by omega)]; omega
  have h3 : ((s / 2 : Nat) : Int) % 4294967296 = ((s / 2 : Nat) : Int) := by omega
  rw [h1, h2, h3, L_bit s b hb, show (3988292384 : Int) = ((P : Nat) : Int) from rfl, xor_u32 _ _ (by omega) (by decide)]
  rcases Nat.mod_two_eq_zero_or_one s with e | e <;> rcases (show b = 0 ∨ b = 1 by omega) with rfl | rfl <;> rw [e] <;> simp
theorem ref_byte : ∀ (d K i s c : Nat), i + d = 8 → d < K → s < 2 ^ 32 → c < 2 ^ d → sackbutref04_byteOf.l0 K (s : Int) (c : Int) (i : Int) = some ((Lp d (s ^^^ c) : Nat) : Int) := by
  intro d
  induction d with
  | zero =>
    intro K i s c hi hK hs hc
    obtain ⟨K, rfl⟩ : ∃ m, K = m + 1 := ⟨K - 1, by omega⟩
    have h0 : c = 0 := by simpa using hc
    subst h0
    simp only [sackbutref04_byteOf.l0]
    rw [if_neg (by omega), Nat.xor_zero]; rfl
  | succ d ih =>
    intro K i s c hi hK hs hc
    obtain ⟨K, rfl⟩ : ∃ m, K = m + 1 := ⟨K - 1, by omega⟩
    have hc2 : c / 2 < 2 ^ d := by rw [Nat.pow_succ] at hc; omega
    have h256 : c < 256 := Nat.lt_of_lt_of_le hc (Nat.le_trans (Nat.pow_le_pow_right (by decide) (show d + 1 ≤ 8 by omega)) (by decide))
    have h1 : Int.tmod (c : Int) 2 = ((c % 2 : Nat) : Int) := by rw [Int.tmod_eq_emod_of_nonneg (by omega)]; omega
    have h2 : Int.tdiv (c : Int) 2 % 256 = ((c / 2 : Nat) : Int) := by rw [Int.tdiv_eq_ediv_of_nonneg (by omega)]; omega
    have hx : s ^^^ (c % 2) < 2 ^ 32 := Nat.xor_lt_two_pow hs (by omega)
    have hlin : L (s ^^^ c) = L (s ^^^ (c % 2)) ^^^ (c / 2) := by
      have e : c = (2 ^ 1 * (c / 2)) ^^^ (c % 2) := by rw [xor_add 1 _ _ (by omega)]; omega
      conv => lhs; rw [e]
      rw [Nat.xor_comm (2 ^ 1 * (c / 2)), ← Nat.xor_assoc, L_xor, show 2 ^ 1 * (c / 2) = 2 * (c / 2) from rfl, L_double]
    clear hc
    simp only [sackbutref04_byteOf.l0]
    rw [if_pos (by omega), h1, ref_bit s (c % 2) hs (by omega), Option.bind_some, h2, wrap_id (by omega) (by omega)]
    have := ih K (i + 1) (L (s ^^^ (c % 2))) (c / 2) (by omega) (by omega) (L_lt hx) hc2
    rw [show ((i + 1 : Nat) : Int) = (i : Int) + 1 by omega] at this
    rw [this]
    show _ = some ((Lp d (L (s ^^^ c)) : Nat) : Int)
    rw [hlin]
theorem xor_full (s : Nat) (h : s < 2 ^ 32) : s ^^^ full = full - s := by
  have h1 : (BitVec.ofNat 32 s ^^^ BitVec.allOnes 32).toNat = (~~~ BitVec.ofNat 32 s).toNat := by rw [BitVec.xor_allOnes]
  rw [BitVec.toNat_xor, BitVec.toNat_not, BitVec.toNat_allOnes, BitVec.toNat_ofNat, Nat.mod_eq_of_lt h] at h1
  exact h1
theorem ref_loop (l : List Int) (hb : Bytes l) (hl : l.length ≤ 100000) : ∀ (d K j s : Nat), j + d = l.length → d + 20 < K → s < 2 ^ 32 →
    sackbutref04_Sum.l0 K l (s : Int) (l.length : Int) (j : Int) = some (((st (l.drop j) s ^^^ full : Nat)) : Int) := by
  intro d
  induction d with
  | zero =>
    intro K j s hj hK hs
    obtain ⟨K, rfl⟩ : ∃ m, K = m + 1 := ⟨K - 1, by omega⟩
    simp only [sackbutref04_Sum.l0]
    rw [if_neg (by omega), List.drop_eq_nil_of_le (by omega)]
    show _ = some (((s ^^^ full : Nat)) : Int)
    rw [xor_full s hs]
    have h3 : full - s ≤ 4294967295 := Nat.sub_le _ _
    have h4 : ((full - s : Nat) : Int) = 4294967295 - (s : Int) := by unfold full; omega
    rw [h4]
    congr 1
    omega
  | succ d ih =>
    intro K j s hj hK hs
    obtain ⟨K, rfl⟩ : ∃ m, K = m + 1 := ⟨K - 1, by omega⟩
    have hj' : j < l.length := by omega
    have hc := hb l[j] (List.getElem_mem hj')
    simp only [sackbutref04_Sum.l0]
    have hby := ref_byte 8 K 0 s l[j].toNat (by omega) (by omega) hs (by omega)
    rw [show ((l[j].toNat : Nat) : Int) = l[j] by omega] at hby
    rw [if_pos (by omega), if_pos (by omega), if_pos (by omega), rd_nat l j hj']
    unfold sackbutref04_byteOf.f
    rw [show (0 : Int) = ((0 : Nat) : Int) from rfl, hby, Option.bind_some, wrap_id (by omega) (by omega)]
    have := ih K (j + 1) _ (by omega) (by omega) (Lp_lt 8 (Nat.xor_lt_two_pow hs (show l[j].toNat < 2 ^ 32 by omega)))
    rw [show ((j + 1 : Nat) : Int) = (j : Int) + 1 by omega] at this
    rw [this, List.drop_eq_getElem_cons hj']
    rfl
theorem ref_sum_spec (l : List Int) (hb : Bytes l) (hl : l.length ≤ 100000) (K : Nat) (hK : l.length + 20 < K) : sackbutref04_Sum.f K l = some ((crc l : Nat) : Int) := by
  unfold sackbutref04_Sum.f
  have := ref_loop l hb hl l.length K 0 full (by omega) hK (by decide)
  rw [show ((full : Nat) : Int) = 4294967295 from rfl, List.drop_zero] at this
  exact this
theorem val_zeros (n : Nat) : val (List.replicate n 0) = 0 := by
  induction n with
  | zero => rfl
  | succ n ih => rw [List.replicate_succ]; unfold val; rw [ih]; rfl
theorem bytes_zeros (n : Nat) : Bytes (List.replicate n 0) := fun x hx => by rw [List.eq_of_mem_replicate hx]; decide
theorem zeros_spec (n K : Nat) (hn : n < 2 ^ 62) (hK : 200 < K) : toll_Zeros.f K (n : Int) = some ((crc (List.replicate n 0) : Nat) : Int) := by
  unfold toll_Zeros.f
  have h1 := times_pw full (8 * n) K (by decide) (by omega)
  rw [show ((full : Nat) : Int) = 4294967295 from rfl] at h1
  rw [power_spec n K hn hK, Option.bind_some, h1, Option.bind_some, show (4294967295 : Int) = ((full : Nat) : Int) from rfl, xor_u32 _ _ (Lp_lt _ (by decide)) (by decide)]
  unfold crc
  rw [st_eq _ (bytes_zeros n), val_zeros, Nat.xor_zero, List.length_replicate]
end Go.Proofs.YtibmpphnchdheaaDoor.TollSpec
