/- VaultUnpacks: what the claim's theorem reaches of this seat's texts, part 22, put together by this project's own program (bale.py); conditions: those of each theorem. -/
import Derived.Test.YtibmccacebhhkaaDoorVVaultUnpacks5
import Derived.Test.YtibmccacebhhkaaDoorVVaultUnpacks7
import Derived.Test.YtibmccacebhhkaaDoorVVaultUnpacks21
namespace Go.Proofs.YtibmccacebhhkaaDoor.TollSpec
open Go Go.RowKit Go.Proofs.YtibmccacebhhkaaDoor.TollMath Go.Proofs.YtibmccacebhhkaaDoor.HV Go.Proofs.YtibmccacebhhkaaDoorW.PrintWords Go.Proofs.YtibmccacebhhkaaDoorW.PrintLast

theorem halves_tab : ∀ r, r < 16 → halvesL.getD r 0 = ((tab.getD r 0 : Nat) : Int) := by decide
theorem tab_lt : ∀ r, r < 16 → tab.getD r 0 < 2 ^ 32 := by decide
theorem half_spec (s : Nat) (hs : s < 2 ^ 32) : toll_half.f (s : Int) = some ((Lp 4 s : Nat) : Int) := by
  unfold toll_half.f
  rw [if_pos ⟨by omega, by omega⟩, show ((s : Int) % 16).toNat = s % 16 by omega, halves_tab _ (by omega), show (s : Int) / 16 = ((s / 16 : Nat) : Int) by omega, xor_u32 _ _ (by omega) (tab_lt _ (by omega)), half_eq]
theorem wrap_id {x : Int} (h0 : 0 ≤ x) (h1 : x < 9223372036854775808) : wrap64 x = x := by unfold wrap64; omega
theorem rd_nat (l : List Int) (i : Nat) (h : i < l.length) : rd l (i : Int) = l[i] := by
  unfold rd
  rw [Int.toNat_natCast, List.getD_eq_getElem?_getD, List.getElem?_eq_getElem h]
  rfl
theorem add_loop (x1 l : List Int) (hb : Bytes l) (hl : l.length < 4611686018427387904) (t n : Int) : ∀ (d k i s : Nat), s < 2 ^ 32 → i + d = l.length → d < k →
    toll_Tally_Add.l0 k x1 (s : Int) l (l.length : Int) (i : Int) t n = some (((st (l.drop i) s ^^^ full : Nat) : Int), wrap64 (n + (x1.length : Int))) := by
  intro d
  induction d with
  | zero =>
    intro k i s hs hi hk
    obtain ⟨k, rfl⟩ : ∃ m, k = m + 1 := ⟨k - 1, by omega⟩
    simp only [toll_Tally_Add.l0]
    rw [if_neg (by omega), List.drop_eq_nil_of_le (by omega)]
    rw [show (4294967295 : Int) = ((full : Nat) : Int) from rfl, xor_u32 s full hs (by decide)]
    rfl
  | succ d ih =>
    intro k i s hs hi hk
    obtain ⟨k, rfl⟩ : ∃ m, k = m + 1 := ⟨k - 1, by omega⟩
    have hi' : i < l.length := by omega
    have hc := hb l[i] (List.getElem_mem hi')
    simp only [toll_Tally_Add.l0]
    rw [if_pos (by omega), if_pos (by omega), if_pos (by omega), rd_nat l i hi']
    rw [show l[i] % 4294967296 = ((l[i].toNat : Nat) : Int) by omega, xor_u32 s _ hs (by omega)]
    have h1 : s ^^^ l[i].toNat < 2 ^ 32 := Nat.xor_lt_two_pow hs (by omega)
    rw [half_spec _ h1, Option.bind_some, half_spec _ (Lp_lt 4 h1), Option.bind_some, wrap_id (by omega) (by omega)]
    have := ih k (i + 1) (Lp 4 (Lp 4 (s ^^^ l[i].toNat))) (Lp_lt 4 (Lp_lt 4 h1)) (by omega) (by omega)
    rw [show ((i + 1 : Nat) : Int) = (i : Int) + 1 by omega] at this
    rw [this, List.drop_eq_getElem_cons hi']
    show _ = some (((st (l.drop (i + 1)) (Lp 8 (s ^^^ l[i].toNat)) ^^^ full : Nat) : Int), _)
    rw [show (8 : Nat) = 4 + 4 from rfl, Lp_add]
theorem add_spec (l : List Int) (hb : Bytes l) (hl : l.length < 4611686018427387904) (s : Nat) (hs : s < 2 ^ 32) (n : Int) (k : Nat) (hk : l.length < k) :
    toll_Tally_Add.f k (s : Int) n l = some (((st l (s ^^^ full) ^^^ full : Nat) : Int), wrap64 (n + (l.length : Int))) := by
  unfold toll_Tally_Add.f
  rw [show (4294967295 : Int) = ((full : Nat) : Int) from rfl, xor_u32 s full hs (by decide)]
  have := add_loop l l hb hl (s : Int) n l.length k 0 (s ^^^ full) (Nat.xor_lt_two_pow hs (by decide)) (by omega) hk
  simpa using this
theorem sum_spec (l : List Int) (hb : Bytes l) (hl : l.length < 4611686018427387904) (k : Nat) (hk : l.length < k) : toll_Sum.f k l = some ((crc l : Nat) : Int) := by
  unfold toll_Sum.f
  have := add_spec l hb hl 0 (by decide) 0 k hk
  rw [show ((0 : Nat) : Int) = 0 from rfl] at this
  rw [this, Option.bind_some]
  simp only [toll_Tally_Sum.f, Option.bind_some, Nat.zero_xor]
  rfl
theorem wf_u8 {x : Int} (h : (Lit.int .u8 x).wf = true) : 0 ≤ x ∧ x < 256 := by
  simp [Lit.wf, IntKind.min, IntKind.max, IntKind.bits, IntKind.signed] at h
  omega
end Go.Proofs.YtibmccacebhhkaaDoor.TollSpec

namespace Go.Proofs.YtibmccacebhhkaaDoor.TollSpec
open Go Go.RowKit Go.Proofs.YtibmccacebhhkaaDoor.TollMath Go.Proofs.YtibmccacebhhkaaDoor.HV Go.Proofs.YtibmccacebhhkaaDoorW.PrintWords Go.Proofs.YtibmccacebhhkaaDoorW.PrintLast

theorem L_bit (s b : Nat) (hb : b < 2) : L (s ^^^ b) = (s / 2) ^^^ (if (s % 2 = 1) = (b = 1) then 0 else P) := by
  unfold L
  have h2 : (s ^^^ b) / 2 = s / 2 := by rw [Nat.xor_div_two, show b / 2 = 0 by omega, Nat.xor_zero]
  have h : (s ^^^ b) % 2 = (s % 2) ^^^ (b % 2) := by
    have := @Nat.xor_mod_two_pow s b 1
    simpa using this
  rw [h2, h]
  rcases Nat.mod_two_eq_zero_or_one s with e | e <;> rcases (show b = 0 ∨ b = 1 by omega) with rfl | rfl <;> rw [e] <;> simp
theorem ref_bit (s b : Nat) (hs : s < 2 ^ 32) (hb : b < 2) : sackbutref04_bit.f (s : Int) (((b : Nat) : Int) == 1) = some ((L (s ^^^ b) : Nat) : Int) := by
  unfold sackbutref04_bit.f
  have h1 : Int.tmod (s : Int) 2 = ((s % 2 : Nat) : Int) := by rw [Int.tmod_eq_emod_of_nonneg (by omega)]; omega
  have h2 : Int.tdiv (s : Int) 2 = ((s / 2 : Nat) : Int) := by rw [Int.tdiv_eq_ediv_of_nonneg (by omega)]; omega
  have h3 : ((s / 2 : Nat) : Int) % 4294967296 = ((s / 2 : Nat) : Int) := by omega
  rw [h1, h2, h3, L_bit s b hb, show (3988292384 : Int) = ((P : Nat) : Int) from rfl, xor_u32 _ _ (by omega) (by decide)]
  rcases Nat.mod_two_eq_zero_or_one s with e | e <;> rcases (show b = 0 ∨ b = 1 by omega) with rfl | rfl <;> rw [e] <;> simp
theorem ref_byte : ∀ (d K i s c : Nat), i + d = 8 → d < K → s < 2 ^ 32 → c < 2 ^ d → sackbutref04_byteOf.l0 K (s : Int) (c : Int) (i : Int) = some ((Lp d (s ^^^ c) : Nat) : Int) := by
  intro d
  induction d with
  | zero =>
    intro K i s c hi hK hs hc
    obtain ⟨K, rfl⟩ : ∃ m, K = m + 1 := ⟨K - 1, by omega⟩
    have h0 : c = 0 := by simpa using hc
    subst h0
    simp only [sackbutref04_byteOf.l0]
    rw [if_neg (by omega), Nat.xor_zero]; rfl
  | succ d ih =>
    intro K i s c hi hK hs hc
    obtain ⟨K, rfl⟩ : ∃ m, K = m + 1 := ⟨K - 1, by omega⟩
    have hc2 : c / 2 < 2 ^ d := by rw [Nat.pow_succ] at hc; omega
    have h256 : c < 256 := Nat.lt_of_lt_of_le hc (Nat.le_trans (Nat.pow_le_pow_right (by decide) (show d + 1 ≤ 8 by omega)) (by decide))
    have h1 : Int.tmod (c : Int) 2 = ((c % 2 : Nat) : Int) := by rw [Int.tmod_eq_emod_of_nonneg (by omega)]; omega
    have h2 : Int.tdiv (c : Int) 2 % 256 = ((c / 2 : Nat) : Int) := by rw [Int.tdiv_eq_ediv_of_nonneg (by omega)]; omega
    have hx : s ^^^ (c % 2) < 2 ^ 32 := Nat.xor_lt_two_pow hs (by omega)
    have hlin : L (s ^^^ c) = L (s ^^^ (c % 2)) ^^^ (c / 2) := by
      have e : c = (2 ^ 1 * (c / 2)) ^^^ (c % 2) := by rw [xor_add 1 _ _ (by omega)]; omega
      conv => lhs; rw [e]
      rw [Nat.xor_comm (2 ^ 1 * (c / 2)), ← Nat.xor_assoc, L_xor, show 2 ^ 1 * (c / 2) = 2 * (c / 2) from rfl, L_double]
    clear hc
    simp only [sackbutref04_byteOf.l0]
    rw [if_pos (by omega), h1, ref_bit s (c % 2) hs (by omega), Option.bind_some, h2, wrap_id (by omega) (by omega)]
    have := ih K (i + 1) (L (s ^^^ (c % 2))) (c / 2) (by omega) (by omega) (L_lt hx) hc2
    rw [show ((i + 1 : Nat) : Int) = (i : Int) + 1 by omega] at this
    rw [this]
    show _ = some ((Lp d (L (s ^^^ c)) : Nat) : Int)
    rw [hlin]
theorem xor_full (s : Nat) (h : s < 2 ^ 32) : s ^^^ full = full - s := by
  have h1 : (BitVec.ofNat 32 s ^^^ BitVec.allOnes 32).toNat = (~~~ BitVec.ofNat 32 s).toNat := by rw [BitVec.xor_allOnes]
  rw [BitVec.toNat_xor, BitVec.toNat_not, BitVec.toNat_allOnes, BitVec.toNat_ofNat, Nat.mod_eq_of_lt h] at h1
  exact h1
theorem ref_loop (l : List Int) (hb : Bytes l) (hl : l.length ≤ 100000) : ∀ (d K j s : Nat), j + d = l.length → d + 20 < K → s < 2 ^ 32 →
    sackbutref04_Sum.l0 K l (s : Int) (l.length : Int) (j : Int) = some (((st (l.drop j) s ^^^ full : Nat)) : Int) := by
  intro d
  induction d with
  | zero =>
    intro K j s hj hK hs
    obtain ⟨K, rfl⟩ : ∃ m, K = m + 1 := ⟨K - 1, by omega⟩
    simp only [sackbutref04_Sum.l0]
    rw [if_neg (by omega), List.drop_eq_nil_of_le (by omega)]
    show _ = some (((s ^^^ full : Nat)) : Int)
    rw [xor_full s hs]
    have h3 : full - s ≤ 4294967295 := Nat.sub_le _ _
    have h4 : ((full - s : Nat) : Int) = 4294967295 - (s : Int) := by unfold full; omega
    rw [h4]
    congr 1
    omega
  | succ d ih =>
    intro K j s hj hK hs
    obtain ⟨K, rfl⟩ : ∃ m, K = m + 1 := ⟨K - 1, by omega⟩
    have hj' : j < l.length := by omega
    have hc := hb l[j] (List.getElem_mem hj')
    simp only [sackbutref04_Sum.l0]
    have hby := ref_byte 8 K 0 s l[j].toNat (by omega) (by omega) hs (by omega)
    rw [show ((l[j].toNat : Nat) : Int) = l[j] by omega] at hby
    rw [if_pos (by omega), if_pos (by omega), if_pos (by omega), rd_nat l j hj']
    unfold sackbutref04_byteOf.f
    rw [show (0 : Int) = ((0 : Nat) : Int) from rfl, hby, Option.bind_some, wrap_id (by omega) (by omega)]
    have := ih K (j + 1) _ (by omega) (by omega) (Lp_lt 8 (Nat.xor_lt_two_pow hs (show l[j].toNat < 2 ^ 32 by omega)))
    rw [show ((j + 1 : Nat) : Int) = (j : Int) + 1 by omega] at this
    rw [this, List.drop_eq_getElem_cons hj']
    rfl
theorem ref_sum_spec (l : List Int) (hb : Bytes l) (hl : l.length ≤ 100000) (K : Nat) (hK : l.length + 20 < K) : sackbutref04_Sum.f K l = some ((crc l : Nat) : Int) := by
  unfold sackbutref04_Sum.f
  have := ref_loop l hb hl l.length K 0 full (by omega) hK (by decide)
  rw [show ((full : Nat) : Int) = 4294967295 from rfl, List.drop_zero] at this
  exact this
end Go.Proofs.YtibmccacebhhkaaDoor.TollSpec

