/- TollWindow in plain numbers: bytes that differ, within 32 neighbouring bits alone, have unlike sums. -/
import Derived.Test.YtibmpphnchdheaaDoorTollSpec
import Derived.Test.YtibmpphnchdheaaDoorHTx5
namespace Go.Proofs.YtibmpphnchdheaaDoor.Pure
open Go Go.RowKit Go.Proofs.YtibmpphnchdheaaDoor.TollMath Go.Proofs.YtibmpphnchdheaaDoor.TollSpec Go.Proofs.YtibmpphnchdheaaDoor.HT Go.Proofs.YtibmpphnchdheaaDoorW.PrintWords Go.Proofs.YtibmpphnchdheaaDoorW.PrintLast Go.Proofs.YtibmpphnchdheaaDoorW.PrintMore

theorem mul_xor (i a b : Nat) : 2 ^ i * (a ^^^ b) = (2 ^ i * a) ^^^ (2 ^ i * b) := by
  apply Nat.eq_of_testBit_eq
  intro j
  rw [Nat.testBit_two_pow_mul, Nat.testBit_xor, Nat.testBit_xor, Nat.testBit_two_pow_mul, Nat.testBit_two_pow_mul]
  cases decide (j ≥ i) <;> simp
theorem val_set (l : List Int) (hb : Bytes l) (q r : Nat) (hr : r < 8) (hq : q < l.length) : val (l.set q ((l[q].toNat ^^^ 2 ^ r : Nat) : Int)) = val l ^^^ 2 ^ (8 * q + r) := by
  induction l generalizing q with
  | nil => simp at hq
  | cons c l ih =>
    obtain ⟨hc, hl⟩ := hb.cons
    have h2r : 2 ^ r < 2 ^ 8 := Nat.pow_lt_pow_right (by decide) hr
    have hv : ∀ (a v : Nat), a < 256 → a + 256 * v = (2 ^ 8 * v) ^^^ a := fun a v h => by rw [xor_add 8 _ _ (by omega)]; omega
    cases q with
    | zero =>
      simp only [List.getElem_cons_zero, List.set_cons_zero, val, Int.toNat_natCast, Nat.mul_zero, Nat.zero_add]
      have hx : c.toNat ^^^ 2 ^ r < 256 := Nat.xor_lt_two_pow (n := 8) (by omega) h2r
      rw [hv _ _ hx, hv _ _ (by omega), Nat.xor_assoc]
    | succ q =>
      simp only [List.getElem_cons_succ, List.set_cons_succ, val]
      have hq' : q < l.length := by simpa using hq
      rw [ih hl q hq', hv _ _ (by omega), hv _ _ (by omega), mul_xor, ← Nat.pow_add, Nat.xor_assoc, Nat.xor_assoc, TollMath.xor_comm c.toNat, show 8 + (8 * q + r) = 8 * (q + 1) + r by omega]
theorem bytes_set (l : List Int) (hb : Bytes l) (q : Nat) (x : Nat) (hx : x < 256) : Bytes (l.set q (x : Int)) := by
  intro y hy
  rcases List.mem_or_eq_of_mem_set hy with h | h
  · exact hb y h
  · subst h; omega
/-- Between two rounds: what has been turned, as a number; what is turned lies in i bits from m on. -/
def Inv (own l0 : List Int) (m e i : Nat) : Prop := val own ^^^ val l0 = 2 ^ m * e ∧ e < 2 ^ i
theorem Inv.start (l0 : List Int) (m : Nat) : Inv l0 l0 m 0 0 := ⟨by simp, by decide⟩
theorem Inv.next {own l0 : List Int} {m e i : Nat} (h : Inv own l0 m e i) : Inv own l0 m e (i + 1) := ⟨h.1, Nat.lt_trans h.2 (Nat.pow_lt_pow_right (by decide) (Nat.lt_succ_self i))⟩
theorem Inv.flip {own l0 : List Int} {m e i : Nat} (h : Inv own l0 m e i) (hbo : Bytes own) (hq : (m + i) / 8 < own.length) :
    Inv (own.set ((m + i) / 8) ((own[(m + i) / 8].toNat ^^^ 2 ^ ((m + i) % 8) : Nat) : Int)) l0 m (e ^^^ 2 ^ i) (i + 1) ∧ e ^^^ 2 ^ i ≠ 0 := by
  obtain ⟨hv, he⟩ := h
  refine ⟨⟨?_, Nat.xor_lt_two_pow (Nat.lt_trans he (Nat.pow_lt_pow_right (by decide) (Nat.lt_succ_self i))) (Nat.pow_lt_pow_right (by decide) (Nat.lt_succ_self i))⟩, fun h => ?_⟩
  · rw [val_set own hbo _ _ (Nat.mod_lt _ (by decide)) hq, show 8 * ((m + i) / 8) + (m + i) % 8 = m + i from Nat.div_add_mod (m + i) 8, TollMath.xor_comm (val own), Nat.xor_assoc, hv, Nat.pow_add, ← mul_xor, TollMath.xor_comm (2 ^ i)]
  · rw [eq_of_xor _ _ h] at he
    exact Nat.lt_irrefl _ he
theorem Inv.done {own l0 : List Int} {m e : Nat} (h : Inv own l0 m e 32) (hbo : Bytes own) (hb0 : Bytes l0) (hol : own.length = l0.length) (hm : m ≤ 8 * own.length) : crc own = crc l0 ↔ e = 0 :=
  crc_window own l0 hbo hb0 hol e m h.2 h.1 hm
theorem win_loop (l0 : List Int) (hb0 : Bytes l0) (hlen : l0.length ≤ 500) (x2 : Int) (m : Nat) (hm : m < 8 * l0.length) :
    ∀ (d k i : Nat) (own : List Int) (e : Nat) (ch : Bool), i + d = 32 → d + 510 < k → Bytes own → own.length = l0.length → Inv own l0 m e i → ch = decide (e ≠ 0) →
    sackbutlaw04_TollWindow.l0 k l0 x2 own (m : Int) ch (i : Int) = some true := by
  intro d
  induction d with
  | zero =>
    intro k i own e ch hi hk hbo hol hv hch
    obtain ⟨k, rfl⟩ : ∃ m, k = m + 1 := ⟨k - 1, by omega⟩
    have hi32 : i = 32 := by omega
    have hs1 := sum_spec own hbo (by omega) k (by omega)
    have hs2 := sum_spec l0 hb0 (by omega) k (by omega)
    rw [hi32] at hv
    have hc := hv.done hbo hb0 hol (by omega)
    have hni : ¬ (i : Int) < 32 := by omega
    simp only [sackbutlaw04_TollWindow.l0]
    rw [if_neg hni, hs1, Option.bind_some, hs2, Option.bind_some]
    congr 1
    rw [hch]
    by_cases h0 : e = 0
    · rw [hc.2 h0]; simp [h0]
    · have h1 : crc own ≠ crc l0 := fun h => h0 (hc.1 h)
      have h2 : (((crc own : Nat) : Int) != ((crc l0 : Nat) : Int)) = true := by
        rw [bne_iff_ne]
        exact fun h => h1 (Int.ofNat_inj.1 h)
      rw [h2]; simp [h0]
  | succ d ih =>
    intro k i own e ch hi hk hbo hol hv hch
    obtain ⟨k, rfl⟩ : ∃ m, k = m + 1 := ⟨k - 1, by omega⟩
    have hi1 : i + 1 + d = 32 := by omega
    have hk1 : d + 510 < k := by omega
    have hnext : wrap64 ((i : Int) + 1) = ((i + 1 : Nat) : Int) := by rw [wrap_id (by omega) (by omega)]; omega
    have skip : sackbutlaw04_TollWindow.l0 k l0 x2 own (m : Int) ch (wrap64 ((i : Int) + 1)) = some true := by
      rw [hnext]
      exact ih k (i + 1) own e ch hi1 hk1 hbo hol hv.next hch
    simp only [sackbutlaw04_TollWindow.l0]
    rw [if_pos (by omega), if_pos (by omega)]
    by_cases hc : (Go.bits .and .u32 (shr .u32 x2 (i : Int)) 1) = 1
    · rw [if_pos hc]
      clear hc
      have hw : wrap64 ((m : Int) + (i : Int)) = ((m + i : Nat) : Int) := by rw [wrap_id (by omega) (by omega)]; omega
      have hw8 : wrap64 (8 * (l0.length : Int)) = ((8 * l0.length : Nat) : Int) := by rw [wrap_id (by omega) (by omega)]; omega
      rw [hw, hw8]
      by_cases hr : m + i < 8 * l0.length
      · rw [if_pos (by omega)]
        have ht : Int.tdiv ((m + i : Nat) : Int) 8 = (((m + i) / 8 : Nat) : Int) := by rw [Int.tdiv_eq_ediv_of_nonneg (by omega)]; omega
        have htm : Int.tmod ((m + i : Nat) : Int) 8 = (((m + i) % 8 : Nat) : Int) := by rw [Int.tmod_eq_emod_of_nonneg (by omega)]; omega
        have hq : (m + i) / 8 < own.length := by omega
        rw [ht, htm, wrap_id (by omega) (by omega), if_pos (by omega), if_pos (by omega), if_pos (by omega), rd_nat own _ hq]
        have hcc := hbo own[(m + i) / 8] (List.getElem_mem hq)
        have hr8 : (m + i) % 8 < 8 := Nat.mod_lt _ (by decide)
        have h2r : 2 ^ ((m + i) % 8) < 2 ^ 8 := Nat.pow_lt_pow_right (by decide) hr8
        have hs : shl .u8 1 (((m + i) % 8 : Nat) : Int) = ((2 ^ ((m + i) % 8) : Nat) : Int) := by
          unfold shl
          rw [Int.toNat_natCast, show IntKind.u8.bits = 8 from rfl, Nat.min_eq_left (by omega), IntKind.wrap_u8, Int.one_mul]
          have h1 : ((2 : Int) ^ ((m + i) % 8)) = ((2 ^ ((m + i) % 8) : Nat) : Int) := by simp
          rw [h1]
          exact Int.emod_eq_of_lt (Int.natCast_nonneg _) (Int.ofNat_lt.2 h2r)
        have hcn : own[(m + i) / 8].toNat < 2 ^ 8 := by omega
        rw [hs, show own[(m + i) / 8] = ((own[(m + i) / 8].toNat : Nat) : Int) by omega, xor_u8 _ _ hcn h2r, hnext, Int.toNat_natCast]
        have hx : own[(m + i) / 8].toNat ^^^ 2 ^ ((m + i) % 8) < 256 := Nat.xor_lt_two_pow (n := 8) hcn h2r
        obtain ⟨hf, hne⟩ := hv.flip hbo hq
        exact ih k (i + 1) _ (e ^^^ 2 ^ i) true hi1 hk1 (bytes_set own hbo _ _ hx) (by simp [hol]) hf (by simp [hne])
      · rw [if_neg (by omega)]
        exact skip
    · rw [if_neg hc]
      exact skip

theorem TollWindow : sackbutlaw04_TollWindow.Pure := by
  intro l0 a1 a2 _ hsz hw hw1 hw2
  have hb := bytes_of_wf hw
  have h1 := wf_u16 hw1
  have h2 := wf_u32 hw2
  refine ⟨600, ?_⟩
  unfold sackbutlaw04_TollWindow.f sackbutlaw04_awake.f
  rw [Option.bind_some, if_pos rfl]
  have hj : sackbutlaw04_TollWindow.j0 600 l0 a1 a2 true = some true := by
    simp only [sackbutlaw04_TollWindow.j0]
    rfl
  by_cases hl : (l0.length : Int) > 500
  · rw [if_pos hl]; exact hj
  · rw [if_neg hl]
    by_cases h0 : (l0.length : Int) = 0
    · rw [if_pos h0]; exact hj
    · rw [if_neg h0]
      by_cases hz : a2 = 0
      · subst hz; exact hj
      · have hzb : (a2 == 0) = false := by simpa using hz
        rw [hzb]
        simp only [sackbutlaw04_TollWindow.j0]
        rw [if_neg (by decide), Option.bind_some]
        have hw8 : wrap64 (8 * (l0.length : Int)) = ((8 * l0.length : Nat) : Int) := by rw [wrap_id (by omega) (by omega)]; omega
        rw [if_pos (by simp; omega), hw8, if_neg (by omega), List.nil_append, wrap_id h1.1 (by omega)]
        have htm : Int.tmod a1 ((8 * l0.length : Nat) : Int) = ((a1.toNat % (8 * l0.length) : Nat) : Int) := by
          rw [Int.tmod_eq_emod_of_nonneg h1.1]
          conv => lhs; rw [show a1 = ((a1.toNat : Nat) : Int) by omega]
          exact (Int.natCast_emod _ _).symm
        rw [htm]
        have := win_loop l0 hb (by omega) a2 (a1.toNat % (8 * l0.length)) (Nat.mod_lt _ (by omega)) 32 599 0 l0 0 false (by omega) (by omega) hb rfl (Inv.start _ _) (by decide)
        simpa using this
end Go.Proofs.YtibmpphnchdheaaDoor.Pure
