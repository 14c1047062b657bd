/- What the program's sum of bytes comes to, in plain numbers. -/
import Derived.Test.YtibmpphnchdheaaDoorTollMath
import Derived.Test.YtibmpphnchdheaaDoorHTx2
import Derived.Test.YtibmpphnchdheaaDoorHTx3
namespace Go.Proofs.YtibmpphnchdheaaDoor.TollSpec
open Go Go.RowKit Go.Proofs.YtibmpphnchdheaaDoor.TollMath Go.Proofs.YtibmpphnchdheaaDoor.HT Go.Proofs.YtibmpphnchdheaaDoorW.PrintWords Go.Proofs.YtibmpphnchdheaaDoorW.PrintLast

theorem halves_tab : ∀ r, r < 16 → halvesL.getD r 0 = ((tab.getD r 0 : Nat) : Int) := by decide
theorem tab_lt : ∀ r, r < 16 → tab.getD r 0 < 2 ^ 32 := by decide
theorem half_spec (s : Nat) (hs : s < 2 ^ 32) : toll_half.f (s : Int) = some ((Lp 4 s : Nat) : Int) := by
  unfold toll_half.f
  rw [if_pos ⟨by omega, by omega⟩, show ((s : Int) % 16).toNat = s % 16 by omega, halves_tab _ (by omega), show (s : Int) / 16 = ((s / 16 : Nat) : Int) by omega, xor_u32 _ _ (by omega) (tab_lt _ (by omega)), half_eq]
theorem wrap_id {x : Int} (h0 : 0 ≤ x) (h1 : x < 9223372036854775808) : wrap64 x = x := by unfold wrap64; omega
theorem rd_nat (l : List Int) (i : Nat) (h : i < l.length) : rd l (i : Int) = l[i] := by
  unfold rd
  rw [Int.toNat_natCast, List.getD_eq_getElem?_getD, List.getElem?_eq_getElem h]
  rfl
theorem add_loop (x1 l : List Int) (hb : Bytes l) (hl : l.length < 4611686018427387904) (t n : Int) : ∀ (d k i s : Nat), s < 2 ^ 32 → i + d = l.length → d < k →
    toll_Tally_Add.l0 k x1 (s : Int) l (l.length : Int) (i : Int) t n = some (((st (l.drop i) s ^^^ full : Nat) : Int), wrap64 (n + (x1.length : Int))) := by
  intro d
  induction d with
  | zero =>
    intro k i s hs hi hk
    obtain ⟨k, rfl⟩ : ∃ m, k = m + 1 := ⟨k - 1, by omega⟩
    simp only [toll_Tally_Add.l0]
    rw [if_neg (by omega), List.drop_eq_nil_of_le (by omega)]
    rw [show (4294967295 : Int) = ((full : Nat) : Int) from rfl, xor_u32 s full hs (by decide)]
    rfl
  | succ d ih =>
    intro k i s hs hi hk
    obtain ⟨k, rfl⟩ : ∃ m, k = m + 1 := ⟨k - 1, by omega⟩
    have hi' : i < l.length := by omega
    have hc := hb l[i] (List.getElem_mem hi')
    simp only [toll_Tally_Add.l0]
    rw [if_pos (by omega), if_pos (by omega), if_pos (by omega), rd_nat l i hi']
    rw [show l[i] % 4294967296 = ((l[i].toNat : Nat) : Int) by omega, xor_u32 s _ hs (by omega)]
    have h1 : s ^^^ l[i].toNat < 2 ^ 32 := Nat.xor_lt_two_pow hs (by omega)
    rw [half_spec _ h1, Option.bind_some, half_spec _ (Lp_lt 4 h1), Option.bind_some, wrap_id (by omega) (by omega)]
    have := ih k (i + 1) (Lp 4 (Lp 4 (s ^^^ l[i].toNat))) (Lp_lt 4 (Lp_lt 4 h1)) (by omega) (by omega)
    rw [show ((i + 1 : Nat) : Int) = (i : Int) + 1 by omega] at this
    rw [this, List.drop_eq_getElem_cons hi']
    show _ = some (((st (l.drop (i + 1)) (Lp 8 (s ^^^ l[i].toNat)) ^^^ full : Nat) : Int), _)
    rw [show (8 : Nat) = 4 + 4 from rfl, Lp_add]
theorem add_spec (l : List Int) (hb : Bytes l) (hl : l.length < 4611686018427387904) (s : Nat) (hs : s < 2 ^ 32) (n : Int) (k : Nat) (hk : l.length < k) :
    toll_Tally_Add.f k (s : Int) n l = some (((st l (s ^^^ full) ^^^ full : Nat) : Int), wrap64 (n + (l.length : Int))) := by
  unfold toll_Tally_Add.f
  rw [show (4294967295 : Int) = ((full : Nat) : Int) from rfl, xor_u32 s full hs (by decide)]
  have := add_loop l l hb hl (s : Int) n l.length k 0 (s ^^^ full) (Nat.xor_lt_two_pow hs (by decide)) (by omega) hk
  simpa using this
theorem sum_spec (l : List Int) (hb : Bytes l) (hl : l.length < 4611686018427387904) (k : Nat) (hk : l.length < k) : toll_Sum.f k l = some ((crc l : Nat) : Int) := by
  unfold toll_Sum.f
  have := add_spec l hb hl 0 (by decide) 0 k hk
  rw [show ((0 : Nat) : Int) = 0 from rfl] at this
  rw [this, Option.bind_some]
  simp only [toll_Tally_Sum.f, Option.bind_some, Nat.zero_xor]
  rfl
theorem wf_u8 {x : Int} (h : (Lit.int .u8 x).wf = true) : 0 ≤ x ∧ x < 256 := by
  simp [Lit.wf, IntKind.min, IntKind.max, IntKind.bits, IntKind.signed] at h
  omega
theorem wf_u16 {x : Int} (h : (Lit.int .u16 x).wf = true) : 0 ≤ x ∧ x < 65536 := by
  simp [Lit.wf, IntKind.min, IntKind.max, IntKind.bits, IntKind.signed] at h
  omega
theorem wf_u32 {x : Int} (h : (Lit.int .u32 x).wf = true) : 0 ≤ x ∧ x < 4294967296 := by
  simp [Lit.wf, IntKind.min, IntKind.max, IntKind.bits, IntKind.signed] at h
  omega
theorem bytes_of_wf {l : List Int} (h : ∀ x ∈ l, (Lit.int .u8 x).wf = true) : Bytes l := fun x hx => wf_u8 (h x hx)
end Go.Proofs.YtibmpphnchdheaaDoor.TollSpec
