/- What the program's bytes and sizes come to, in plain numbers. By this project's prover (an AI agent). -/
import Derived.Test.YtlbhcbfdiojbhaaBitStr
import Derived.Test.YtlbhcbfdiojbhaaLadderSpec
import Derived.Test.YtlbhcbfdiojbhaaHLx17
import Derived.Test.YtlbhcbfdiojbhaaHLx15
import Derived.Test.YtlbhcbfdiojbhaaHLx14
import Derived.Test.YtlbhcbfdiojbhaaHLx8
namespace Go.Proofs.Ytlbhcbfdiojbhaa.LadderSpec
open Go Go.RowKit Go.Proofs.Ytlbhcbfdiojbhaa.HL Go.Proofs.Ytlbhcbfdiojbhaa.BitStr Go.Proofs.YtlbhcbfdiojbhaaW.PrintWords Go.Proofs.YtlbhcbfdiojbhaaW.PrintLast

theorem wf_u8 {x : Int} (h : (Lit.int .u8 x).wf = true) : 0 ≤ x ∧ x < 256 := by
  simp [Lit.wf, IntKind.min, IntKind.max, IntKind.bits, IntKind.signed] at h
  omega
theorem wf_i64 {x : Int} (h : (Lit.int .i64 x).wf = true) : -9223372036854775808 ≤ x ∧ x < 9223372036854775808 := by
  simp [Lit.wf, IntKind.min, IntKind.max, IntKind.bits, IntKind.signed] at h
  omega
def Bs (l : List Int) : Prop := ∀ x ∈ l, 0 ≤ x ∧ x < 256
theorem bits_loop (l : List Int) (hb : Bs l) (hl : l.length ≤ 1000) : ∀ (d K j : Nat) (s : List UInt8), j + d = l.length → d + 20 < K → s.length ≤ 8 * j →
    sackbutref01_Bits.l0 K l (str s) (l.length : Int) (j : Int) = some (str (s ++ bits8 ((l.drop j).map Int.toNat))) := by
  intro d
  induction d with
  | zero =>
    intro K j s hj hK hs
    obtain ⟨K, rfl⟩ : ∃ m, K = m + 1 := ⟨K - 1, by omega⟩
    simp only [sackbutref01_Bits.l0]
    rw [if_neg (by omega), List.drop_eq_nil_of_le (by omega)]; simp [bits8]
  | succ d ih =>
    intro K j s hj hK hs
    obtain ⟨K, rfl⟩ : ∃ m, K = m + 1 := ⟨K - 1, by omega⟩
    have hj' : j < l.length := by omega
    have hx := hb _ (List.getElem_mem hj')
    simp only [sackbutref01_Bits.l0]
    rw [if_pos (by omega), if_pos (by omega), if_pos (by omega), rd_nat l j hj', BitStr.wrap_id (by omega) (by omega)]
    have hp := put_spec 8 l[j].toNat K (by omega) (by omega) (by omega)
    rw [show ((l[j].toNat : Nat) : Int) = l[j] by omega, show ((8 : Nat) : Int) = 8 from rfl] at hp
    rw [hp, Option.bind_some, if_pos (by rw [str_size, str_size, putL_length]; omega), str_append, BitStr.wrap_id (by omega) (by omega)]
    have := ih K (j + 1) (s ++ putL 8 l[j].toNat) (by omega) (by omega) (by rw [List.length_append, putL_length]; omega)
    rw [show ((j + 1 : Nat) : Int) = (j : Int) + 1 by omega] at this
    rw [this, List.drop_eq_getElem_cons hj', List.map_cons]
    unfold bits8
    rw [List.flatMap_cons, List.append_assoc]
theorem bits_spec (l : List Int) (hb : Bs l) (hl : l.length ≤ 1000) (K : Nat) (hK : l.length + 20 < K) : sackbutref01_Bits.f K l = some (str (bits8 (l.map Int.toNat))) := by
  unfold sackbutref01_Bits.f
  have := bits_loop l hb hl l.length K 0 [] (by omega) hK (by simp)
  simpa [str_nil] using this
theorem same_loop (l : List Int) (hl : l.length ≤ 100000) : ∀ (d K j : Nat), j + d = l.length → d < K → sackbutref01_Same.l0 K l l (l.length : Int) (j : Int) = some true := by
  intro d
  induction d with
  | zero =>
    intro K j hj hK
    obtain ⟨K, rfl⟩ : ∃ m, K = m + 1 := ⟨K - 1, by omega⟩
    simp only [sackbutref01_Same.l0]
    rw [if_neg (by omega)]
  | succ d ih =>
    intro K j hj hK
    obtain ⟨K, rfl⟩ : ∃ m, K = m + 1 := ⟨K - 1, by omega⟩
    simp only [sackbutref01_Same.l0]
    rw [if_pos (by omega), if_pos (by omega), if_pos (by omega), if_pos (by omega), if_pos trivial, BitStr.wrap_id (by omega) (by omega)]
    have := ih K (j + 1) (by omega) (by omega)
    rwa [show ((j + 1 : Nat) : Int) = (j : Int) + 1 by omega] at this
theorem same_spec (l : List Int) (hl : l.length ≤ 100000) (K : Nat) (hK : l.length < K) : sackbutref01_Same.f K l l = some true := by
  unfold sackbutref01_Same.f
  rw [if_pos rfl]
  have := same_loop l hl l.length K 0 (by omega) hK
  simpa using this
/-- Three bytes as a number. -/
def big3 (a b c : Int) : Int := a * 65536 + b * 256 + c
theorem size3 (a b c : Int) (ha : 0 ≤ a ∧ a < 256) (hb : 0 ≤ b ∧ b < 256) (hc : 0 ≤ c ∧ c < 256) : ladder_size.f [a, b, c] = some (big3 a b c) := by
  unfold ladder_size.f
  have hw : ∀ n : Int, 0 ≤ n → n < 2 ^ 62 → IntKind.i64.wrap n = n := fun n h0 h1 => by rw [IntKind.wrap_i64]; omega
  rw [if_pos (by simp), if_pos (by simp), if_pos (by simp)]
  simp only [rd, List.getD_eq_getElem?_getD, Int.toNat_zero, show (1 : Int).toNat = 1 from rfl, show (2 : Int).toNat = 2 from rfl, List.getElem?_cons_zero, List.getElem?_cons_succ, Option.getD_some]
  rw [BitStr.wrap_id (x := a) (by omega) (by omega), BitStr.wrap_id (x := b) (by omega) (by omega), BitStr.wrap_id (x := c) (by omega) (by omega), BitStr.wrap_id (x := a * 65536) (by omega) (by omega), BitStr.wrap_id (x := b * 256) (by omega) (by omega)]
  rw [bits_join .i64 62 (by decide) hw 16 (a * 65536) (b * 256) (by omega) (by omega) (by omega) (by omega) (by omega) (by omega), bits_join .i64 62 (by decide) hw 8 (a * 65536 + b * 256) c (by omega) (by omega) (by omega) (by omega) (by omega) (by omega)]
  rfl
theorem sizeAt_val (l : List Int) (hb : Bs l) (k : Nat) (h : k * 3 + 3 ≤ l.length) : sizeAt l k = big3 l[k * 3] l[k * 3 + 1] l[k * 3 + 2] := by
  unfold sizeAt
  rw [rd_nat l _ (by omega), rd_nat l _ (by omega), rd_nat l _ (by omega), size3 _ _ _ (hb _ (List.getElem_mem _)) (hb _ (List.getElem_mem _)) (hb _ (List.getElem_mem _))]
  rfl
theorem number_at (l : List Int) (hb : Bs l) (i : Nat) (h : i * 3 + 3 ≤ l.length) (K : Nat) (hK : 30 ≤ K) :
    sackbutref01_Number.f K ((str (bits8 (l.map Int.toNat))).extract (24 * i) (24 * i + 24)) = some (sizeAt l i) := by
  have hx : ∀ j, (hj : j < l.length) → 0 ≤ l[j] ∧ l[j] < 256 := fun j hj => hb _ (List.getElem_mem hj)
  have x0 := hx (i * 3) (by omega)
  have x1 := hx (i * 3 + 1) (by omega)
  have x2 := hx (i * 3 + 2) (by omega)
  have e : ((l.map Int.toNat).drop (3 * i)).take 3 = [l[i * 3].toNat, l[i * 3 + 1].toNat, l[i * 3 + 2].toNat] := by
    rw [Nat.mul_comm 3 i, List.drop_eq_getElem_cons (by simp; omega), List.drop_eq_getElem_cons (by simp; omega), List.drop_eq_getElem_cons (by simp; omega)]
    simp
  rw [extract_str, show 24 * i = 8 * (3 * i) by omega, show 8 * (3 * i) + 24 = 8 * (3 * i + 3) by omega, bits8_at _ _ _ (by simp; omega), e, number_spec _ (by rw [bits8_length]; simp) K (by rw [bits8_length]; simp; omega),
    numL_bits8 _ (by intro x hx; simp only [List.mem_cons, List.not_mem_nil, or_false] at hx; omega), sizeAt_val l hb i h]
  unfold big3
  simp only [List.foldl_cons, List.foldl_nil]
  congr 1
  omega
theorem outside_iff (l : List Int) : l.any outsideB = false ↔ Index l := by
  unfold Index
  rw [List.any_eq_false]
  refine ⟨fun h x hx => ?_, fun h x hx => ?_⟩
  · have := h x hx
    unfold outsideB at this
    simp at this
    omega
  · have := h x hx
    unfold outsideB
    simp
    omega
theorem good_index (l : List Int) (hl : l.length ≤ 65536) (b : Bool) (h : b = true ↔ Index l) : ladder_Good.f l = some b := by
  unfold ladder_Good.f
  rw [decide_eq_true hl, Bool.true_and]
  congr 1
  by_cases e : Index l
  · rw [(outside_iff l).2 e, h.2 e]; rfl
  · have h1 : l.any outsideB = true := by
      cases hh : l.any outsideB
      · exact absurd ((outside_iff l).1 hh) e
      · rfl
    have h2 : b = false := by
      cases hb : b
      · rfl
      · exact absurd (h.1 hb) e
    rw [h1, h2]; rfl
theorem sizesOf_length (l : List Int) (n : Nat) : (sizesOf l n).length = n := by simp [sizesOf]
theorem sizesOf_succ (l : List Int) (n : Nat) : sizesOf l (n + 1) = sizesOf l n ++ [sizeAt l n] := by simp [sizesOf, List.range_succ]
/-- A number's three bytes. -/
def b3 (n : Int) : List Int := [n / 65536 % 256, n / 256 % 256, n % 256]
theorem bytes_loop3 (l : List Int) (hl : l.length ≤ 1000) : ∀ (d K j : Nat) (acc : List Int), j + d = l.length → d < K → acc.length + 3 * d ≤ 100000 →
    ladder_Bytes.l0 K acc l (l.length : Int) (j : Int) = some (acc ++ (l.drop j).flatMap b3, 0) := by
  intro d
  induction d with
  | zero =>
    intro K j acc hj hK ha
    obtain ⟨K, rfl⟩ : ∃ m, K = m + 1 := ⟨K - 1, by omega⟩
    simp only [ladder_Bytes.l0]
    rw [if_neg (by omega), List.drop_eq_nil_of_le (by omega)]; simp
  | succ d ih =>
    intro K j acc hj hK ha
    obtain ⟨K, rfl⟩ : ∃ m, K = m + 1 := ⟨K - 1, by omega⟩
    have hj' : j < l.length := by omega
    simp only [ladder_Bytes.l0]
    rw [if_pos (by omega), if_pos (by omega), if_pos (by omega), Option.bind_some, if_pos (by simp; omega), BitStr.wrap_id (by omega) (by omega), rd_nat l j hj']
    have := ih K (j + 1) (acc ++ b3 l[j]) (by omega) (by omega) (by simp [b3]; omega)
    rw [show ((j + 1 : Nat) : Int) = (j : Int) + 1 by omega] at this
    rw [List.drop_eq_getElem_cons hj', List.flatMap_cons, ← List.append_assoc]
    exact this
theorem bytes3_length (l : List Int) : (l.flatMap b3).length = 3 * l.length := by
  induction l with
  | nil => rfl
  | cons x l ih => rw [List.flatMap_cons, List.length_append, ih, List.length_cons]; simp [b3]; omega
theorem bytes3_bs (l : List Int) : Bs (l.flatMap b3) := by
  intro x hx
  obtain ⟨n, _, h⟩ := List.mem_flatMap.1 hx
  simp only [b3, List.mem_cons, List.not_mem_nil, or_false] at h
  omega
theorem bytes3_get (l m : List Int) (k : Nat) (h : k < l.length) : ((l.flatMap b3 ++ m).drop (k * 3)).take 3 = b3 l[k] := by
  induction l generalizing k with
  | nil => simp at h
  | cons x l ih =>
    cases k with
    | zero => simp [b3]
    | succ k =>
      rw [List.flatMap_cons, List.append_assoc, show (k + 1) * 3 = (b3 x).length + k * 3 by simp [b3]; omega, List.drop_length_add_append]
      simpa using ih k (by simpa using h)
theorem sizes_back (l m : List Int) (hi : Index l) (hm : Bs m) : sizesOf (l.flatMap b3 ++ m) l.length = l := by
  have hb : Bs (l.flatMap b3 ++ m) := fun x hx => (List.mem_append.1 hx).elim (bytes3_bs l x) (hm x)
  have hlen : (l.flatMap b3 ++ m).length = 3 * l.length + m.length := by rw [List.length_append, bytes3_length]
  apply List.ext_getElem
  · rw [sizesOf_length]
  · intro k h1 h2
    have hk : k < l.length := h2
    have e : (sizesOf (l.flatMap b3 ++ m) l.length)[k] = sizeAt (l.flatMap b3 ++ m) k := by simp [sizesOf]
    rw [e, sizeAt_val _ hb k (by rw [hlen]; omega)]
    have hg := bytes3_get l m k hk
    rw [List.drop_eq_getElem_cons (by rw [hlen]; omega), List.drop_eq_getElem_cons (by rw [hlen]; omega), List.drop_eq_getElem_cons (by rw [hlen]; omega)] at hg
    simp only [List.take_succ_cons, List.take_zero, b3, List.cons.injEq, and_true] at hg
    obtain ⟨g1, g2, g3⟩ := hg
    have hx := hi _ (List.getElem_mem hk)
    unfold big3
    rw [g1, g2, g3]
    omega
end Go.Proofs.Ytlbhcbfdiojbhaa.LadderSpec
