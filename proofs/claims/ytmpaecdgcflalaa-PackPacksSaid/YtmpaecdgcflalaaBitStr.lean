/- Bits as texts of 0 and 1, in plain lists: what the document's Put, Bits, Number, Bytes come to. By this project's prover (an AI agent). -/
import Derived.Laws.BitsLemmas
import Derived.Test.YtmpaecdgcflalaaHKx17
import Derived.Test.YtmpaecdgcflalaaHKx17
import Derived.Test.YtmpaecdgcflalaaHKx17
namespace Go.Proofs.Ytmpaecdgcflalaa.BitStr
open Go Go.RowKit Go.Proofs.Ytmpaecdgcflalaa.HK Go.Proofs.YtmpaecdgcflalaaW.PrintWords Go.Proofs.YtmpaecdgcflalaaW.PrintLast

theorem wrap_id {x : Int} (h0 : -9223372036854775808 ≤ x) (h1 : x < 9223372036854775808) : wrap64 x = x := by unfold wrap64; omega
theorem ba_ext {s t : ByteArray} (h : s.data.toList = t.data.toList) : s = t := by
  cases s with | mk a => cases t with | mk b => congr 1; exact Array.toList_inj.1 h
def str (l : List UInt8) : ByteArray := ⟨l.toArray⟩
theorem str_toList (l : List UInt8) : (str l).data.toList = l := rfl
theorem str_size (l : List UInt8) : (str l).size = l.length := rfl
theorem str_append (a b : List UInt8) : str a ++ str b = str (a ++ b) := ba_ext (by simp [str])
theorem str_nil : (⟨#[]⟩ : ByteArray) = str [] := rfl
/-- A digit. -/
def dg (v : Nat) : UInt8 := if v % 2 = 1 then 49 else 48
/-- A number as so many bits, the highest first. -/
def putL : Nat → Nat → List UInt8
  | 0, _ => []
  | n + 1, v => putL n (v / 2) ++ [dg v]
theorem putL_length (n v : Nat) : (putL n v).length = n := by induction n generalizing v with | zero => rfl | succ n ih => simp [putL, ih]
theorem nums_one (v : Nat) : strOfNums [(wrap64 (48 + (Int.tmod (v : Int) 2))) % 256] = str [dg v] := by
  have h : Int.tmod (v : Int) 2 = ((v % 2 : Nat) : Int) := by rw [Int.tmod_eq_emod_of_nonneg (by omega)]; omega
  rw [h, wrap_id (by omega) (by omega)]
  unfold dg
  rcases Nat.mod_two_eq_zero_or_one v with e | e <;> rw [e] <;> rfl
theorem put_loop (n : Nat) (hn : n ≤ 1000) : ∀ (d K i v : Nat) (s : List UInt8), i + d = n → d < K → v < 9223372036854775808 → s.length + d ≤ 1000000 →
    sackbutref01_Put.l0 K (v : Int) (n : Int) (str s) (i : Int) = some (str (putL d v ++ s)) := by
  intro d
  induction d with
  | zero =>
    intro K i v s hi hK hv hs
    obtain ⟨K, rfl⟩ : ∃ m, K = m + 1 := ⟨K - 1, by omega⟩
    simp only [sackbutref01_Put.l0]
    rw [if_neg (by omega)]; rfl
  | succ d ih =>
    intro K i v s hi hK hv hs
    obtain ⟨K, rfl⟩ : ∃ m, K = m + 1 := ⟨K - 1, by omega⟩
    simp only [sackbutref01_Put.l0]
    rw [if_pos (by omega), Option.bind_some, nums_one, if_pos (by rw [str_size, str_size]; simp; omega), str_append]
    have hv2 : Int.tdiv (v : Int) 2 = ((v / 2 : Nat) : Int) := by rw [Int.tdiv_eq_ediv_of_nonneg (by omega)]; omega
    rw [hv2, wrap_id (by omega) (by omega), wrap_id (by omega) (by omega)]
    have := ih K (i + 1) (v / 2) ([dg v] ++ s) (by omega) (by omega) (by omega) (by simp; omega)
    rw [show ((i + 1 : Nat) : Int) = (i : Int) + 1 by omega] at this
    rw [this, putL, List.append_assoc]
theorem put_spec (n v K : Nat) (hn : n ≤ 1000) (hK : n < K) (hv : v < 9223372036854775808) : sackbutref01_Put.f K (v : Int) (n : Int) = some (str (putL n v)) := by
  unfold sackbutref01_Put.f
  have := put_loop n hn n K 0 v [] (by omega) hK hv (by simp; omega)
  simpa [str_nil] using this
theorem putL_mod (n v : Nat) : putL n (v % 2 ^ n) = putL n v := by
  induction n generalizing v with
  | zero => rfl
  | succ n ih =>
    unfold putL
    have h1 : v % 2 ^ (n + 1) / 2 = (v / 2) % 2 ^ n := by rw [Nat.pow_succ, Nat.mul_comm]; exact Nat.mod_mul_right_div_self v 2 (2 ^ n)
    have h2 : dg (v % 2 ^ (n + 1)) = dg v := by
      unfold dg
      rw [Nat.mod_mod_of_dvd v (by rw [Nat.pow_succ]; exact Nat.dvd_mul_left 2 _)]
    rw [h1, ih, h2]
theorem putL_add (a b v : Nat) : putL (a + b) v = putL a (v / 2 ^ b) ++ putL b v := by
  induction b generalizing v with
  | zero => simp [putL]
  | succ b ih =>
    rw [← Nat.add_assoc]
    show putL (a + b) (v / 2) ++ [dg v] = _
    rw [ih, List.append_assoc, show v / 2 / 2 ^ b = v / 2 ^ (b + 1) by rw [Nat.div_div_eq_div_mul, Nat.pow_succ, Nat.mul_comm]]
    rfl
/-- The number of bits. -/
def numL (l : List UInt8) (a : Nat) : Nat := l.foldl (fun a c => 2 * a + if c = 49 then 1 else 0) a
theorem dg_val (v : Nat) : (if dg v = 49 then 1 else 0) = v % 2 := by
  unfold dg
  rcases Nat.mod_two_eq_zero_or_one v with e | e <;> rw [e] <;> rfl
theorem numL_append (a b : List UInt8) (x : Nat) : numL (a ++ b) x = numL b (numL a x) := by unfold numL; rw [List.foldl_append]
theorem numL_putL (n : Nat) : ∀ v a, numL (putL n v) a = a * 2 ^ n + v % 2 ^ n := by
  induction n with
  | zero => intro v a; simp [putL, numL, Nat.mod_one]
  | succ n ih =>
    intro v a
    show numL (putL n (v / 2) ++ [dg v]) a = _
    rw [numL_append, ih]
    show 2 * _ + _ = _
    rw [dg_val, Nat.pow_succ]
    have h : v % (2 ^ n * 2) = 2 * (v / 2 % 2 ^ n) + v % 2 := by
      rw [Nat.mul_comm, Nat.mod_mul]; omega
    rw [h, Nat.mul_add, show a * (2 ^ n * 2) = 2 * (a * 2 ^ n) by rw [← Nat.mul_assoc, Nat.mul_comm]]
    omega
theorem numL_lt (l : List UInt8) : ∀ a, numL l a < (a + 1) * 2 ^ l.length := by
  induction l with
  | nil => intro a; simp [numL]
  | cons c l ih =>
    intro a
    show numL l (2 * a + _) < _
    refine Nat.lt_of_lt_of_le (ih _) ?_
    rw [List.length_cons, Nat.pow_succ, Nat.mul_comm (2 ^ l.length), ← Nat.mul_assoc]
    exact Nat.mul_le_mul_right _ (by split <;> omega)
theorem bt_str (l : List UInt8) (i : Nat) (h : i < l.length) : bt (str l) (i : Int) = ((l[i].toNat : Nat) : Int) := by
  unfold bt
  rw [dif_pos (by rw [Int.toNat_natCast, str_size]; exact h)]
  rfl
theorem number_loop (l : List UInt8) (hl : l.length ≤ 62) : ∀ (d K i a : Nat), i + d = l.length → d < K → a < 2 ^ i →
    sackbutref01_Number.l0 K (str l) (a : Int) (i : Int) = some ((numL (l.drop i) a : Nat) : Int) := by
  intro d
  induction d with
  | zero =>
    intro K i a hi hK ha
    obtain ⟨K, rfl⟩ : ∃ m, K = m + 1 := ⟨K - 1, by omega⟩
    simp only [sackbutref01_Number.l0]
    rw [if_neg (by rw [str_size]; omega), List.drop_eq_nil_of_le (by omega)]; rfl
  | succ d ih =>
    intro K i a hi hK ha
    obtain ⟨K, rfl⟩ : ∃ m, K = m + 1 := ⟨K - 1, by omega⟩
    have hi' : i < l.length := by omega
    have h62 : a < 4611686018427387904 := Nat.lt_of_lt_of_le ha (Nat.le_trans (Nat.pow_le_pow_right (by decide) (show i ≤ 61 by omega)) (by decide))
    have ha1 : 2 * a + 1 < 2 ^ (i + 1) := by rw [Nat.pow_succ]; omega
    simp only [sackbutref01_Number.l0]
    rw [if_pos (by rw [str_size]; omega), if_pos (by omega), bt_str l i hi', List.drop_eq_getElem_cons hi']
    show _ = some ((numL (l.drop (i + 1)) (2 * a + if l[i] = 49 then 1 else 0) : Nat) : Int)
    rw [wrap_id (x := (a : Int) * 2) (by omega) (by omega)]
    by_cases hc : l[i] = 49
    · rw [if_pos (by rw [hc]; rfl), if_pos hc, wrap_id (by omega) (by omega), wrap_id (by omega) (by omega)]
      have := ih K (i + 1) (2 * a + 1) (by omega) (by omega) ha1
      rw [show ((i + 1 : Nat) : Int) = (i : Int) + 1 by omega, show ((2 * a + 1 : Nat) : Int) = (a : Int) * 2 + 1 by omega] at this
      exact this
    · have hc2 : ¬ ((l[i].toNat : Nat) : Int) = 49 := fun h => hc (UInt8.toNat_inj.1 (by show l[i].toNat = 49; omega))
      rw [if_neg hc2, if_neg hc, wrap_id (by omega) (by omega)]
      have := ih K (i + 1) (2 * a + 0) (by omega) (by omega) (by omega)
      rw [show ((i + 1 : Nat) : Int) = (i : Int) + 1 by omega, show ((2 * a + 0 : Nat) : Int) = (a : Int) * 2 by omega] at this
      exact this
theorem number_spec (l : List UInt8) (hl : l.length ≤ 62) (K : Nat) (hK : l.length < K) : sackbutref01_Number.f K (str l) = some ((numL l 0 : Nat) : Int) := by
  unfold sackbutref01_Number.f
  have := number_loop l hl l.length K 0 0 (by omega) hK (by decide)
  simpa using this
theorem extract_str (l : List UInt8) (a b : Nat) : (str l).extract a b = str ((l.take b).drop a) := by
  apply ba_ext
  rw [str_toList, ByteArray.data_extract]
  simp [str, List.drop_take]
/-- Bytes as bits. -/
def bits8 (l : List Nat) : List UInt8 := l.flatMap (putL 8)
theorem bits8_length (l : List Nat) : (bits8 l).length = 8 * l.length := by
  unfold bits8
  induction l with
  | nil => rfl
  | cons x l ih => rw [List.flatMap_cons, List.length_append, putL_length, ih, List.length_cons]; omega
theorem bits8_append (a b : List Nat) : bits8 (a ++ b) = bits8 a ++ bits8 b := by unfold bits8; rw [List.flatMap_append]
theorem bits8_at (l : List Nat) (i n : Nat) (h : i + n ≤ l.length) : ((bits8 l).take (8 * (i + n))).drop (8 * i) = bits8 ((l.drop i).take n) := by
  have h1 : bits8 l = bits8 (l.take i) ++ (bits8 ((l.drop i).take n) ++ bits8 ((l.drop i).drop n)) := by
    rw [← bits8_append, List.take_append_drop, ← bits8_append, List.take_append_drop]
  have l1 : (bits8 (l.take i)).length = 8 * i := by rw [bits8_length, List.length_take]; omega
  have l2 : (bits8 ((l.drop i).take n)).length = 8 * n := by rw [bits8_length, List.length_take, List.length_drop]; omega
  rw [h1, ← List.append_assoc, List.take_append_of_le_length (by rw [List.length_append, l1, l2]; omega), List.take_of_length_le (by rw [List.length_append, l1, l2]; omega), List.drop_append_of_le_length (by omega), List.drop_of_length_le (by omega), List.nil_append]
theorem numL_bits8 (l : List Nat) (h : ∀ x ∈ l, x < 256) : ∀ a, numL (bits8 l) a = l.foldl (fun a c => a * 256 + c) a := by
  induction l with
  | nil => intro a; rfl
  | cons x l ih =>
    intro a
    show numL (putL 8 x ++ bits8 l) a = _
    rw [numL_append, numL_putL, ih (fun y hy => h y (by simp [hy])), Nat.mod_eq_of_lt (h x (by simp))]
    rfl
theorem align_spec (l : List UInt8) (h : l.length % 8 = 0) (K : Nat) (hK : 1 ≤ K) : sackbutref01_Align.f K (str l) = some (str l) := by
  obtain ⟨K, rfl⟩ : ∃ m, K = m + 1 := ⟨K - 1, by omega⟩
  unfold sackbutref01_Align.f
  simp only [sackbutref01_Align.l0]
  rw [if_pos (by rw [str_size]; omega)]
theorem bytes_loop (l : List Nat) (hl : l.length ≤ 100000) (hb : ∀ x ∈ l, x < 256) : ∀ (d K i : Nat) (acc : List Int), i + d = l.length → d + 20 < K → acc.length + d ≤ 200000 →
    sackbutref01_Bytes.l0 K (str (bits8 l)) acc ((8 * i : Nat) : Int) = some (acc ++ (l.drop i).map fun x : Nat => (x : Int)) := by
  intro d
  induction d with
  | zero =>
    intro K i acc hi hK ha
    obtain ⟨K, rfl⟩ : ∃ m, K = m + 1 := ⟨K - 1, by omega⟩
    simp only [sackbutref01_Bytes.l0]
    rw [if_neg (by rw [str_size, bits8_length]; omega), List.drop_eq_nil_of_le (by omega)]; simp
  | succ d ih =>
    intro K i acc hi hK ha
    obtain ⟨K, rfl⟩ : ∃ m, K = m + 1 := ⟨K - 1, by omega⟩
    have hi' : i < l.length := by omega
    simp only [sackbutref01_Bytes.l0]
    rw [wrap_id (by omega) (by omega), if_pos (by rw [str_size, bits8_length]; omega), if_pos (by omega), if_pos (by omega), if_pos (by rw [str_size, bits8_length]; omega)]
    have e1 : (((8 * i : Nat) : Int)).toNat = 8 * i := by omega
    have e2 : (((8 * i : Nat) : Int) + 8).toNat = 8 * (i + 1) := by omega
    have e3 : (l.drop i).take 1 = [l[i]] := by rw [List.drop_eq_getElem_cons hi']; rfl
    rw [e1, e2, extract_str, bits8_at l i 1 (by omega), e3, number_spec _ (by rw [bits8_length]; simp) K (by rw [bits8_length]; simp; omega), Option.bind_some, if_pos (by omega)]
    rw [numL_bits8 _ (by intro x hx; rw [List.mem_singleton.1 hx]; exact hb _ (List.getElem_mem hi'))]
    have hx := hb l[i] (List.getElem_mem hi')
    have := ih K (i + 1) (acc ++ [(l[i] : Int)]) (by omega) (by omega) (by simp; omega)
    rw [show ((8 * (i + 1) : Nat) : Int) = ((8 * i : Nat) : Int) + 8 by omega] at this
    have e4 : ((([l[i]].foldl (fun a c => a * 256 + c) 0 : Nat)) : Int) % 256 = (l[i] : Int) := by simp; omega
    rw [e4, this, List.drop_eq_getElem_cons hi', List.map_cons]; simp
theorem bytes_spec (l : List Nat) (hl : l.length ≤ 100000) (hb : ∀ x ∈ l, x < 256) (K : Nat) (hK : l.length + 20 < K) : sackbutref01_Bytes.f K (str (bits8 l)) = some (l.map fun x : Nat => (x : Int)) := by
  unfold sackbutref01_Bytes.f
  rw [align_spec _ (by rw [bits8_length]; omega) K (by omega), Option.bind_some]
  have := bytes_loop l hl hb l.length K 0 [] (by omega) (by omega) (by simp; omega)
  simpa using this
/-- A number of whole bytes as bits. -/
theorem putL_bytes3 (v : Nat) : putL 24 v = bits8 [v / 65536 % 256, v / 256 % 256, v % 256] := by
  unfold bits8
  simp only [List.flatMap_cons, List.flatMap_nil, List.append_nil]
  rw [show (24 : Nat) = 8 + 16 from rfl, putL_add, show (16 : Nat) = 8 + 8 from rfl, putL_add 8 8 v]
  rw [show (256 : Nat) = 2 ^ 8 from rfl, putL_mod, putL_mod, putL_mod]
end Go.Proofs.Ytmpaecdgcflalaa.BitStr
