/- LadderBytes in plain numbers: an index's bytes are three a size, the highest first; it is read as it was, whatever stands behind. By this project's prover (an AI agent). -/
import Derived.Test.YtlbhcbfdiojbhaaLadderRead
import Derived.Test.YtlbhcbfdiojbhaaHLx16
namespace Go.Proofs.Ytlbhcbfdiojbhaa.Pure
open Go Go.RowKit Go.Proofs.Ytlbhcbfdiojbhaa.LadderSpec Go.Proofs.Ytlbhcbfdiojbhaa.BitStr Go.Proofs.Ytlbhcbfdiojbhaa.HL Go.Proofs.YtlbhcbfdiojbhaaW.PrintWords Go.Proofs.YtlbhcbfdiojbhaaW.PrintLast

def n3 (n : Int) : List Nat := [n.toNat / 65536 % 256, n.toNat / 256 % 256, n.toNat % 256]
theorem b3_n3 (n : Int) (h : 0 ≤ n) : b3 n = (n3 n).map fun x : Nat => (x : Int) := by
  unfold b3 n3
  simp only [List.map_cons, List.map_nil, List.cons.injEq, and_true]
  omega
theorem bytes_n3 (l : List Int) (hi : Index l) : l.flatMap b3 = (l.flatMap n3).map fun x : Nat => (x : Int) := by
  induction l with
  | nil => rfl
  | cons x l ih =>
    have hx := hi x (by simp)
    rw [List.flatMap_cons, List.flatMap_cons, List.map_append, b3_n3 x (by omega), ih (fun y hy => hi y (by simp [hy]))]
theorem n3_lt (l : List Int) : ∀ x ∈ l.flatMap n3, x < 256 := by
  intro x hx
  obtain ⟨n, _, h⟩ := List.mem_flatMap.1 hx
  simp only [n3, List.mem_cons, List.not_mem_nil, or_false] at h
  omega
theorem n3_length (l : List Int) : (l.flatMap n3).length = 3 * l.length := by
  induction l with
  | nil => rfl
  | cons x l ih => rw [List.flatMap_cons, List.length_append, ih, List.length_cons]; simp [n3]; omega
theorem put24 (v : Int) (h : 1 ≤ v ∧ v ≤ 16777215) (K : Nat) (hK : 30 ≤ K) : sackbutref01_Put.f K v 24 = some (str (bits8 (n3 v))) := by
  have := put_spec 24 v.toNat K (by omega) (by omega) (by omega)
  rw [show ((v.toNat : Nat) : Int) = v by omega, show ((24 : Nat) : Int) = 24 from rfl, putL_bytes3] at this
  exact this
theorem bytes_l0 (l more : List Int) (hl : l.length ≤ 100) (hi : Index l) (hm : Bs more) (hml : more.length ≤ 50) : ∀ (d K j : Nat), j + d = l.length → d + 600 < K →
    sackbutlaw17_LadderBytes.l0 K l more (l.flatMap b3) 0 (str (bits8 ((l.take j).flatMap n3))) l (l.length : Int) (j : Int) = some true := by
  intro d
  induction d with
  | zero =>
    intro K j hj hK
    obtain ⟨K, rfl⟩ : ∃ m, K = m + 1 := ⟨K - 1, by omega⟩
    simp only [sackbutlaw17_LadderBytes.l0]
    have hb3 := bytes3_length l
    have hread : ladder_Read.f ([] ++ l.flatMap b3 ++ more) (l.length : Int) = some (l, 0) := by
      unfold ladder_Read.f
      rw [List.nil_append, if_neg (by omega), if_neg (by rw [List.length_append, hb3]; omega), Int.toNat_natCast, sizes_back l more hi hm, if_pos (good_index l (by omega) true (by simp [hi]))]
    rw [if_neg (by omega), Option.bind_some, if_pos (by rw [hb3]; simp; omega), Option.bind_some, if_pos (by rw [List.length_append, hb3]; simp; omega), hread, Option.bind_some, if_pos trivial]
    rw [List.take_of_length_le (by omega), bytes_spec _ (by rw [n3_length]; omega) (n3_lt l) K (by rw [n3_length]; omega), Option.bind_some, ← bytes_n3 l hi, if_pos rfl, if_pos rfl, same_spec l (by omega) K (by omega)]; rfl
  | succ d ih =>
    intro K j hj hK
    obtain ⟨K, rfl⟩ : ∃ m, K = m + 1 := ⟨K - 1, by omega⟩
    have hj' : j < l.length := by omega
    have hx := hi _ (List.getElem_mem hj')
    simp only [sackbutlaw17_LadderBytes.l0]
    have hs : (l.take (j + 1)).flatMap n3 = (l.take j).flatMap n3 ++ n3 l[j] := by
      rw [List.take_succ_eq_append_getElem hj', List.flatMap_append, List.flatMap_cons, List.flatMap_nil, List.append_nil]
    have hlt : ((l.take j).flatMap n3).length ≤ 300 := by rw [n3_length, List.length_take]; omega
    rw [if_pos (by omega), if_pos (by omega), if_pos (by omega), rd_nat l j hj', put24 _ hx K (by omega), Option.bind_some, if_pos (by rw [str_size, str_size, bits8_length, bits8_length, show (n3 l[j]).length = 3 from rfl]; omega), str_append, ← bits8_append, ← hs, BitStr.wrap_id (by omega) (by omega)]
    have := ih K (j + 1) (by omega) (by omega)
    rwa [show ((j + 1 : Nat) : Int) = (j : Int) + 1 by omega] at this
theorem LadderBytes : sackbutlaw17_LadderBytes.Pure := by
  intro l more _ _ _ _ _ hmw
  have hm : Bs more := fun x hx => wf_u8 (hmw x hx)
  refine ⟨1000, ?_⟩
  unfold sackbutlaw17_LadderBytes.f
  rw [awake_ok _ (by omega), Option.bind_some, if_pos rfl]
  have hj : sackbutlaw17_LadderBytes.j0 1000 l more true = some true := by
    simp only [sackbutlaw17_LadderBytes.j0]
    rw [if_pos trivial, awake_ok _ (by omega)]; rfl
  by_cases h1 : (l.length : Int) > 100
  · rw [if_pos h1]; exact hj
  rw [if_neg h1]
  by_cases h2 : (more.length : Int) > 50
  · rw [decide_eq_true h2]; exact hj
  rw [decide_eq_false h2]
  simp only [sackbutlaw17_LadderBytes.j0]
  rw [if_neg (by decide)]
  obtain ⟨b, e, hb⟩ := good_spec l (by omega) 999 (by omega)
  have eg := good_index l (by omega) b hb
  have eb : ladder_Bytes.f 999 l = some (if b = true then (l.flatMap b3, 0) else ([], 12)) := by
    unfold ladder_Bytes.f
    rw [eg, Option.bind_some]
    cases b
    · rfl
    · rw [if_pos rfl, if_pos rfl]
      have := bytes_loop3 l (by omega) l.length 999 0 [] (by omega) (by omega) (by simp; omega)
      simpa using this
  rw [eb, Option.bind_some, eg, Option.bind_some, e, Option.bind_some]
  cases b
  · simp
  · have hi := hb.1 rfl
    have := bytes_l0 l more (by omega) hi hm (by omega) l.length 999 0 (by omega) (by omega)
    simpa [bits8, str_nil] using this
end Go.Proofs.Ytlbhcbfdiojbhaa.Pure
