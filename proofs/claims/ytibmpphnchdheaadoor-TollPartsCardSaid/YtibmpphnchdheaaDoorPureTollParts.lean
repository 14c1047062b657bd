/- TollParts in plain numbers: bytes taken in any two parts have the sum that they have at once; so do their sums, joined. -/
import Derived.Test.YtibmpphnchdheaaDoorTollJoin
import Derived.Test.YtibmpphnchdheaaDoorHTx8
namespace Go.Proofs.YtibmpphnchdheaaDoor.Pure
open Go Go.RowKit Go.Proofs.YtibmpphnchdheaaDoor.TollMath Go.Proofs.YtibmpphnchdheaaDoor.TollSpec Go.Proofs.YtibmpphnchdheaaDoor.HT Go.Proofs.YtibmpphnchdheaaDoorW.PrintWords Go.Proofs.YtibmpphnchdheaaDoorW.PrintLast Go.Proofs.YtibmpphnchdheaaDoorW.PrintMore

theorem bytes_sub {l m : List Int} (h : Bytes l) (hs : ∀ x ∈ m, x ∈ l) : Bytes m := fun x hx => h x (hs x hx)
theorem crc_sum (l : List Int) : crc l ^^^ full = st l full := by unfold crc; rw [xor_cancel_right]
theorem parts_walk (l0 : List Int) (hb : Bytes l0) (hlen : l0.length ≤ 1000) (i j : Nat) (hi : i ≤ j) (hj : j ≤ l0.length) (k : Nat) (hk : 1500 < k) :
    sackbutlaw04_TollParts.j1 (k + 1) l0 (i : Int) (j : Int) false 0 0 = some true := by
  have hb1 : Bytes (l0.take i) := bytes_sub hb (fun x hx => List.mem_of_mem_take hx)
  have hb2 : Bytes ((l0.take j).drop i) := bytes_sub hb (fun x hx => List.mem_of_mem_take (List.mem_of_mem_drop hx))
  have hb3 : Bytes (l0.drop j) := bytes_sub hb (fun x hx => List.mem_of_mem_drop hx)
  have hb4 : Bytes (l0.drop i) := bytes_sub hb (fun x hx => List.mem_of_mem_drop hx)
  have e1 : (l0.take i).length = i := by rw [List.length_take]; omega
  have e2 : ((l0.take j).drop i).length = j - i := by rw [List.length_drop, List.length_take]; omega
  have e3 : (l0.drop j).length = l0.length - j := by rw [List.length_drop]
  have e4 : (l0.drop i).length = l0.length - i := by rw [List.length_drop]
  have s0 : full < 2 ^ 32 := by decide
  have s1 : st (l0.take i) full < 2 ^ 32 := st_lt _ hb1 s0
  have s2 : st ((l0.take j).drop i) (st (l0.take i) full) < 2 ^ 32 := st_lt _ hb2 s1
  have a1 := add_spec (l0.take i) hb1 (by omega) 0 (by decide) 0 k (by omega)
  rw [Nat.zero_xor, e1, wrap_id (by omega) (by omega), show ((0 : Nat) : Int) = 0 from rfl, Int.zero_add] at a1
  have a2 := add_spec ((l0.take j).drop i) hb2 (by omega) (st (l0.take i) full ^^^ full) (Nat.xor_lt_two_pow s1 s0) (i : Int) k (by omega)
  rw [xor_cancel_right, e2, wrap_id (by omega) (by omega), show (i : Int) + ((j - i : Nat) : Int) = (j : Int) by omega] at a2
  have a3 := add_spec (l0.drop j) hb3 (by omega) (st ((l0.take j).drop i) (st (l0.take i) full) ^^^ full) (Nat.xor_lt_two_pow s2 s0) (j : Int) k (by omega)
  rw [xor_cancel_right, e3, wrap_id (by omega) (by omega), show (j : Int) + ((l0.length - j : Nat) : Int) = (l0.length : Int) by omega] at a3
  have hall : l0.take i ++ (l0.take j).drop i ++ l0.drop j = l0 := by
    have h1 : l0.take i ++ (l0.take j).drop i = l0.take j := by
      have h2 : l0.take i = (l0.take j).take i := by rw [List.take_take, Nat.min_eq_left hi]
      rw [h2, List.take_append_drop]
    rw [h1, List.take_append_drop]
  have hs3 : st (l0.drop j) (st ((l0.take j).drop i) (st (l0.take i) full)) ^^^ full = crc l0 := by rw [← st_append, ← st_append, ← List.append_assoc, hall]; rfl
  rw [hs3] at a3
  have u0 := sum_spec l0 hb (by omega) k (by omega)
  have u1 := sum_spec (l0.take i) hb1 (by omega) k (by omega)
  have u2 := sum_spec (l0.drop i) hb4 (by omega) k (by omega)
  have ji := join_spec (crc (l0.take i)) (crc (l0.drop i)) (l0.length - i) k (crc_lt _ hb1) (crc_lt _ hb4) (by omega) (by omega)
  have jc := join_crc (l0.take i) (l0.drop i) hb4
  rw [e4, List.take_append_drop] at jc
  rw [jc] at ji
  clear jc hall hs3 s1 s2 e1 e2 e3 e4
  simp only [sackbutlaw04_TollParts.j1]
  rw [if_neg (by decide), if_pos (by omega), if_pos (by omega), Int.toNat_natCast, Int.toNat_natCast, a1, Option.bind_some]
  rw [if_pos (by omega), if_pos (by omega), a2, Option.bind_some, if_pos (by omega), a3, Option.bind_some]
  simp only [toll_Tally_Sum.f, toll_Tally_Len.f, Option.bind_some]
  rw [u0, Option.bind_some, if_pos rfl, if_pos trivial, u1, Option.bind_some, u2, Option.bind_some]
  rw [wrap_id (by omega) (by omega), show (l0.length : Int) - (i : Int) = ((l0.length - i : Nat) : Int) by omega, ji, Option.bind_some, Option.bind_some]
  simp

theorem TollParts : sackbutlaw04_TollParts.Pure := by
  intro l0 a1 a2 _ hsz hw hw1 hw2
  have hb := bytes_of_wf hw
  have h1 := wf_u16 hw1
  have h2 := wf_u16 hw2
  refine ⟨2001, ?_⟩
  unfold sackbutlaw04_TollParts.f sackbutlaw04_awake.f
  rw [Option.bind_some, if_pos rfl]
  by_cases hl : (l0.length : Int) > 1000
  · rw [decide_eq_true hl]
    simp only [sackbutlaw04_TollParts.j0]
    rfl
  · rw [decide_eq_false hl]
    obtain ⟨i, hi⟩ : ∃ i : Nat, i = a1.toNat % (l0.length + 1) := ⟨_, rfl⟩
    obtain ⟨d, hd⟩ : ∃ d : Nat, d = a2.toNat % (l0.length - i + 1) := ⟨_, rfl⟩
    have hi1 : i < l0.length + 1 := by rw [hi]; exact Nat.mod_lt _ (by omega)
    have hd1 : d < l0.length - i + 1 := by rw [hd]; exact Nat.mod_lt _ (by omega)
    have t1 : Int.tmod (wrap64 a1) (wrap64 ((l0.length : Int) + 1)) = (i : Int) := by
      rw [wrap_id h1.1 (by omega), wrap_id (by omega) (by omega), Int.tmod_eq_emod_of_nonneg h1.1, hi]
      conv => lhs; rw [show a1 = ((a1.toNat : Nat) : Int) by omega, show (l0.length : Int) + 1 = ((l0.length + 1 : Nat) : Int) by omega]
      exact (Int.natCast_emod _ _).symm
    have t2 : Int.tmod (wrap64 a2) (wrap64 (wrap64 ((l0.length : Int) - (i : Int)) + 1)) = (d : Int) := by
      rw [wrap_id h2.1 (by omega), wrap_id (x := (l0.length : Int) - (i : Int)) (by omega) (by omega), wrap_id (by omega) (by omega), Int.tmod_eq_emod_of_nonneg h2.1, hd]
      conv => lhs; rw [show a2 = ((a2.toNat : Nat) : Int) by omega, show (l0.length : Int) - (i : Int) + 1 = ((l0.length - i + 1 : Nat) : Int) by omega]
      exact (Int.natCast_emod _ _).symm
    clear hi hd
    simp only [sackbutlaw04_TollParts.j0]
    rw [if_neg (by decide), t1, t2, if_neg (by rw [wrap_id (by omega) (by omega)]; omega), if_neg (by rw [wrap_id (x := (l0.length : Int) - (i : Int)) (by omega) (by omega), wrap_id (by omega) (by omega)]; omega)]
    simp only [toll_Tally_Sum.f, toll_Tally_Len.f, Option.bind_some]
    rw [if_pos trivial, show ((0 : Int) != 0) = false from rfl, wrap_id (by omega) (by omega), show (i : Int) + (d : Int) = ((i + d : Nat) : Int) by omega]
    exact parts_walk l0 hb (by omega) i (i + d) (by omega) (by omega) 1999 (by omega)
end Go.Proofs.YtibmpphnchdheaaDoor.Pure
