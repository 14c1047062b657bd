/- What the Go functions come to, as plain Lean functions, and that their calls do just that: written by this project's own program (hp.sh); conditions: those of each theorem. -/
import Derived.Test.YtmpaecdgcflalaaHKx0
import Derived.RangeFuncNested
import Derived.RangeFuncBound
import Derived.RangeFuncCalls
import Derived.RangeFuncLeaves
import Derived.RangeFuncBox
import Derived.Shelf.Abstract
import Derived.Shelf.AbstractIn
import Derived.Shelf.RegionOpen
import Derived.WalkKit
import Derived.OwnWalkIn
import Derived.TacticsInMore
import Derived.LoopNIn
import Derived.LoopIn
import Derived.Lib.HexFns2
namespace Go.Proofs.Ytmpaecdgcflalaa.HK
open Go.RowKit Go.Proofs.YtmpaecdgcflalaaW.PrintWords Go.Proofs.YtmpaecdgcflalaaW.PrintLast Go.Proofs.YtmpaecdgcflalaaW.PrintMore
attribute [local go_sem] max2_int min2_int max_two min_two max_three min_three max_four min_four   -- for this text's walks alone
set_option linter.unusedVariables false
set_option linter.unusedSimpArgs false

/-! ### slices_Chunk_byte_byte: function 29, by hand -/
open Go.Shelf
attribute [local go_sem] Oper.semAt_some
structure AsideC (p : Prop) : Prop where mk :: (out : p)
/-- The k-th chunk of n of a row of len, as a slice. -/
def chunkV (A : Option Addr) (len n k : Nat) : Value := .slice (some ((A.getD ⟨0, 0, none⟩).add (k * n))) (min n (len - k * n)) (min n (len - k * n))
/-- The number of a chunk that there is. -/
abbrev ChunkNo (len n : Nat) := { x : Nat // x * n < len }
/-- The iterator's two variables keep what they hold. -/
def KC (Bs Bn : Nat) (W W' : World) : Prop := W'.cell? ⟨Bs, 0, none⟩ = W.cell? ⟨Bs, 0, none⟩ ∧ W'.cell? ⟨Bn, 0, none⟩ = W.cell? ⟨Bn, 0, none⟩
theorem KC.trans {Bs Bn : Nat} {A B C : World} (h : KC Bs Bn A B) (h' : KC Bs Bn B C) : KC Bs Bn A C := ⟨h'.1.trans h.1, h'.2.trans h.2⟩
set_option maxRecDepth 100000 in
set_option maxHeartbeats 2000000 in
theorem chunk1_in (F : Fence) (m : Nat) (h32 : F.fn 34) (hro : F.round = none) (hm : 1 ≤ m) (l Bs Bn cap len n : Nat) (A : Option Addr) (hA : 0 < len → ∃ ad, A = some ad) (hn : 1 ≤ n) (hlen : len + n ≤ 9223372036854775807) (hcap : len ≤ cap) (J Jx : List (ChunkNo len n) → World → Prop)
    (hJ : ∀ pre W, J pre W → J pre W.drew)
    (hY : ∀ pre x W, J pre W → pre.length < len → YieldAt F (m - 1) Try.prog l #[chunkV A len n x.1] W fun e W' =>
      (e = .returned (.bool true) ∧ J (pre ++ [x]) W' ∧ KC Bs Bn W W') ∨ (e = .returned (.bool false) ∧ Jx (pre ++ [x]) W'))
    (W : World) (hBs : W.cell? ⟨Bs, 0, none⟩ = some (.slice A len cap)) (hBn : W.cell? ⟨Bn, 0, none⟩ = some (.int .i64 (n : Int))) (h0 : J [] W) :
    CallsIn F m Try.prog 34 #[.func (.yield l) #[] #[], .pointer (some ⟨Bs, 0, none⟩), .pointer (some ⟨Bn, 0, none⟩)] W fun e W' => (∃ v, e = .returned v) ∧
      ((∃ ys, (∃ K, ys.map (·.1) = List.range K ∧ len ≤ K * n) ∧ J ys W') ∨ (∃ pre, (∃ k, pre.map (·.1) = List.range k) ∧ Jx pre W')) := by
  refine callsIn_of_wp Try.func34 rfl h32 ?_ hro
  simp only [Try.ntmps34, List.size_toArray, List.length_cons, List.length_nil, Nat.reduceAdd, Nat.reduceSub, Array.replicate_succ, Array.replicate_zero, List.push_toArray, List.append_toArray, List.nil_append, List.cons_append]
  have HA := AsideC.mk hA
  have HJ := AsideC.mk hJ
  clear hA hJ
  gi_wp2
  gi_loopw [4] (fun i wr => ∃ (k q : Nat) (pre : List (ChunkNo len n)), i = .int .i64 (q : Int) ∧ AsideC (q = k * n ∧ pre.map (·.1) = List.range k) ∧ q < len + n ∧ J pre wr ∧ AsideC (wr.cell? ⟨Bs, 0, none⟩ = some (.slice A len cap) ∧ wr.cell? ⟨Bn, 0, none⟩ = some (.int .i64 (n : Int))))
    (fun i _ => (len + n) - (intOf i).toNat)
  case atStart => exact ⟨0, 0, [], rfl, ⟨by simp, rfl⟩, by omega, h0, ⟨hBs, hBn⟩⟩
  case round =>
    obtain ⟨k, q, pre, rfl, HQ, hq, hJs, hnx⟩ := hrel
    have es := hnx.out.1
    have en := hnx.out.2
    clear hnx
    by_cases hlt : q < len
    · obtain ⟨ad, rfl⟩ := HA.out (by omega)
      have hrest : k < len := by
        have h1 : k ≤ k * n := Nat.le_mul_of_pos_right k hn
        have := HQ.out.1; omega
      obtain ⟨fn, tmps, assign, body, hy, hR⟩ := hY pre ⟨k, by rw [← HQ.out.1]; exact hlt⟩ wr.drew (HJ.out _ _ hJs) (by have h := congrArg List.length HQ.out.2; rw [List.length_map, List.length_range] at h; omega)
      have hcv : chunkV (some ad) len n k = .slice (some (ad.add q)) (min n (len - q)) (min n (len - q)) := by rw [HQ.out.1]; rfl
      dsimp only at hy
      rw [hcv] at hy
      have hqz : (q : Int) < (len : Int) := by omega
      have hmx : (Try.prog).follows .mixedOrders = true := by kernel_rfl
      have HQ2 : AsideC (q + n = (k + 1) * n ∧ (pre ++ [(⟨k, by rw [← HQ.out.1]; exact hlt⟩ : ChunkNo len n)]).map (·.1) = List.range (k + 1)) := by
        refine ⟨by rw [Nat.add_mul, Nat.one_mul, ← HQ.out.1], ?_⟩
        rw [List.map_append, List.range_succ]; exact congrArg (fun z => z ++ [k]) HQ.out.2
      clear hY hBs hcv hrest
      gi_wp2
      gi_region
      all_goals gi_wp2
      all_goals (try go_bits)
      all_goals (first | rw [show q + (len - q) - q = min n (len - q) by omega] | rw [show q + n - q = min n (len - q) by omega])
      all_goals rw [hy]
      all_goals gi_wp2
      all_goals
        refine hR.mono ?_
        intro e W3 hh
        rcases hh with ⟨rfl, hJ3, hk3⟩ | ⟨rfl, hJx3⟩
        · have en3 : W3.cell? ⟨Bn, 0, none⟩ = some (.int .i64 (n : Int)) := hk3.2.trans en
          have es3 := AsideC.mk (hk3.1.trans es)
          gi_wp2
          go_roundw
          case rel => exact ⟨k + 1, q + n, _, by go_num, HQ2, by omega, hJ3, ⟨es3.out, en3⟩⟩
          case measure => simp [intOf]; omega
        · gi_wp2
          refine bodyPost_ret (results_none rfl _ _ _) rfl ?_
          exact ⟨⟨_, rfl⟩, .inr ⟨_, ⟨k + 1, HQ2.out.2⟩, hJx3⟩⟩
    · gi_wp2
      go_end0
      exact ⟨⟨_, rfl⟩, .inl ⟨_, ⟨k, HQ.out.2, by rw [← HQ.out.1]; omega⟩, hJs⟩⟩
set_option maxHeartbeats 1000000 in
theorem chunk_in (F : Fence) (m : Nat) (h28 : F.fn 29) (hro : F.round = none) (A : Option Addr) (len cap n : Nat) (hn : 1 ≤ n) (w : World) :
    CallsIn F m Try.prog 29 #[.slice A len cap, .int .i64 (n : Int)] w fun e w' => e = .returned (.func (.func 34) #[] #[.pointer (some ⟨w.heap.size, 0, none⟩), .pointer (some ⟨w.heap.size + 1, 0, none⟩)]) ∧ w' = (w.alloc (.cells #[.slice A len cap] 33)).alloc (.cells #[.int .i64 (n : Int)] 3) := by
  refine callsIn_of_wp Try.func29 rfl h28 ?_ hro
  simp only [Try.ntmps29, List.size_toArray, List.length_cons, List.length_nil, Nat.reduceAdd, Nat.reduceSub, Array.replicate_succ, Array.replicate_zero, List.push_toArray, List.append_toArray, List.nil_append, List.cons_append]
  have hnz : ¬ ((n : Int) < 1) := by omega
  gi_wp2
  go_ret
  exact ⟨rfl, rfl⟩
theorem chunk_stops (F : Fence) (m : Nat) (h32 : F.fn 34) (hro : F.round = none) (hm : 1 ≤ m) (Bs Bn cap len n : Nat) (A : Option Addr) (hA : 0 < len → ∃ ad, A = some ad) (hn : 1 ≤ n) (hlen : len + n ≤ 9223372036854775807) (hcap : len ≤ cap) (w : World) (hBs : Bs < w.heap.size) (hBn : Bn < w.heap.size)
    (hs : w.cell? ⟨Bs, 0, none⟩ = some (.slice A len cap)) (hnc : w.cell? ⟨Bn, 0, none⟩ = some (.int .i64 (n : Int))) :
    SeqStopsK F m Try.prog 34 #[.pointer (some ⟨Bs, 0, none⟩), .pointer (some ⟨Bn, 0, none⟩)] (fun x : ChunkNo len n => #[chunkV A len n x.1]) (KC Bs Bn) (fun ys => ∃ K, ys.map (·.1) = List.range K ∧ len ≤ K * n) (fun pre => ∃ k, pre.map (·.1) = List.range k) len w := fun l J Jx W hW hJ _ hY h0 => by
  have hs' := (hW.cell (p := ⟨Bs, 0, none⟩) hBs).trans hs
  have hn' := (hW.cell (p := ⟨Bn, 0, none⟩) hBn).trans hnc
  exact chunk1_in F m h32 hro hm l Bs Bn cap len n A hA hn hlen hcap J Jx (fun pre W1 h => hJ pre W1 W1.drew none h (Lib.Hx.grownBy_drew (World.grownBy.refl W1 none)) (fun r e => by cases e)) hY W hs' hn' h0

end Go.Proofs.Ytmpaecdgcflalaa.HK
