/- What the Go functions come to, as plain Lean functions, and that their calls do just that: written by this project's own program (hp.sh); conditions: those of each theorem. -/
import Derived.Test.YtlbhcbfdiojbhaaHLx0
import Derived.RangeFuncNested
import Derived.RangeFuncBound
import Derived.RangeFuncCalls
import Derived.RangeFuncLeaves
import Derived.RangeFuncBox
import Derived.Shelf.Abstract
import Derived.Shelf.AbstractIn
import Derived.Shelf.RegionOpen
import Derived.WalkKit
import Derived.OwnWalkIn
import Derived.TacticsInMore
import Derived.LoopNIn
import Derived.LoopIn
namespace Go.Proofs.Ytlbhcbfdiojbhaa.HL
open Go.RowKit Go.Proofs.YtlbhcbfdiojbhaaW.PrintWords Go.Proofs.YtlbhcbfdiojbhaaW.PrintLast Go.Proofs.YtlbhcbfdiojbhaaW.PrintMore
attribute [local go_sem] max2_int min2_int max_two min_two max_three min_three max_four min_four   -- for this text's walks alone
set_option linter.unusedVariables false
set_option linter.unusedSimpArgs false

/-! ### ladder_Spans: function 10, by hand -/
open Go.Shelf
attribute [local go_sem] Oper.semAt_some
structure AsideL (p : Prop) : Prop where mk :: (out : p)
/-- What has come when k rounds are over. -/
def upto {α : Type} (f : Nat → α) (k : Nat) : List α := (List.range k).map f
theorem upto_succ {α : Type} (f : Nat → α) (k : Nat) : upto f (k + 1) = upto f k ++ [f k] := by simp [upto, List.range_succ]
theorem upto_length {α : Type} (f : Nat → α) (k : Nat) : (upto f k).length = k := by simp [upto]
/-- Where the k-th span begins. -/
def spanAt (zs : List Int) (k : Nat) : Int := (zs.take k).foldl (fun s v => wrap64 (s + v)) 0
theorem spanAt_succ (zs : List Int) (k : Nat) (h : k < zs.length) : spanAt zs (k + 1) = wrap64 (spanAt zs k + zs[k]?.getD 0) := by
  unfold spanAt
  rw [List.take_succ_eq_append_getElem h, List.foldl_append]
  simp [h]
def spanOf (zs : List Int) (k : Nat) : Int × Int := (spanAt zs k, wrap64 (spanAt zs k + zs[k]?.getD 0))
set_option maxRecDepth 100000 in
set_option maxHeartbeats 2000000 in
theorem spans1_in (F : Fence) (n : Nat) (h22 : F.fn 22) (hro : F.round = none) (hn : 1 ≤ n) (l Bs n₀ cap : Nat) (A : Option Addr) (zs : List Int) (w0 : World) (hR : ReadsInt w0 .i64 A zs.length zs) (hw0 : w0.heap.size ≤ n₀) (J Jx : List (Int × Int) → World → Prop)
    (hY : ∀ pre x W, J pre W → pre.length < zs.length → YieldAt F (n - 1) Try.prog l #[.int .i64 x.1, .int .i64 x.2] W fun e W' =>
      (e = .returned (.bool true) ∧ J (pre ++ [x]) W' ∧ Below n₀ W W') ∨ (e = .returned (.bool false) ∧ Jx (pre ++ [x]) W'))
    (W : World) (hBs : W.cell? ⟨Bs, 0, none⟩ = some (.slice A zs.length cap)) (hW : Below w0.heap.size w0 W) (h0 : J [] W) :
    CallsIn F n Try.prog 22 #[.func (.yield l) #[] #[], .pointer (some ⟨Bs, 0, none⟩)] W fun e W' => (∃ v, e = .returned v) ∧
      ((∃ ys, ys = upto (spanOf zs) zs.length ∧ J ys W') ∨ (∃ pre, (∃ k, k ≤ zs.length ∧ pre = upto (spanOf zs) k) ∧ Jx pre W')) := by
  have HR := AsideL.mk hR
  have HW := AsideL.mk hW
  have hbig : zs.length ≤ 9223372036854775807 := hR.2.1
  clear hR hW
  obtain ⟨len, hlen⟩ : ∃ len, zs.length = len := ⟨_, rfl⟩
  have HL := AsideL.mk hlen
  rw [hlen] at hBs hbig hY
  rw [hlen]
  clear hlen
  refine callsIn_of_wp Try.func22 rfl h22 ?_ hro
  simp only [Try.ntmps22, List.size_toArray, List.length_cons, List.length_nil, Nat.reduceAdd, Nat.reduceSub, Array.replicate_succ, Array.replicate_zero, List.push_toArray, List.append_toArray, List.nil_append, List.cons_append]
  gi_wp2
  gi_loopw [3, 8] (fun f i wr => ∃ k : Nat, k ≤ len ∧ f = .int .i64 (spanAt zs k) ∧ i = .int .i64 k ∧ J (upto (spanOf zs) k) wr ∧ AsideL (Below n₀ W wr))
    (fun _ i _ => len - (intOf i).toNat)
  case atStart => exact ⟨0, Nat.zero_le _, rfl, rfl, h0, ⟨Below.refl _ _⟩⟩
  case round =>
    obtain ⟨k, hk, rfl, rfl, hJs, hnx⟩ := hrel
    by_cases hlt : k < len
    · have hkl := AsideL.mk (show k < zs.length by rw [HL.out]; exact hlt)
      obtain ⟨ad, rfl, hcell⟩ := ReadsInt.at_ HR.out (k : Int) (by omega) (by rw [HL.out]; omega)
      have hb0 := World.block_lt_of_cell? w0 _ hcell
      have hcx : wr.cell? (ad.add k) = some (.int .i64 (zs[k]?.getD 0)) := by
        have e := (hnx.out.cell (Nat.lt_of_lt_of_le hb0 hw0)).trans ((HW.out.cell hb0).trans hcell)
        rw [Int.toNat_natCast] at e
        rw [e]; unfold rd; rw [Int.toNat_natCast, List.getD_eq_getElem?_getD]
      obtain ⟨fn, tmps, assign, body, hy, hR⟩ := hY _ (spanOf zs k) wr hJs (by rw [upto_length]; exact hlt)
      dsimp only [spanOf] at hy
      clear hcell hb0
      obtain ⟨y, hyy⟩ : ∃ y, zs[k]?.getD 0 = y := ⟨_, rfl⟩
      have hsucc := AsideL.mk ((spanAt_succ zs k hkl.out).trans (by rw [hyy]))
      rw [hyy] at hcx hy
      clear hyy
      gi_wp2
      refine hR.mono ?_
      rintro e W3 (⟨rfl, hJ3, hk3⟩ | ⟨rfl, hJx3⟩)
      · gi_wp2
        go_roundw
        case rel => exact ⟨k + 1, by omega, by rw [hsucc.out], by go_num, by rw [upto_succ]; exact hJ3, ⟨hnx.out.trans hk3⟩⟩
        case measure => simp [intOf]; omega
      · gi_wp2
        refine bodyPost_ret (results_none rfl _ _ _) rfl ?_
        exact ⟨⟨_, rfl⟩, .inr ⟨_, ⟨k + 1, by omega, (upto_succ _ _).symm⟩, hJx3⟩⟩
    · obtain rfl : k = len := by omega
      gi_wp2
      go_end0
      exact ⟨⟨_, rfl⟩, .inl ⟨_, rfl, hJs⟩⟩
set_option maxHeartbeats 1000000 in
theorem spans_in (F : Fence) (n : Nat) (h10 : F.fn 10) (hro : F.round = none) (a : Option Addr) (len cap : Nat) (w : World) :
    CallsIn F n Try.prog 10 #[.slice a len cap] w fun e w' => e = .returned (.func (.func 22) #[] #[.pointer (some ⟨w.heap.size, 0, none⟩)]) ∧ w' = w.alloc (.cells #[.slice a len cap] 22) := by
  refine callsIn_of_wp Try.func10 rfl h10 ?_ hro
  simp only [Try.ntmps10, List.size_toArray, List.length_cons, List.length_nil, Nat.reduceAdd, Nat.reduceSub, Array.replicate_succ, Array.replicate_zero, List.push_toArray, List.append_toArray, List.nil_append, List.cons_append]
  gi_wp2
  go_ret
  exact ⟨rfl, rfl⟩
theorem spans_stops (F : Fence) (n : Nat) (h22 : F.fn 22) (hro : F.round = none) (hn : 1 ≤ n) (Bs cap : Nat) (A : Option Addr) (zs : List Int) (w0 w : World) (hR : ReadsInt w0 .i64 A zs.length zs) (hw : Below w0.heap.size w0 w) (hBs : Bs < w.heap.size)
    (hc : w.cell? ⟨Bs, 0, none⟩ = some (.slice A zs.length cap)) :
    SeqStopsK F n Try.prog 22 #[.pointer (some ⟨Bs, 0, none⟩)] (fun x : Int × Int => #[Value.int .i64 x.1, Value.int .i64 x.2]) (Below w0.heap.size) (fun ys => ys = upto (spanOf zs) zs.length) (fun pre => ∃ k, k ≤ zs.length ∧ pre = upto (spanOf zs) k) zs.length w := fun l J Jx W hW _ _ hY h0 => by
  have hc' := (hW.cell (p := ⟨Bs, 0, none⟩) hBs).trans hc
  exact spans1_in F n h22 hro hn l Bs w0.heap.size cap A zs w0 hR (Nat.le_refl _) J Jx hY W hc' (hw.trans (hW.mono hw.size)) h0

end Go.Proofs.Ytlbhcbfdiojbhaa.HL
