/- What the Go functions come to, as plain Lean functions, and that their calls do just that: written by this project's own program (hp.sh); conditions: those of each theorem. -/
import Derived.Test.YtlbhcbfdiojbhaaHLx0
import Derived.Test.YtlbhcbfdiojbhaaHLx1
import Derived.RangeFuncNested
import Derived.RangeFuncBound
import Derived.RangeFuncCalls
import Derived.RangeFuncLeaves
import Derived.RangeFuncBox
import Derived.Shelf.Abstract
import Derived.Shelf.AbstractIn
import Derived.Shelf.RegionOpen
import Derived.WalkKit
import Derived.OwnWalkIn
import Derived.TacticsInMore
import Derived.LoopNIn
import Derived.LoopIn
namespace Go.Proofs.Ytlbhcbfdiojbhaa.HL
open Go.RowKit Go.Proofs.YtlbhcbfdiojbhaaW.PrintWords Go.Proofs.YtlbhcbfdiojbhaaW.PrintLast Go.Proofs.YtlbhcbfdiojbhaaW.PrintMore
attribute [local go_sem] max2_int min2_int max_two min_two max_three min_three max_four min_four   -- for this text's walks alone
set_option linter.unusedVariables false
set_option linter.unusedSimpArgs false

/-! ### ladder_search: function 23, by hand -/
open Go.Shelf
attribute [local go_sem] Oper.semAt_some
/-- The first span of which p holds: its number, its beginning and end, what is wrong. -/
def searchF (p : Int → Int → Int → Bool) (zs : List Int) : Int × Int × Int × Int :=
  match (List.range zs.length).find? (fun k : Nat => p (k : Int) (spanOf zs k).1 (spanOf zs k).2) with
  | some k => ((k : Int), (spanOf zs k).1, (spanOf zs k).2, 0)
  | none => (0, 0, 0, 14)
theorem searchF_some {p : Int → Int → Int → Bool} {zs : List Int} {k : Nat} (hk : k < zs.length) (h : p (k : Int) (spanOf zs k).1 (spanOf zs k).2 = true) (hj : ∀ j, j < k → p (j : Int) (spanOf zs j).1 (spanOf zs j).2 = false) : searchF p zs = ((k : Int), (spanOf zs k).1, (spanOf zs k).2, 0) := by
  unfold searchF
  have e : (List.range zs.length).find? (fun k : Nat => p (k : Int) (spanOf zs k).1 (spanOf zs k).2) = some k := by
    rw [List.find?_range_eq_some]
    exact ⟨h, List.mem_range.2 hk, fun j hj' => by simp [hj j hj']⟩
  rw [e]
theorem searchF_none {p : Int → Int → Int → Bool} {zs : List Int} (hj : ∀ j, j < zs.length → p (j : Int) (spanOf zs j).1 (spanOf zs j).2 = false) : searchF p zs = (0, 0, 0, 14) := by
  unfold searchF
  have e : (List.range zs.length).find? (fun k : Nat => p (k : Int) (spanOf zs k).1 (spanOf zs k).2) = none := by
    rw [List.find?_eq_none]
    intro j hj'
    simp [hj j (List.mem_range.1 hj')]
  rw [e]
set_option maxRecDepth 100000 in
set_option maxHeartbeats 4000000 in
theorem search_in (F : Fence) (n : Nat) (g : Nat) (h10 : F.fn 10) (h22 : F.fn 22) (h23 : F.fn 23) (hg : F.fn g) (hro : F.round = none) (hn : 4 ≤ n) (eg : ∀ args w, (callFunc g args).run Try.prog w = .ok (.enter g args) w)
    (bk cap : Nat) (kv : Value) (p : Int → Int → Int → Bool)
    (hp : ∀ (m : Nat) (k f t : Int) (W : World), W.cell? ⟨bk, 0, none⟩ = some kv → CallsIn F m Try.prog g #[.int .i64 k, .int .i64 f, .int .i64 t, .pointer (some ⟨bk, 0, none⟩)] W fun e W' => e = .returned (.bool (p k f t)) ∧ W' = W)
    (A : Option Addr) (zs : List Int) (w : World) (hR : ReadsInt w .i64 A zs.length zs) (hk : w.cell? ⟨bk, 0, none⟩ = some kv) :
    CallsIn F n Try.prog 23 #[.slice A zs.length cap, .func (.func g) #[] #[.pointer (some ⟨bk, 0, none⟩)]] w fun e W' => e = .returned (.tuple #[.int .i64 (searchF p zs).1, .int .i64 (searchF p zs).2.1, .int .i64 (searchF p zs).2.2.1, .int .i64 (searchF p zs).2.2.2]) ∧ Below w.heap.size w W' := by
  have h1 : 1 ≤ n := by omega
  have HR := AsideL.mk hR
  have HP := AsideL.mk hp
  have HK := AsideL.mk hk
  have hbig : zs.length ≤ 9223372036854775807 := hR.2.1
  have hbk : bk < w.heap.size := World.block_lt_of_cell? w _ hk
  clear hR hp hk
  obtain ⟨len, hlen⟩ : ∃ len, zs.length = len := ⟨_, rfl⟩
  have HL := AsideL.mk hlen
  rw [hlen] at hbig ⊢
  clear hlen
  refine callsIn_of_wp_marks Try.func23 rfl h23 ?_ hro
  simp only [Try.ntmps23, List.size_toArray, List.length_cons, List.length_nil, Nat.reduceAdd, Nat.reduceSub, Array.replicate_succ, Array.replicate_zero, List.push_toArray, List.append_toArray, List.nil_append, List.cons_append]
  gi_wp2_with (gi_at_call 10; refine (spans_in F (n - 1) h10 hro _ _ _ _).mono ?_; rintro e w' ⟨rfl, rfl⟩)
  have hs0 : 0 < 1 := by decide
  obtain ⟨s, hs⟩ : ∃ s, w.heap.size = s := ⟨_, rfl⟩
  have c0 := Boxed.new w 50 (.func (.func g) #[] #[.pointer (some ⟨bk, 0, none⟩)])
  have B0 : Below w.heap.size w (w.alloc (.cells #[.func (.func g) #[] #[.pointer (some ⟨bk, 0, none⟩)]] 50)) := (Below.refl _ w).alloc (Nat.le_refl _) _
  generalize hw1 : w.alloc (.cells #[.func (.func g) #[] #[.pointer (some ⟨bk, 0, none⟩)]] 50) = w1 at *
  have z1 : w1.heap.size = s + 1 := by rw [← hw1]; simp [hs]
  have c1 := Boxed.new w1 3 (.int .i64 0)
  replace c0 := c0.alloc (.cells #[.int .i64 0] 3)
  have B1 := B0.alloc (by omega : w.heap.size ≤ w1.heap.size) (.cells #[.int .i64 0] 3)
  clear B0
  generalize hw2 : w1.alloc (.cells #[.int .i64 0] 3) = w2 at *
  have z2 : w2.heap.size = s + 2 := by rw [← hw2]; simp [z1]
  have c2 := Boxed.new w2 3 (.int .i64 0)
  replace c0 := c0.alloc (.cells #[.int .i64 0] 3)
  replace c1 := c1.alloc (.cells #[.int .i64 0] 3)
  have B2 := B1.alloc (by omega : w.heap.size ≤ w2.heap.size) (.cells #[.int .i64 0] 3)
  clear B1
  generalize hw3 : w2.alloc (.cells #[.int .i64 0] 3) = w3 at *
  have z3 : w3.heap.size = s + 3 := by rw [← hw3]; simp [z2]
  have c3 := Boxed.new w3 3 (.int .i64 0)
  replace c0 := c0.alloc (.cells #[.int .i64 0] 3)
  replace c1 := c1.alloc (.cells #[.int .i64 0] 3)
  replace c2 := c2.alloc (.cells #[.int .i64 0] 3)
  have B3 := B2.alloc (by omega : w.heap.size ≤ w3.heap.size) (.cells #[.int .i64 0] 3)
  clear B2
  generalize hw4 : w3.alloc (.cells #[.int .i64 0] 3) = w4 at *
  have z4 : w4.heap.size = s + 4 := by rw [← hw4]; simp [z3]
  have c4 := Boxed.new w4 30 (.int .i64 0)
  replace c0 := c0.alloc (.cells #[.int .i64 0] 30)
  replace c1 := c1.alloc (.cells #[.int .i64 0] 30)
  replace c2 := c2.alloc (.cells #[.int .i64 0] 30)
  replace c3 := c3.alloc (.cells #[.int .i64 0] 30)
  have B4 := B3.alloc (by omega : w.heap.size ≤ w4.heap.size) (.cells #[.int .i64 0] 30)
  clear B3
  generalize hw5 : w4.alloc (.cells #[.int .i64 0] 30) = w5 at *
  have z5 : w5.heap.size = s + 5 := by rw [← hw5]; simp [z4]
  have c5 := Boxed.new w5 3 (.int .i64 0)
  replace c0 := c0.alloc (.cells #[.int .i64 0] 3)
  replace c1 := c1.alloc (.cells #[.int .i64 0] 3)
  replace c2 := c2.alloc (.cells #[.int .i64 0] 3)
  replace c3 := c3.alloc (.cells #[.int .i64 0] 3)
  replace c4 := c4.alloc (.cells #[.int .i64 0] 3)
  have B5 := B4.alloc (by omega : w.heap.size ≤ w5.heap.size) (.cells #[.int .i64 0] 3)
  clear B4
  generalize hw6 : w5.alloc (.cells #[.int .i64 0] 3) = w6 at *
  have z6 : w6.heap.size = s + 6 := by rw [← hw6]; simp [z5]
  have c6 := Boxed.new w6 22 (.slice A len cap)
  replace c0 := c0.alloc (.cells #[.slice A len cap] 22)
  replace c1 := c1.alloc (.cells #[.slice A len cap] 22)
  replace c2 := c2.alloc (.cells #[.slice A len cap] 22)
  replace c3 := c3.alloc (.cells #[.slice A len cap] 22)
  replace c4 := c4.alloc (.cells #[.slice A len cap] 22)
  replace c5 := c5.alloc (.cells #[.slice A len cap] 22)
  have B6 := B5.alloc (by omega : w.heap.size ≤ w6.heap.size) (.cells #[.slice A len cap] 22)
  clear B5
  generalize hw7 : w6.alloc (.cells #[.slice A len cap] 22) = w7 at *
  have z7 : w7.heap.size = s + 7 := by rw [← hw7]; simp [z6]
  rw [hs] at c0
  rw [z1] at c1
  rw [z2] at c2
  rw [z3] at c3
  rw [z4] at c4
  rw [z5] at c5
  rw [z6] at c6
  clear hw1 hw2 hw3 hw4 hw5 hw6 hw7 z1 z2 z3 z4 z5 z6 w1 w2 w3 w4 w5 w6
  have BW := AsideL.mk B6
  have HS := AsideL.mk hs
  simp only [hs, Nat.add_assoc, Nat.reduceAdd]
  rw [hs] at hbk
  refine wpIn_rangeFunc_ownG hro h1 (gf := 22) (lb := #[.pointer (some ⟨s + 6, 0, none⟩)]) rfl h22 (enters_of Try.func22 (by kernel_rfl) rfl)
    (spans_stops F (n - 1) h22 hro (by omega) (s + 6) cap A zs w w7 HR.out B6 (by omega) (by rw [HL.out]; exact c6.cell)) belowK_t (belowK_b (by omega)) (Below.refl _ _) (fun _ => rfl)
    (fun pre W => AsideL (∀ (j : Nat) (hj : j < pre.length), p (j : Int) (pre[j]).1 (pre[j]).2 = false) ∧ Boxed W s 50 (.func (.func g) #[] #[.pointer (some ⟨bk, 0, none⟩)]) ∧ Boxed W (s + 1) 3 (.int .i64 0) ∧ Boxed W (s + 2) 3 (.int .i64 0) ∧ Boxed W (s + 3) 3 (.int .i64 0) ∧ Boxed W (s + 4) 30 (.int .i64 0) ∧ Boxed W (s + 5) 3 (.int .i64 (pre.length : Int)) ∧ Below w.heap.size w W)
    (fun c pre W => AsideL (c = .ret ∧ ∃ ini last, pre = ini ++ [last] ∧ (∀ (j : Nat) (hj : j < ini.length), p (j : Int) (ini[j]).1 (ini[j]).2 = false) ∧ p (ini.length : Int) last.1 last.2 = true) ∧ Boxed W (s + 1) 3 (.int .i64 ((pre.length - 1 : Nat) : Int)) ∧ Boxed W (s + 2) 3 (.int .i64 (pre.getLast?.getD (0, 0)).1) ∧ Boxed W (s + 3) 3 (.int .i64 (pre.getLast?.getD (0, 0)).2) ∧ Boxed W (s + 4) 30 (.int .i64 0) ∧ Below w.heap.size w W)
    (OwnFrom.and (ownFrom_pure _ _) (OwnFrom.and (Own.from (boxed_own _ _ _) _) (OwnFrom.and (Own.from (boxed_own _ _ _) _) (OwnFrom.and (Own.from (boxed_own _ _ _) _) (OwnFrom.and (Own.from (boxed_own _ _ _) _) (OwnFrom.and (Own.from (boxed_own _ _ _) _) (OwnFrom.and (Own.from (boxed_own _ _ _) _) (ownFrom_below (Nat.le_refl _) (by omega)))))))))
    (fun c => OwnFrom.and (ownFrom_pure _ _) (OwnFrom.and (Own.from (boxed_own _ _ _) _) (OwnFrom.and (Own.from (boxed_own _ _ _) _) (OwnFrom.and (Own.from (boxed_own _ _ _) _) (OwnFrom.and (Own.from (boxed_own _ _ _) _) (ownFrom_below (Nat.le_refl _) (by omega)))))))
    ⟨⟨by simp⟩, c0, c1, c2, c3, c4, c5, B6⟩
    (fun x => { tmps := #[.slice A len cap, .func (.func g) #[] #[.pointer (some ⟨bk, 0, none⟩)], undef, .pointer (some ⟨s, 0, none⟩), .pointer (some ⟨s + 1, 0, none⟩), .pointer (some ⟨s + 2, 0, none⟩), .pointer (some ⟨s + 3, 0, none⟩), .pointer (some ⟨s + 4, 0, none⟩), .pointer (some ⟨s + 5, 0, none⟩), .int .i64 x.1, .int .i64 x.2, .slice A len cap, .func (.func 22) #[] #[.pointer (some ⟨s + 6, 0, none⟩)], .int .i64 x.1, .int .i64 x.2, undef, undef, undef, undef, undef, undef, undef, undef, undef, undef], defers := [] }) ?assign ?body ?done ?stop
  case assign =>
    intro l x W K hK
    gi_wp2
    exact hK
  case body =>
    rintro l pre x W ⟨hpr, b0, b1, b2, b3, b4, b5, hB⟩ hlt
    have HB := AsideL.mk hB
    have hkc : W.cell? ⟨bk, 0, none⟩ = some kv := (hB.cell (p := ⟨bk, 0, none⟩) (by rw [HS.out]; exact hbk)).trans HK.out
    have hpre : pre.length < len := by rw [← HL.out]; exact hlt
    have e0 := b0.cell
    have e1 := b1.cell
    have e2 := b2.cell
    have e3 := b3.cell
    have e4 := b4.cell
    have e5 := b5.cell
    have f1 := b1.frozen
    have f2 := b2.frozen
    have f3 := b3.frozen
    have f4 := b4.frozen
    have f5 := b5.frozen
    have D0 := AsideL.mk b0
    have D1 := AsideL.mk b1
    have D2 := AsideL.mk b2
    have D3 := AsideL.mk b3
    have D4 := AsideL.mk b4
    have D5 := AsideL.mk b5
    clear b0 b1 b2 b3 b4 b5 hlt hB
    have hd : 1 ≤ n - 1 - 1 := by omega
    obtain ⟨x1, x2⟩ := x
    obtain ⟨m, hm⟩ : ∃ m, pre.length = m := ⟨_, rfl⟩
    have HM := AsideL.mk hm
    rw [hm] at hpre e5
    clear hm
    have hcall := fun r => CallsIn.inRound l (HP.out r (m : Int) x1 x2 W hkc)
    cases hq : p (m : Int) x1 x2 with
    | true =>
      rw [hq] at hcall
      have HQ := AsideL.mk hq
      clear hq
      gi_wp2_with (gi_at_fn g; refine (hcall _).mono ?_; rintro e w' ⟨rfl, rfl⟩)
      have hB := HB.out
      have hlast : ((pre ++ [(x1, x2)]).getLast?.getD (0, 0)) = (x1, x2) := by simp
      have hlen2 : (((pre ++ [(x1, x2)]).length - 1 : Nat) : Int) = (m : Int) := by have := HM.out; simp [this]
      refine ⟨((((KeepsOthers.setCell _ _ _).trans (KeepsOthers.setCell _ _ _)).trans (KeepsOthers.setCell _ _ _)).trans (KeepsOthers.setCell _ _ _)).from _, ⟨⟨rfl, pre, (x1, x2), rfl, hpr.out, by rw [HM.out]; exact HQ.out⟩⟩, ?_, ?_, ?_, ?_, ?_⟩
      · rw [hlen2]; exact (((D1.out.set _).other (by omega) _).other (by omega) _).other (by omega) _
      · rw [hlast]; exact (((D2.out.other (by omega) _).set _).other (by omega) _).other (by omega) _
      · rw [hlast]; exact (((D3.out.other (by omega) _).other (by omega) _).set _).other (by omega) _
      · exact (((D4.out.other (by omega) _).other (by omega) _).other (by omega) _).set _
      · exact (((hB.setCell (p := ⟨s + 1, 0, none⟩) (by rw [HS.out]; simp) _).setCell (p := ⟨s + 2, 0, none⟩) (by rw [HS.out]; simp) _).setCell (p := ⟨s + 3, 0, none⟩) (by rw [HS.out]; simp) _).setCell (p := ⟨s + 4, 0, none⟩) (by rw [HS.out]; simp) _
    | false =>
      rw [hq] at hcall
      have HQ := AsideL.mk hq
      clear hq
      gi_wp2_with (gi_at_fn g; refine (hcall _).mono ?_; rintro e w' ⟨rfl, rfl⟩)
      have hB := HB.out
      have hlen2 : (((pre ++ [(x1, x2)]).length : Nat) : Int) = (m : Int) + 1 := by have := HM.out; rw [List.length_append, this]; simp only [List.length_singleton]; omega
      refine ⟨(KeepsOthers.setCell _ _ _).from _, (Below.refl _ _).setCell (p := ⟨s + 5, 0, none⟩) (by rw [HS.out]; simp) _, ⟨?_⟩, D0.out.other (by omega) _, D1.out.other (by omega) _, D2.out.other (by omega) _, D3.out.other (by omega) _, D4.out.other (by omega) _, ?_, hB.setCell (p := ⟨s + 5, 0, none⟩) (by rw [HS.out]; simp) _⟩
      · intro j hj
        rw [List.length_append, List.length_singleton] at hj
        by_cases hjm : j < pre.length
        · rw [List.getElem_append_left hjm]; exact hpr.out j hjm
        · obtain rfl : j = pre.length := by omega
          rw [List.getElem_append_right (Nat.le_refl _)]
          simp only [Nat.sub_self, List.getElem_cons_zero]
          rw [HM.out]; exact HQ.out
      · rw [hlen2]; exact D5.out.set _
  case done =>
    rintro D ys W hD rfl ⟨hne, b0, b1, b2, b3, b4, b5, hB⟩ hK
    have HB := AsideL.mk hB
    have e1 := b1.cell
    have e2 := b2.cell
    have e3 := b3.cell
    have e4 := b4.cell
    have f1 := b1.frozen
    have f2 := b2.frozen
    have f3 := b3.frozen
    have f4 := b4.frozen
    have D1 := AsideL.mk b1
    have D2 := AsideL.mk b2
    have D3 := AsideL.mk b3
    have D4 := AsideL.mk b4
    clear b0 b1 b2 b3 b4 b5 hB
    gi_wp2
    have hB := HB.out
    have hsf : searchF p zs = (0, 0, 0, 14) := searchF_none (fun j hj => by
      have h := hne.out j (by rw [upto_length]; exact hj)
      simpa [upto] using h)
    rw [hsf]
    have k1 := (((D1.out.set (.int .i64 0)).other (B' := s + 2) (by omega) (.int .i64 0)).other (B' := s + 3) (by omega) (.int .i64 0)).other (B' := s + 4) (by omega) (.int .i64 14)
    have k2 := (((D2.out.other (B' := s + 1) (by omega) (.int .i64 0)).set (.int .i64 0)).other (B' := s + 3) (by omega) (.int .i64 0)).other (B' := s + 4) (by omega) (.int .i64 14)
    have k3 := (((D3.out.other (B' := s + 1) (by omega) (.int .i64 0)).other (B' := s + 2) (by omega) (.int .i64 0)).set (.int .i64 0)).other (B' := s + 4) (by omega) (.int .i64 14)
    have k4 := (((D4.out.other (B' := s + 1) (by omega) (.int .i64 0)).other (B' := s + 2) (by omega) (.int .i64 0)).other (B' := s + 3) (by omega) (.int .i64 0)).set (.int .i64 14)
    have hK' := ((((KeepsOthers.setCell W ⟨s + 1, 0, none⟩ (.int .i64 0)).trans (KeepsOthers.setCell _ ⟨s + 2, 0, none⟩ (.int .i64 0))).trans (KeepsOthers.setCell _ ⟨s + 3, 0, none⟩ (.int .i64 0))).trans (KeepsOthers.setCell _ ⟨s + 4, 0, none⟩ (.int .i64 14))).same D _ hK rfl
    have hBW := (((hB.setCell (p := ⟨s + 1, 0, none⟩) (by rw [HS.out]; simp) (.int .i64 0)).setCell (p := ⟨s + 2, 0, none⟩) (by rw [HS.out]; simp) (.int .i64 0)).setCell (p := ⟨s + 3, 0, none⟩) (by rw [HS.out]; simp) (.int .i64 0)).setCell (p := ⟨s + 4, 0, none⟩) (by rw [HS.out]; simp) (.int .i64 14)
    refine ⟨by simp, .inl ⟨_, _, rfl, run_takeDeferred hK', ?_⟩⟩
    generalize hWd : (((W.setCell ⟨s + 1, 0, none⟩ (.int .i64 0)).setCell ⟨s + 2, 0, none⟩ (.int .i64 0)).setCell ⟨s + 3, 0, none⟩ (.int .i64 0)).setCell ⟨s + 4, 0, none⟩ (.int .i64 14) = Wd at *
    have q1 := cell_kept k1.cell (grownBy_putObj' _ D (.deferred none)) (fun r e => by cases e; exact ⟨_, hK', rfl⟩)
    have q2 := cell_kept k2.cell (grownBy_putObj' _ D (.deferred none)) (fun r e => by cases e; exact ⟨_, hK', rfl⟩)
    have q3 := cell_kept k3.cell (grownBy_putObj' _ D (.deferred none)) (fun r e => by cases e; exact ⟨_, hK', rfl⟩)
    have q4 := cell_kept k4.cell (grownBy_putObj' _ D (.deferred none)) (fun r e => by cases e; exact ⟨_, hK', rfl⟩)
    refine ⟨.tuple #[.int .i64 0, .int .i64 0, .int .i64 0, .int .i64 14], ?_, rfl, hBW.trans (belowK_b (w := w) (Nat.le_refl _) _ D _ _ (by omega) hK' rfl rfl)⟩
    simp [results, Try.f23, go_sem, q1, q2, q3, q4]
  case stop =>
    rintro D c pre W hD ⟨k, hk, rfl⟩ ⟨⟨rfl, ini, last, e1, e2, e3⟩, b1, b2, b3, b4, hB⟩ hK
    have H1 := AsideL.mk e1
    have H2 := AsideL.mk e2
    have H3 := AsideL.mk e3
    have q1 := cell_kept b1.cell (grownBy_putObj' _ D (.deferred none)) (fun r e => by cases e; exact ⟨_, hK, rfl⟩)
    have q2 := cell_kept b2.cell (grownBy_putObj' _ D (.deferred none)) (fun r e => by cases e; exact ⟨_, hK, rfl⟩)
    have q3 := cell_kept b3.cell (grownBy_putObj' _ D (.deferred none)) (fun r e => by cases e; exact ⟨_, hK, rfl⟩)
    have q4 := cell_kept b4.cell (grownBy_putObj' _ D (.deferred none)) (fun r e => by cases e; exact ⟨_, hK, rfl⟩)
    have Q1 := AsideL.mk q1
    have Q2 := AsideL.mk q2
    have Q3 := AsideL.mk q3
    have Q4 := AsideL.mk q4
    have HB := AsideL.mk hB
    clear e1 e2 e3 q1 q2 q3 q4 b1 b2 b3 b4 hB
    gi_wp2
    refine ⟨by simp, .inl ⟨_, _, rfl, run_takeDeferred hK, ?_⟩⟩
    have q1 := Q1.out
    have q2 := Q2.out
    have q3 := Q3.out
    have q4 := Q4.out
    have e1 := H1.out
    obtain ⟨k', rfl⟩ : ∃ k', k = k' + 1 := by
      cases k with
      | zero => simp [upto] at e1
      | succ k' => exact ⟨k', rfl⟩
    rw [upto_succ] at e1 q1 q2 q3
    obtain ⟨hini, e5⟩ := List.append_inj' e1 rfl
    have hlast : spanOf zs k' = last := by simpa using e5
    have hil : ini.length = k' := by rw [← hini, upto_length]
    have h3 := H3.out
    rw [hil, ← hlast] at h3
    have hsf := searchF_some (p := p) (zs := zs) (k := k') (by omega) h3 (fun j hj => by
      have h := H2.out j (by omega)
      subst hini
      simpa [upto] using h)
    rw [hsf]
    have hl1 : (((upto (spanOf zs) k' ++ [spanOf zs k']).length - 1 : Nat) : Int) = (k' : Int) := by simp [upto_length]
    have hl2 : ((upto (spanOf zs) k' ++ [spanOf zs k']).getLast?.getD (0, 0)) = spanOf zs k' := by simp
    rw [hl1] at q1
    rw [hl2] at q2 q3
    refine ⟨.tuple #[.int .i64 (k' : Int), .int .i64 (spanOf zs k').1, .int .i64 (spanOf zs k').2, .int .i64 0], ?_, rfl, HB.out.trans (belowK_b (w := w) (Nat.le_refl _) W D _ _ (by omega) hK rfl rfl)⟩
    simp [results, Try.f23, go_sem, q1, q2, q3, q4]

end Go.Proofs.Ytlbhcbfdiojbhaa.HL
