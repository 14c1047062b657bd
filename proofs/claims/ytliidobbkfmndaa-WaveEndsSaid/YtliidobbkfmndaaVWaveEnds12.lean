/- WaveEnds: what the claim's theorem reaches of this seat's texts, part 12, put together by this project's own program (bale.py); conditions: those of each theorem. -/
import Derived.Test.YtliidobbkfmndaaVWaveEnds5
import Derived.Test.YtliidobbkfmndaaVWaveEnds6
import Derived.Test.YtliidobbkfmndaaVWaveEnds11
namespace Go.Proofs.Ytliidobbkfmndaa.HW2
open Go.RowKit Go.Proofs.YtliidobbkfmndaaW.PrintWords Go.Proofs.YtliidobbkfmndaaW.PrintLast Go.Proofs.YtliidobbkfmndaaW.PrintMore
attribute [local go_sem] max2_int min2_int max_two min_two max_three min_three max_four min_four   -- for this text's walks alone
set_option linter.unusedVariables false
set_option linter.unusedSimpArgs false

/-! ### sackbutref19_Write: function 8 -/
mutual
def sackbutref19_Write.l0 : Nat → List (List Int) → Int → Int → Int → Int → Bool → Int → Int → Int → Int → Option (List Int × Int)
  | 0, _, _, _, _, _, _, _, _, _, _ => none
  | k + 1, x1, x20, x21, x217000, x217001, x217002, x217003, x217004, x217005, x217006 => if x21 < x20 then (if 0 ≤ x21 then (if x21 < (x1.length : Int) then (if ((rd_L1 x1 x21).length : Int) = x217006 then (sackbutref19_Write.l0 k x1 x20 (wrap64 (x21 + 1)) x217000 x217001 x217002 x217003 x217004 x217005 x217006) else (some (([] : List Int), 8))) else (none)) else (none)) else ((sackbutref05_Check.f k x217001 false x1).bind fun t220 => (if t220 = 0 then ((sackbutref05_Pack.f k x217001 false x1).bind fun t221 => (sackbutref19_Write.l1 k t221 (t221.length : Int) 0 x217000 x217001 x217002 x217003 x217004 x217005 x217006)) else (some (([] : List Int), t220))))
def sackbutref19_Write.l1 : Nat → List Int → Int → Int → Int → Int → Bool → Int → Int → Int → Int → Option (List Int × Int)
  | 0, _, _, _, _, _, _, _, _, _, _ => none
  | k + 1, x9, x46, x47, x217000, x217001, x217002, x217003, x217004, x217005, x217006 => if x47 < x46 then (if x217001 = 8 then (if 0 ≤ x47 then (if x47 < (x9.length : Int) then (sackbutref19_Write.l1 k (x9.set (x47 : Int).toNat (((rd x9 x47) + 128) % 256)) x46 (wrap64 (x47 + 1)) x217000 x217001 x217002 x217003 x217004 x217005 x217006) else (none)) else (none)) else (sackbutref19_Write.l1 k x9 x46 (wrap64 (x47 + 1)) x217000 x217001 x217002 x217003 x217004 x217005 x217006)) else ((sackbutref19_First.f k x217000 x217001 x217002 x217003 x217004 x217005 x217006 (x9.length : Int)).bind fun t226 => (if t226.length + x9.length < 140737488355328 then (some ((t226 ++ x9), 0)) else (none)))
end
def sackbutref19_Write.f (k : Nat) (a0_0 : Int) (a0_1 : Int) (a0_2 : Bool) (a0_3 : Int) (a0_4 : Int) (a0_5 : Int) (a0_6 : Int) (l1 : List (List Int)) : Option (List Int × Int) := (sackbutref16_Good.f a0_0 a0_1 a0_2 a0_3 a0_4 a0_5 a0_6).bind fun t217 => (if t217 = true then (if (l1.length : Int) = a0_0 then (sackbutref19_Write.l0 k l1 (l1.length : Int) 0 a0_0 a0_1 a0_2 a0_3 a0_4 a0_5 a0_6) else (some (([] : List Int), 8))) else (some (([] : List Int), 7)))
set_option maxHeartbeats 8000000 in
set_option maxRecDepth 100000 in
theorem sackbutref19_Write.calls (k : Nat) (a0_0 : Int) (a0_1 : Int) (a0_2 : Bool) (a0_3 : Int) (a0_4 : Int) (a0_5 : Int) (a0_6 : Int) (A1 : Option Addr) (c1 : Nat) (l1 : List (List Int)) (r1 : List Int) (r2 : Int) (w : World) (hr1 : Kd.C (Kd.slice 3 (Kd.int .i64)) w A1 l1.length l1) (hc1 : l1.length ≤ c1) (h : sackbutref19_Write.f k a0_0 a0_1 a0_2 a0_3 a0_4 a0_5 a0_6 l1 = some (r1, r2)) :
    Calls Try.prog 8 #[.agg #[.int .i64 a0_0, .int .i64 a0_1, .bool a0_2, .int .i64 a0_3, .int .i64 a0_4, .int .i64 a0_5, .int .i64 a0_6], .slice A1 l1.length c1] w fun e w' => ∃ v0_ : Value, e = .returned (.tuple #[v0_, .int .i64 r2]) ∧ Kd.R (Kd.int .u8) 5 w' w.heap.size (fun _ => True) v0_ r1 ∧ Below w.heap.size w w' := by
  have hu23 := Try.underlying23
  have hu50 := Try.underlying50
  have HR1 := Aside0.mk hr1
  have HC1 := Aside0.mk hc1
  clear hr1 hc1
  have HB := Aside0.mk (Below.refl w.heap.size w)
  have H : ((sackbutref16_Good.f a0_0 a0_1 a0_2 a0_3 a0_4 a0_5 a0_6).bind fun t217 => (if t217 = true then (if (l1.length : Int) = a0_0 then (sackbutref19_Write.l0 k l1 (l1.length : Int) 0 a0_0 a0_1 a0_2 a0_3 a0_4 a0_5 a0_6) else (some (([] : List Int), 8))) else (some (([] : List Int), 7)))) = some (r1, r2) := h
  clear h
  replace H := Option.bind_eq_some_iff.mp H
  obtain ⟨t217, A30, H⟩ := H
  replace H : (if t217 = true then (if (l1.length : Int) = a0_0 then (sackbutref19_Write.l0 k l1 (l1.length : Int) 0 a0_0 a0_1 a0_2 a0_3 a0_4 a0_5 a0_6) else (some (([] : List Int), 8))) else (some (([] : List Int), 7))) = some (r1, r2) := H
  have A3 := Aside0.mk A30
  clear A30
  by_cases c4 : t217 = true
  · subst c4
    have H1 : (if (l1.length : Int) = a0_0 then (sackbutref19_Write.l0 k l1 (l1.length : Int) 0 a0_0 a0_1 a0_2 a0_3 a0_4 a0_5 a0_6) else (some (([] : List Int), 8))) = some (r1, r2) := by rw [if_pos rfl] at H; exact H
    clear H
    have H := H1
    clear H1
    by_cases c5 : (l1.length : Int) = a0_0
    · rw [if_pos c5] at H
      have c5b0 : ((l1.length : Int) == a0_0) = true := beq_iff_eq.mpr c5
      have c5b1 : ((l1.length : Int) != a0_0) = false := bne_eq_false_iff_eq.mpr c5
      clear c5
      have H' := Aside0.mk H
      clear H
      go_enter Try.func8, Try.ntmps8
      go_wp2_with (first | ((with_reducible refine gate_dst (N := 2) rfl ?_); refine box_event ?hg (N := 2) ?hd (cs := #[.int .i64 a0_0, .int .i64 a0_1, .bool a0_2, .int .i64 a0_3, .int .i64 a0_4, .int .i64 a0_5, .int .i64 a0_6]) (t := 23) ?hr ?_; (case hd => rfl); (case hg => rfl); (case hr => first | (go_simp; done) | (go_simp; rfl)); intro gb216 hg w6 hbox hb; have n0_ := Aside0.mk (below_step (by repeat (first | (with_reducible first | exact HB.out | apply below_alloc | apply pw_below_drewN | apply below_drew1) | exact HB.out)) hb); have n1_ := Aside0.mk (hbox); have n2_ := Aside0.mk ((by rw [hg]; exact (below_size (by repeat (first | (with_reducible first | exact HB.out | apply below_alloc | apply pw_below_drewN | apply below_drew1) | exact HB.out))) : w.heap.size ≤ gb216)); have n3_ := Aside0.mk ((by rw [hg]; exact (below_size (by repeat (first | (with_reducible first | exact HB.out | apply below_alloc | apply pw_below_drewN | apply below_drew1) | exact HB.out))) : w.heap.size ≤ gb216)); clear HB; have HB := n0_; have BK216 := n1_; have GW216 := n2_; have GE216 := n3_; clear n0_ n1_ n2_ n3_; clear hb hbox hg; have hcz7_0 : w6.cell? ⟨gb216, 0, none⟩ = some (.int .i64 a0_0) := (blk_cell BK216.out 0).trans rfl; have hcz7_1 : w6.cell? ⟨gb216, 1, none⟩ = some (.int .i64 a0_1) := (blk_cell BK216.out 1).trans rfl; have hcz7_2 : w6.cell? ⟨gb216, 2, none⟩ = some (.bool a0_2) := (blk_cell BK216.out 2).trans rfl; have hcz7_3 : w6.cell? ⟨gb216, 3, none⟩ = some (.int .i64 a0_3) := (blk_cell BK216.out 3).trans rfl; have hcz7_4 : w6.cell? ⟨gb216, 4, none⟩ = some (.int .i64 a0_4) := (blk_cell BK216.out 4).trans rfl; have hcz7_5 : w6.cell? ⟨gb216, 5, none⟩ = some (.int .i64 a0_5) := (blk_cell BK216.out 5).trans rfl; have hcz7_6 : w6.cell? ⟨gb216, 6, none⟩ = some (.int .i64 a0_6) := (blk_cell BK216.out 6).trans rfl; have hfz7_0 := blk_frozen BK216.out 0; have hfz7_1 := blk_frozen BK216.out 1; have hfz7_2 := blk_frozen BK216.out 2; have hfz7_3 := blk_frozen BK216.out 3; have hfz7_4 := blk_frozen BK216.out 4; have hfz7_5 := blk_frozen BK216.out 5; have hfz7_6 := blk_frozen BK216.out 6) | (go_at_call 19; (with_reducible refine (sackbutref16_Good.calls a0_0 a0_1 a0_2 a0_3 a0_4 a0_5 a0_6 true _ A3.out).mono ?_); rintro e w8 ⟨rfl, hb⟩; have n0_ := Aside0.mk (blk_below (g := gb216) (o := .cells #[.int .i64 a0_0, .int .i64 a0_1, .bool a0_2, .int .i64 a0_3, .int .i64 a0_4, .int .i64 a0_5, .int .i64 a0_6] 23 (0, 0)) (by (with_reducible repeat (first | refine blk_drewN ?_ _ | refine blk_drew ?_ | refine blk_alloc ?_ _)); exact BK216.out) hb); have n1_ := Aside0.mk (below_step (by repeat (first | (with_reducible first | exact HB.out | apply below_alloc | apply pw_below_drewN | apply below_drew1 | refine below_set ?_ GE216.out) | exact HB.out)) hb); clear BK216; clear HB; have BK216 := n0_; have HB := n1_; clear n0_ n1_; (try clear hb); (try clear hb2); (try clear hk); (try clear hi); have hcz9_0 : w8.cell? ⟨gb216, 0, none⟩ = some (.int .i64 a0_0) := (blk_cell BK216.out 0).trans rfl; have hcz9_1 : w8.cell? ⟨gb216, 1, none⟩ = some (.int .i64 a0_1) := (blk_cell BK216.out 1).trans rfl; have hcz9_2 : w8.cell? ⟨gb216, 2, none⟩ = some (.bool a0_2) := (blk_cell BK216.out 2).trans rfl; have hcz9_3 : w8.cell? ⟨gb216, 3, none⟩ = some (.int .i64 a0_3) := (blk_cell BK216.out 3).trans rfl; have hcz9_4 : w8.cell? ⟨gb216, 4, none⟩ = some (.int .i64 a0_4) := (blk_cell BK216.out 4).trans rfl; have hcz9_5 : w8.cell? ⟨gb216, 5, none⟩ = some (.int .i64 a0_5) := (blk_cell BK216.out 5).trans rfl; have hcz9_6 : w8.cell? ⟨gb216, 6, none⟩ = some (.int .i64 a0_6) := (blk_cell BK216.out 6).trans rfl; have hfz9_0 := blk_frozen BK216.out 0; have hfz9_1 := blk_frozen BK216.out 1; have hfz9_2 := blk_frozen BK216.out 2; have hfz9_3 := blk_frozen BK216.out 3; have hfz9_4 := blk_frozen BK216.out 4; have hfz9_5 := blk_frozen BK216.out 5; have hfz9_6 := blk_frozen BK216.out 6))
      go_loopg [21] k (fun kq v21 w' => ∃ (x21_1 : Int), v21 = .int .i64 x21_1 ∧ Aside0 (sackbutref19_Write.l0 kq l1 (l1.length : Int) x21_1 a0_0 a0_1 a0_2 a0_3 a0_4 a0_5 a0_6 = some (r1, r2)) ∧ Aside0 (kq ≤ k) ∧ Aside0 (w'.heap[gb216]? = some (.cells #[.int .i64 a0_0, .int .i64 a0_1, .bool a0_2, .int .i64 a0_3, .int .i64 a0_4, .int .i64 a0_5, .int .i64 a0_6] 23 (0, 0))) ∧ Aside0 (Below w.heap.size w w'))
      case atStart => exact ⟨(0), (by first | rfl | (simp; done) | (simp [*]; done)), H', ⟨Nat.le_refl _⟩, ⟨by (with_reducible repeat (first | refine blk_drewN ?_ _ | refine blk_drew ?_ | refine blk_alloc ?_ _)); exact BK216.out⟩, ⟨by repeat (first | (with_reducible first | exact HB.out | apply below_alloc | apply pw_below_drewN | apply below_drew1 | refine below_set ?_ GE216.out) | exact HB.out)⟩⟩
      case round =>
        clear H'
        try clear c1
        try clear p2
        try clear c4
        try clear c5
        try clear c5b0
        try clear c5b1
        try clear c8
        try clear hcz7_0
        try clear hcz7_1
        try clear hcz7_2
        try clear hcz7_3
        try clear hcz7_4
        try clear hcz7_5
        try clear hcz7_6
        try clear hcz9_0
        try clear hcz9_1
        try clear hcz9_2
        try clear hcz9_3
        try clear hcz9_4
        try clear hcz9_5
        try clear hcz9_6
        try clear hfz7_0
        try clear hfz7_1
        try clear hfz7_2
        try clear hfz7_3
        try clear hfz7_4
        try clear hfz7_5
        try clear hfz7_6
        try clear hfz9_0
        try clear hfz9_1
        try clear hfz9_2
        try clear hfz9_3
        try clear hfz9_4
        try clear hfz9_5
        try clear hfz9_6
        obtain ⟨x21_1, rfl, HA, HK1, BK216, HB⟩ := hrel
        cases gk with
        | zero => exact absurd HA.out (by simp [sackbutref19_Write.l0])
        | succ k1 =>
          have H := HA.out
          clear HA
          simp only [sackbutref19_Write.l0] at H
          by_cases c10 : x21_1 < (l1.length : Int)
          · rw [if_pos c10] at H
            have c10b0 : decide (x21_1 < (l1.length : Int)) = true := decide_eq_true c10
            clear c10
            by_cases c11 : 0 ≤ x21_1
            · rw [if_pos c11] at H
              have c11b0 : decide (0 ≤ x21_1) = true := decide_eq_true c11
              clear c11
              by_cases c12 : x21_1 < (l1.length : Int)
              · rw [if_pos c12] at H
                have c12b0 : decide (x21_1 < (l1.length : Int)) = true := decide_eq_true c12
                clear c12
                by_cases c13 : ((rd_L1 l1 x21_1).length : Int) = a0_6
                · rw [if_pos c13] at H
                  have c13b0 : (((rd_L1 l1 x21_1).length : Int) == a0_6) = true := beq_iff_eq.mpr c13
                  have c13b1 : (((rd_L1 l1 x21_1).length : Int) != a0_6) = false := bne_eq_false_iff_eq.mpr c13
                  clear c13
                  have H' := Aside0.mk H
                  clear H
                  have p218 : 0 ≤ (x21_1 : Int) := of_decide_eq_true (by first | (with_reducible assumption) | assumption)
                  have q218 : x21_1 < (l1.length : Int) := of_decide_eq_true (by first | (with_reducible assumption) | assumption)
                  obtain ⟨ad218, A218_0, c218_0, e218, hx218_0, hl218_0, hi218_0⟩ := at_L1 HR1.out x21_1 p218 q218
                  cases e218
                  replace hx218_0 := (HB.out.cell (World.block_lt_of_cell? w _ hx218_0)).trans hx218_0
                  have HR218_0 := Aside0.mk hi218_0
                  have HC218_0 := Aside0.mk hl218_0
                  clear hi218_0 hl218_0
                  replace p218 := eq_true p218
                  replace q218 := eq_true q218
                  have hcz14_0 : wr.cell? ⟨gb216, 0, none⟩ = some (.int .i64 a0_0) := (blk_cell BK216.out 0).trans rfl
                  have hcz14_1 : wr.cell? ⟨gb216, 1, none⟩ = some (.int .i64 a0_1) := (blk_cell BK216.out 1).trans rfl
                  have hcz14_2 : wr.cell? ⟨gb216, 2, none⟩ = some (.bool a0_2) := (blk_cell BK216.out 2).trans rfl
                  have hcz14_3 : wr.cell? ⟨gb216, 3, none⟩ = some (.int .i64 a0_3) := (blk_cell BK216.out 3).trans rfl
                  have hcz14_4 : wr.cell? ⟨gb216, 4, none⟩ = some (.int .i64 a0_4) := (blk_cell BK216.out 4).trans rfl
                  have hcz14_5 : wr.cell? ⟨gb216, 5, none⟩ = some (.int .i64 a0_5) := (blk_cell BK216.out 5).trans rfl
                  have hcz14_6 : wr.cell? ⟨gb216, 6, none⟩ = some (.int .i64 a0_6) := (blk_cell BK216.out 6).trans rfl
                  have hfz14_0 := blk_frozen BK216.out 0
                  have hfz14_1 := blk_frozen BK216.out 1
                  have hfz14_2 := blk_frozen BK216.out 2
                  have hfz14_3 := blk_frozen BK216.out 3
                  have hfz14_4 := blk_frozen BK216.out 4
                  have hfz14_5 := blk_frozen BK216.out 5
                  have hfz14_6 := blk_frozen BK216.out 6
                  go_wp2
                  repeat (go_quiet (fail); try go_wp2)
                  go_roundg k1
                  case measure => have := HK1.out; omega
                  case rel => exact ⟨(wrap64 (x21_1 + 1)), (by first | rfl | (simp; done) | (simp [*]; done)), H', ⟨by have := HK1.out; omega⟩, ⟨by (with_reducible repeat (first | refine blk_drewN ?_ _ | refine blk_drew ?_ | refine blk_alloc ?_ _)); exact BK216.out⟩, ⟨by repeat (first | (with_reducible first | exact HB.out | apply below_alloc | apply pw_below_drewN | apply below_drew1 | refine below_set ?_ GE216.out) | exact HB.out)⟩⟩
                · rw [if_neg c13] at H
                  have c13b0 : (((rd_L1 l1 x21_1).length : Int) == a0_6) = false := beq_eq_false_iff_ne.mpr c13
                  have c13b1 : (((rd_L1 l1 x21_1).length : Int) != a0_6) = true := bne_iff_ne.mpr c13
                  simp only [Option.some.injEq, Prod.mk.injEq] at H
                  obtain ⟨rfl, rfl⟩ := H
                  have p218 : 0 ≤ (x21_1 : Int) := of_decide_eq_true (by first | (with_reducible assumption) | assumption)
                  have q218 : x21_1 < (l1.length : Int) := of_decide_eq_true (by first | (with_reducible assumption) | assumption)
                  obtain ⟨ad218, A218_0, c218_0, e218, hx218_0, hl218_0, hi218_0⟩ := at_L1 HR1.out x21_1 p218 q218
                  cases e218
                  replace hx218_0 := (HB.out.cell (World.block_lt_of_cell? w _ hx218_0)).trans hx218_0
                  have HR218_0 := Aside0.mk hi218_0
                  have HC218_0 := Aside0.mk hl218_0
                  clear hi218_0 hl218_0
                  replace p218 := eq_true p218
                  replace q218 := eq_true q218
                  have hcz15_0 : wr.cell? ⟨gb216, 0, none⟩ = some (.int .i64 a0_0) := (blk_cell BK216.out 0).trans rfl
                  have hcz15_1 : wr.cell? ⟨gb216, 1, none⟩ = some (.int .i64 a0_1) := (blk_cell BK216.out 1).trans rfl
                  have hcz15_2 : wr.cell? ⟨gb216, 2, none⟩ = some (.bool a0_2) := (blk_cell BK216.out 2).trans rfl
                  have hcz15_3 : wr.cell? ⟨gb216, 3, none⟩ = some (.int .i64 a0_3) := (blk_cell BK216.out 3).trans rfl
                  have hcz15_4 : wr.cell? ⟨gb216, 4, none⟩ = some (.int .i64 a0_4) := (blk_cell BK216.out 4).trans rfl
                  have hcz15_5 : wr.cell? ⟨gb216, 5, none⟩ = some (.int .i64 a0_5) := (blk_cell BK216.out 5).trans rfl
                  have hcz15_6 : wr.cell? ⟨gb216, 6, none⟩ = some (.int .i64 a0_6) := (blk_cell BK216.out 6).trans rfl
                  have hfz15_0 := blk_frozen BK216.out 0
                  have hfz15_1 := blk_frozen BK216.out 1
                  have hfz15_2 := blk_frozen BK216.out 2
                  have hfz15_3 := blk_frozen BK216.out 3
                  have hfz15_4 := blk_frozen BK216.out 4
                  have hfz15_5 := blk_frozen BK216.out 5
                  have hfz15_6 := blk_frozen BK216.out 6
                  go_wp2
                  repeat (go_quiet (fail); try go_wp2)
                  go_ret2
                  exact ⟨_, by first | rfl | (simp [errW_none, errW_some] <;> rfl) | (simp [*, errW_none, errW_some] <;> rfl), by first | exact Kd.R_nil _ _ _ _ _ | exact Kd.N_nil _ _ _ _ _ | exact Kd.V_nil _ _ _ _ _ | exact Kd.Q_nil _ _ _ _ _ | exact Kd.S_nil _ _ _ _ _, by repeat (first | (with_reducible first | exact HB.out | apply below_alloc | apply pw_below_drewN | apply below_drew1 | refine below_set ?_ GE216.out) | exact HB.out)⟩
              · rw [if_neg c12] at H
                exact absurd H (by simp)
            · rw [if_neg c11] at H
              exact absurd H (by simp)
          · rw [if_neg c10] at H
            have c10b0 : decide (x21_1 < (l1.length : Int)) = false := decide_eq_false c10
            clear c10
            replace H := Option.bind_eq_some_iff.mp H
            obtain ⟨t220, A160, H⟩ := H
            replace H : (if t220 = 0 then ((sackbutref05_Pack.f k1 a0_1 false l1).bind fun t221 => (sackbutref19_Write.l1 k1 t221 (t221.length : Int) 0 a0_0 a0_1 a0_2 a0_3 a0_4 a0_5 a0_6)) else (some (([] : List Int), t220))) = some (r1, r2) := H
            have A16 := Aside0.mk A160
            clear A160
            by_cases c17 : t220 = 0
            · rw [if_pos c17] at H
              have c17b0 : (t220 == 0) = true := beq_iff_eq.mpr c17
              have c17b1 : (t220 != 0) = false := bne_eq_false_iff_eq.mpr c17
              clear c17
              replace H := Option.bind_eq_some_iff.mp H
              obtain ⟨t221, A180, H⟩ := H
              replace H : (sackbutref19_Write.l1 k1 t221 (t221.length : Int) 0 a0_0 a0_1 a0_2 a0_3 a0_4 a0_5 a0_6) = some (r1, r2) := H
              have A18 := Aside0.mk A180
              clear A180
              have H' := Aside0.mk H
              clear H
              have hcz19_0 : wr.cell? ⟨gb216, 0, none⟩ = some (.int .i64 a0_0) := (blk_cell BK216.out 0).trans rfl
              have hcz19_1 : wr.cell? ⟨gb216, 1, none⟩ = some (.int .i64 a0_1) := (blk_cell BK216.out 1).trans rfl
              have hcz19_2 : wr.cell? ⟨gb216, 2, none⟩ = some (.bool a0_2) := (blk_cell BK216.out 2).trans rfl
              have hcz19_3 : wr.cell? ⟨gb216, 3, none⟩ = some (.int .i64 a0_3) := (blk_cell BK216.out 3).trans rfl
              have hcz19_4 : wr.cell? ⟨gb216, 4, none⟩ = some (.int .i64 a0_4) := (blk_cell BK216.out 4).trans rfl
              have hcz19_5 : wr.cell? ⟨gb216, 5, none⟩ = some (.int .i64 a0_5) := (blk_cell BK216.out 5).trans rfl
              have hcz19_6 : wr.cell? ⟨gb216, 6, none⟩ = some (.int .i64 a0_6) := (blk_cell BK216.out 6).trans rfl
              have hfz19_0 := blk_frozen BK216.out 0
              have hfz19_1 := blk_frozen BK216.out 1
              have hfz19_2 := blk_frozen BK216.out 2
              have hfz19_3 := blk_frozen BK216.out 3
              have hfz19_4 := blk_frozen BK216.out 4
              have hfz19_5 := blk_frozen BK216.out 5
              have hfz19_6 := blk_frozen BK216.out 6
              go_wp2_with (first | ((with_reducible refine gate_dst (N := 7) rfl ?_); refine box_event ?hg (N := 7) ?hd (cs := #[.int .i64 0, .bool false]) (t := 50) ?hr ?_; (case hd => rfl); (case hg => rfl); (case hr => first | (go_simp; done) | (go_simp; rfl)); intro gb219 hg w20 hbox hb; have n0_ := Aside0.mk (blk_below (g := gb216) (o := .cells #[.int .i64 a0_0, .int .i64 a0_1, .bool a0_2, .int .i64 a0_3, .int .i64 a0_4, .int .i64 a0_5, .int .i64 a0_6] 23 (0, 0)) (by (with_reducible repeat (first | refine blk_drewN ?_ _ | refine blk_drew ?_ | refine blk_alloc ?_ _)); exact BK216.out) hb); have n1_ := Aside0.mk (below_step (by repeat (first | (with_reducible first | exact HB.out | apply below_alloc | apply pw_below_drewN | apply below_drew1 | refine below_set ?_ GE216.out) | exact HB.out)) hb); have n2_ := Aside0.mk (hbox); have n3_ := Aside0.mk ((by rw [hg]; exact (below_size (by repeat (first | (with_reducible first | exact HB.out | apply below_alloc | apply pw_below_drewN | apply below_drew1 | refine below_set ?_ GE216.out) | exact HB.out))) : w.heap.size ≤ gb219)); have n4_ := Aside0.mk ((by rw [hg]; exact (below_size (by repeat (first | (with_reducible first | exact HB.out | apply below_alloc | apply pw_below_drewN | apply below_drew1 | refine below_set ?_ GE216.out) | exact HB.out))) : w.heap.size ≤ gb219)); have n5_ := Aside0.mk ((by rw [hg]; exact Nat.ne_of_lt (blk_lt (g := gb216) (o := .cells #[.int .i64 a0_0, .int .i64 a0_1, .bool a0_2, .int .i64 a0_3, .int .i64 a0_4, .int .i64 a0_5, .int .i64 a0_6] 23 (0, 0)) (by (with_reducible repeat (first | refine blk_drewN ?_ _ | refine blk_drew ?_ | refine blk_alloc ?_ _)); exact BK216.out)) : gb216 ≠ gb219)); have n6_ := Aside0.mk ((by rw [hg]; exact Nat.ne_of_gt (blk_lt (g := gb216) (o := .cells #[.int .i64 a0_0, .int .i64 a0_1, .bool a0_2, .int .i64 a0_3, .int .i64 a0_4, .int .i64 a0_5, .int .i64 a0_6] 23 (0, 0)) (by (with_reducible repeat (first | refine blk_drewN ?_ _ | refine blk_drew ?_ | refine blk_alloc ?_ _)); exact BK216.out)) : gb219 ≠ gb216)); clear BK216; clear HB; have BK216 := n0_; have HB := n1_; have BK219 := n2_; have GW219 := n3_; have GE219 := n4_; have NB216_219 := n5_; have NB219_216 := n6_; clear n0_ n1_ n2_ n3_ n4_ n5_ n6_; clear hb hbox hg; have hnb21 := NB219_216.out; have hnc21 := NB216_219.out; have hcz22_0 : w20.cell? ⟨gb219, 0, none⟩ = some (.int .i64 0) := (blk_cell BK219.out 0).trans rfl; have hcz22_1 : w20.cell? ⟨gb219, 1, none⟩ = some (.bool false) := (blk_cell BK219.out 1).trans rfl; have hfz22_0 := blk_frozen BK219.out 0; have hfz22_1 := blk_frozen BK219.out 1) | (go_at_call 20; (with_reducible refine (sackbutref05_Check.calls k1 a0_1 false _ _ l1 t220 _ ?side1 ?side2 A16.out).mono ?_); (case side1 => exact Kd.C_below HR1.out (by repeat (first | (with_reducible first | exact HB.out | apply below_alloc | apply pw_below_drewN | apply below_drew1 | refine below_set ?_ GE216.out | refine below_set ?_ GE219.out) | exact HB.out))); (case side2 => exact HC1.out); rintro e w23 ⟨rfl, hb⟩; have n0_ := Aside0.mk (blk_below (g := gb216) (o := .cells #[.int .i64 a0_0, .int .i64 a0_1, .bool a0_2, .int .i64 a0_3, .int .i64 a0_4, .int .i64 a0_5, .int .i64 a0_6] 23 (0, 0)) (by (with_reducible repeat (first | refine blk_drewN ?_ _ | refine blk_drew ?_ | refine blk_alloc ?_ _)); refine blk_far ?_ NB216_219.out _; (with_reducible repeat (first | refine blk_drewN ?_ _ | refine blk_drew ?_ | refine blk_alloc ?_ _)); refine blk_far ?_ NB216_219.out _; (with_reducible repeat (first | refine blk_drewN ?_ _ | refine blk_drew ?_ | refine blk_alloc ?_ _)); exact BK216.out) hb); have n1_ := Aside0.mk (blk_below (g := gb219) (o := .cells #[.int .i64 a0_1, .bool false] 50 (0, 0)) (by (with_reducible repeat (first | refine blk_drewN ?_ _ | refine blk_drew ?_ | refine blk_alloc ?_ _)); refine blk_put (cs := #[.int .i64 a0_1, .bool false]) ?_ 1 _ rfl; (with_reducible repeat (first | refine blk_drewN ?_ _ | refine blk_drew ?_ | refine blk_alloc ?_ _)); refine blk_put (cs := #[.int .i64 0, .bool false]) ?_ 0 _ rfl; (with_reducible repeat (first | refine blk_drewN ?_ _ | refine blk_drew ?_ | refine blk_alloc ?_ _)); exact BK219.out) hb); have n2_ := Aside0.mk (below_step (by repeat (first | (with_reducible first | exact HB.out | apply below_alloc | apply pw_below_drewN | apply below_drew1 | refine below_set ?_ GE216.out | refine below_set ?_ GE219.out) | exact HB.out)) hb); clear BK216; clear BK219; clear HB; have BK216 := n0_; have BK219 := n1_; have HB := n2_; clear n0_ n1_ n2_; (try clear hb); (try clear hb2); (try clear hk); (try clear hi); have hcz24_0 : w23.cell? ⟨gb219, 0, none⟩ = some (.int .i64 a0_1) := (blk_cell BK219.out 0).trans rfl; have hcz24_1 : w23.cell? ⟨gb219, 1, none⟩ = some (.bool false) := (blk_cell BK219.out 1).trans rfl; have hfz24_0 := blk_frozen BK219.out 0; have hfz24_1 := blk_frozen BK219.out 1) | (go_at_call 21; (with_reducible refine (sackbutref05_Pack.calls k1 a0_1 false _ _ l1 t221 _ ?side1 ?side2 A18.out).mono ?_); (case side1 => repeat (first | exact (Kd.C_below HR1.out HB.out) | (with_reducible refine Kd.C_alloc ?_ _) | (with_reducible refine Kd.C_drewN ?_ _) | (with_reducible refine Kd.C_drew ?_))); (case side2 => exact HC1.out); rintro e w25 ⟨v222, rfl, ho0, hb⟩; have n0_ := Aside0.mk (Kd.R_lower ho0 (below_size (by repeat (first | (with_reducible first | exact HB.out | apply below_alloc | apply pw_below_drewN | apply below_drew1 | refine below_set ?_ GE216.out | refine below_set ?_ GE219.out) | exact HB.out)))); have n1_ := Aside0.mk (blk_below (g := gb216) (o := .cells #[.int .i64 a0_0, .int .i64 a0_1, .bool a0_2, .int .i64 a0_3, .int .i64 a0_4, .int .i64 a0_5, .int .i64 a0_6] 23 (0, 0)) (by (with_reducible repeat (first | refine blk_drewN ?_ _ | refine blk_drew ?_ | refine blk_alloc ?_ _)); exact BK216.out) hb); have n2_ := Aside0.mk (blk_below (g := gb219) (o := .cells #[.int .i64 a0_1, .bool false] 50 (0, 0)) (by (with_reducible repeat (first | refine blk_drewN ?_ _ | refine blk_drew ?_ | refine blk_alloc ?_ _)); exact BK219.out) hb); have n3_ := Aside0.mk (below_step (by repeat (first | (with_reducible first | exact HB.out | apply below_alloc | apply pw_below_drewN | apply below_drew1 | refine below_set ?_ GE216.out | refine below_set ?_ GE219.out) | exact HB.out)) hb); clear BK216; clear BK219; clear HB; have HO223 := n0_; have BK216 := n1_; have BK219 := n2_; have HB := n3_; clear n0_ n1_ n2_ n3_; (try clear hb); (try clear hb2); (try clear hk); (try clear hi); (try clear ho0); obtain ⟨Ao26, co26, eo26⟩ := Kd.R_slice HO223.out; subst eo26))
              go_loopg [47] k1 (fun kq v47 w' => ∃ (x9_2 : List Int) (x47_2 : Int), v47 = .int .i64 x47_2 ∧ Aside0 (sackbutref19_Write.l1 kq x9_2 (t221.length : Int) x47_2 a0_0 a0_1 a0_2 a0_3 a0_4 a0_5 a0_6 = some (r1, r2)) ∧ Aside0 (kq ≤ k1) ∧ Aside0 (Kd.R (Kd.int .u8) 5 w' w.heap.size (fun _ => True) (.slice Ao26 t221.length co26) x9_2) ∧ Aside0 (w'.heap[gb216]? = some (.cells #[.int .i64 a0_0, .int .i64 a0_1, .bool a0_2, .int .i64 a0_3, .int .i64 a0_4, .int .i64 a0_5, .int .i64 a0_6] 23 (0, 0))) ∧ Aside0 (w'.heap[gb219]? = some (.cells #[.int .i64 a0_1, .bool false] 50 (0, 0))) ∧ Aside0 (Below w.heap.size w w'))
              case atStart => exact ⟨(t221), (0), (by first | rfl | (simp; done) | (simp [*]; done)), H', ⟨Nat.le_refl _⟩, ⟨by (with_reducible repeat (first | apply Kd.R_alloc | apply Kd.R_drewN | apply Kd.R_drew)); exact HO223.out⟩, ⟨by (with_reducible repeat (first | refine blk_drewN ?_ _ | refine blk_drew ?_ | refine blk_alloc ?_ _)); exact BK216.out⟩, ⟨by (with_reducible repeat (first | refine blk_drewN ?_ _ | refine blk_drew ?_ | refine blk_alloc ?_ _)); exact BK219.out⟩, ⟨by repeat (first | (with_reducible first | exact HB.out | apply below_alloc | apply pw_below_drewN | apply below_drew1 | refine below_set ?_ GE216.out | refine below_set ?_ GE219.out) | exact HB.out)⟩⟩
              case round =>
                clear H'
                try clear c1
                try clear c2
                try clear p2
                try clear q2
                try clear hx2
                try clear c4
                try clear c5
                try clear c5b0
                try clear c5b1
                try clear p6
                try clear c8
                try clear c10
                try clear c10b0
                try clear c11
                try clear c11b0
                try clear c12
                try clear c12b0
                try clear c13
                try clear c13b0
                try clear c13b1
                try clear c17
                try clear c17b0
                try clear c17b1
                try clear c21
                try clear p21
                try clear q21
                try clear hx21
                try clear hcz14_0
                try clear hcz14_1
                try clear hcz14_2
                try clear hcz14_3
                try clear hcz14_4
                try clear hcz14_5
                try clear hcz14_6
                try clear hcz15_0
                try clear hcz15_1
                try clear hcz15_2
                try clear hcz15_3
                try clear hcz15_4
                try clear hcz15_5
                try clear hcz15_6
                try clear hcz19_0
                try clear hcz19_1
                try clear hcz19_2
                try clear hcz19_3
                try clear hcz19_4
                try clear hcz19_5
                try clear hcz19_6
                try clear hcz22_0
                try clear hcz22_1
                try clear hcz24_0
                try clear hcz24_1
                try clear hcz7_0
                try clear hcz7_1
                try clear hcz7_2
                try clear hcz7_3
                try clear hcz7_4
                try clear hcz7_5
                try clear hcz7_6
                try clear hcz9_0
                try clear hcz9_1
                try clear hcz9_2
                try clear hcz9_3
                try clear hcz9_4
                try clear hcz9_5
                try clear hcz9_6
                try clear hfz14_0
                try clear hfz14_1
                try clear hfz14_2
                try clear hfz14_3
                try clear hfz14_4
                try clear hfz14_5
                try clear hfz14_6
                try clear hfz15_0
                try clear hfz15_1
                try clear hfz15_2
                try clear hfz15_3
                try clear hfz15_4
                try clear hfz15_5
                try clear hfz15_6
                try clear hfz19_0
                try clear hfz19_1
                try clear hfz19_2
                try clear hfz19_3
                try clear hfz19_4
                try clear hfz19_5
                try clear hfz19_6
                try clear hfz22_0
                try clear hfz22_1
                try clear hfz24_0
                try clear hfz24_1
                try clear hfz7_0
                try clear hfz7_1
                try clear hfz7_2
                try clear hfz7_3
                try clear hfz7_4
                try clear hfz7_5
                try clear hfz7_6
                try clear hfz9_0
                try clear hfz9_1
                try clear hfz9_2
                try clear hfz9_3
                try clear hfz9_4
                try clear hfz9_5
                try clear hfz9_6
                try clear hx218_0
                try clear p2
                try clear p218
                try clear q218
                obtain ⟨x9_2, x47_2, rfl, HA, HK2, HO_9, BK216, BK219, HB⟩ := hrel
                have hl9_2 := (Kd.R_reads' HO_9.out).1
                rw [hl9_2] at HO_9
                (try simp only [hl9_2])
                (try simp only [hl9_2] at BK216)
                (try simp only [hl9_2] at BK219)
                cases gk with
                | zero => exact absurd HA.out (by simp [sackbutref19_Write.l1])
                | succ k2 =>
                  have H := HA.out
                  clear HA
                  simp only [sackbutref19_Write.l1] at H
                  by_cases c27 : x47_2 < (t221.length : Int)
                  · rw [if_pos c27] at H
                    have c27b0 : decide (x47_2 < (t221.length : Int)) = true := decide_eq_true c27
                    (try have c27b0q : decide (x47_2 < (x9_2.length : Int)) = true := by rw [← hl9_2]; exact c27b0)
                    clear c27
                    by_cases c28 : a0_1 = 8
                    · rw [if_pos c28] at H
                      have c28b0 : (a0_1 == 8) = true := beq_iff_eq.mpr c28
                      have c28b1 : (a0_1 != 8) = false := bne_eq_false_iff_eq.mpr c28
                      clear c28
                      by_cases c29 : 0 ≤ x47_2
                      · rw [if_pos c29] at H
                        have c29b0 : decide (0 ≤ x47_2) = true := decide_eq_true c29
                        clear c29
                        by_cases c30 : x47_2 < (x9_2.length : Int)
                        · rw [if_pos c30] at H
                          have c30b0 : decide (x47_2 < (x9_2.length : Int)) = true := decide_eq_true c30
                          clear c30
                          obtain ⟨y225, hy225⟩ : ∃ y_ : List Int, y_ = (x9_2.set (x47_2 : Int).toNat (((rd x9_2 x47_2) + 128) % 256)) := ⟨_, rfl⟩
                          replace H : (sackbutref19_Write.l1 k2 y225 (t221.length : Int) (wrap64 (x47_2 + 1)) a0_0 a0_1 a0_2 a0_3 a0_4 a0_5 a0_6) = some (r1, r2) := by first | (rw [hy225]; with_reducible exact H) | (have H2_ := (Option.bind_some _ _).symm.trans H; rw [hy225]; with_reducible exact H2_) | (have H2_ := (Option.bind_some _ _).symm.trans H; with_reducible exact H2_) | with_reducible exact H | (rw [hy225]; exact H) | exact H
                          have Ny225 := Aside0.mk hy225
                          clear hy225
                          have H' := Aside0.mk H
                          clear H
                          have hnb32 := NB216_219.out
                          have hnc32 := NB219_216.out
                          have hcz33_0 : wr.cell? ⟨gb216, 0, none⟩ = some (.int .i64 a0_0) := (blk_cell BK216.out 0).trans rfl
                          have hcz33_1 : wr.cell? ⟨gb216, 1, none⟩ = some (.int .i64 a0_1) := (blk_cell BK216.out 1).trans rfl
                          have hcz33_2 : wr.cell? ⟨gb216, 2, none⟩ = some (.bool a0_2) := (blk_cell BK216.out 2).trans rfl
                          have hcz33_3 : wr.cell? ⟨gb216, 3, none⟩ = some (.int .i64 a0_3) := (blk_cell BK216.out 3).trans rfl
                          have hcz33_4 : wr.cell? ⟨gb216, 4, none⟩ = some (.int .i64 a0_4) := (blk_cell BK216.out 4).trans rfl
                          have hcz33_5 : wr.cell? ⟨gb216, 5, none⟩ = some (.int .i64 a0_5) := (blk_cell BK216.out 5).trans rfl
                          have hcz33_6 : wr.cell? ⟨gb216, 6, none⟩ = some (.int .i64 a0_6) := (blk_cell BK216.out 6).trans rfl
                          have hfz33_0 := blk_frozen BK216.out 0
                          have hfz33_1 := blk_frozen BK216.out 1
                          have hfz33_2 := blk_frozen BK216.out 2
                          have hfz33_3 := blk_frozen BK216.out 3
                          have hfz33_4 := blk_frozen BK216.out 4
                          have hfz33_5 := blk_frozen BK216.out 5
                          have hfz33_6 := blk_frozen BK216.out 6
                          have p224 : 0 ≤ (x47_2 : Int) := of_decide_eq_true (by first | (with_reducible assumption) | assumption)
                          have q224 : x47_2 < (x9_2.length : Int) := of_decide_eq_true (by first | (with_reducible assumption) | assumption)
                          obtain ⟨ad224, e224, hx224_0⟩ := Kd.at_int (Kd.R_reads' HO_9.out).2.2 x47_2 p224 q224
                          cases e224
                          replace p224 := eq_true p224
                          replace q224 := eq_true q224
                          have p31 : 0 ≤ (x47_2 : Int) := of_decide_eq_true (by first | (with_reducible assumption) | assumption)
                          have q31 : (x47_2 : Int) < ((x9_2.length : Int) : Int) := of_decide_eq_true (by first | (with_reducible assumption) | assumption)
                          obtain ⟨go31, co31, eo31, gb31, gl31, cl31, HG31⟩ := Kd.R_form HO_9.out (by omega)
                          (first | cases eo31 | (injection eo31 with ea_ en_ ec_; (first | subst ea_ | (injection ea_ with ea_; subst ea_)); subst ec_; clear en_))
                          have GB31 := Aside0.mk gb31
                          have GG31 := Aside0.mk HG31
                          clear gb31 gl31 HG31
                          (first | simp only [add_plain] at hx224_0 | skip)
                          obtain ⟨hx31_0, hf31_0⟩ := Kd.R_celln 0 HO_9.out (x47_2 : Int) p31 q31
                          replace p31 := eq_true p31
                          replace q31 := eq_true q31
                          have HP34 := Kd.R_putg HO_9.out (x47_2 : Int) (((rd x9_2 x47_2) + 128) % 256)
                          go_wp2_with (first | ((with_reducible refine gate_store (t := 5) (p := 60) rfl ?_); (try (rw [drewN_self wr]; generalize hq_ : World.drewN wr _ = wr; have n0_ := Aside0.mk (Kd.R_at hq_ HO_9.out); have n1_ := Aside0.mk (blk_at hq_ BK216.out); have n2_ := Aside0.mk (blk_at hq_ BK219.out); have n3_ := Aside0.mk (below_at hq_ HB.out); clear hq_ HO_9 BK216 BK219 HB; have HO_9 := n0_; have BK216 := n1_; have BK219 := n2_; have HB := n3_; clear n0_ n1_ n2_ n3_; (try (have HP34 := Kd.R_putg HO_9.out (x47_2 : Int) (((rd x9_2 x47_2) + 128) % 256))))); refine store_event (t := 5) (p := 60) (v := ?vo_w35) (w1 := (wr.setCell ⟨go31, (x47_2 : Int).toNat, none⟩ (.int .u8 (((rd x9_2 x47_2) + 128) % 256)))) ?hg ?ho ?hn ?hr ?_; (case ho => rfl); (case hg => rfl); (case hn => rfl); (case hr => first | (go_simp; done) | (go_simp; rfl)); intro w35 hw; have hg : wr.grownBy w35 (some go31) := (by rw [hw]; exact HP34.2); have hp_ : Kd.R (Kd.int .u8) 5 w35 w.heap.size (fun _ => True) (.slice (some ⟨go31, 0, none⟩) x9_2.length co26) y225 := (by rw [hw, Ny225.out]; exact HP34.1); clear HP34; have n0_ := Aside0.mk (hp_); have n1_ := Aside0.mk (blk_grown (g := gb216) (o := .cells #[.int .i64 a0_0, .int .i64 a0_1, .bool a0_2, .int .i64 a0_3, .int .i64 a0_4, .int .i64 a0_5, .int .i64 a0_6] 23 (0, 0)) (by (with_reducible repeat (first | refine blk_drewN ?_ _ | refine blk_drew ?_ | refine blk_alloc ?_ _)); exact BK216.out) hg (Kd.R_ne HO_9.out BK216.out (by decide))); have n2_ := Aside0.mk (blk_grown (g := gb219) (o := .cells #[.int .i64 a0_1, .bool false] 50 (0, 0)) (by (with_reducible repeat (first | refine blk_drewN ?_ _ | refine blk_drew ?_ | refine blk_alloc ?_ _)); exact BK219.out) hg (Kd.R_ne HO_9.out BK219.out (by decide))); have n3_ := Aside0.mk ((by rw [hw]; exact below_set (HB.out) GB31.out : Below w.heap.size w w35)); clear HO_9; clear BK216; clear BK219; clear HB; have HO_9 := n0_; have BK216 := n1_; have BK219 := n2_; have HB := n3_; clear n0_ n1_ n2_ n3_; clear hg hw hp_))
                          (try simp only [← hl9_2])
                          go_roundg k2
                          case measure => have := HK1.out; have := HK2.out; omega
                          case rel => exact ⟨(y225), (wrap64 (x47_2 + 1)), (by first | rfl | (simp; done) | (simp [*]; done)), H', ⟨by have := HK1.out; have := HK2.out; omega⟩, ⟨by (try simp only [hl9_2]); (with_reducible repeat (first | apply Kd.R_alloc | apply Kd.R_drewN | apply Kd.R_drew)); exact HO_9.out⟩, ⟨by (try simp only [hl9_2]); (with_reducible repeat (first | refine blk_drewN ?_ _ | refine blk_drew ?_ | refine blk_alloc ?_ _)); exact BK216.out⟩, ⟨by (try simp only [hl9_2]); (with_reducible repeat (first | refine blk_drewN ?_ _ | refine blk_drew ?_ | refine blk_alloc ?_ _)); exact BK219.out⟩, ⟨by repeat (first | (with_reducible first | exact HB.out | apply below_alloc | apply pw_below_drewN | apply below_drew1 | refine below_set ?_ GE216.out | refine below_set ?_ GE219.out) | exact HB.out)⟩⟩
                        · rw [if_neg c30] at H
                          exact absurd H (by simp)
                      · rw [if_neg c29] at H
                        exact absurd H (by simp)
                    · rw [if_neg c28] at H
                      have c28b0 : (a0_1 == 8) = false := beq_eq_false_iff_ne.mpr c28
                      have c28b1 : (a0_1 != 8) = true := bne_iff_ne.mpr c28
                      have H' := Aside0.mk H
                      clear H
                      have hnb36 := NB216_219.out
                      have hnc36 := NB219_216.out
                      have hcz37_0 : wr.cell? ⟨gb216, 0, none⟩ = some (.int .i64 a0_0) := (blk_cell BK216.out 0).trans rfl
                      have hcz37_1 : wr.cell? ⟨gb216, 1, none⟩ = some (.int .i64 a0_1) := (blk_cell BK216.out 1).trans rfl
                      have hcz37_2 : wr.cell? ⟨gb216, 2, none⟩ = some (.bool a0_2) := (blk_cell BK216.out 2).trans rfl
                      have hcz37_3 : wr.cell? ⟨gb216, 3, none⟩ = some (.int .i64 a0_3) := (blk_cell BK216.out 3).trans rfl
                      have hcz37_4 : wr.cell? ⟨gb216, 4, none⟩ = some (.int .i64 a0_4) := (blk_cell BK216.out 4).trans rfl
                      have hcz37_5 : wr.cell? ⟨gb216, 5, none⟩ = some (.int .i64 a0_5) := (blk_cell BK216.out 5).trans rfl
                      have hcz37_6 : wr.cell? ⟨gb216, 6, none⟩ = some (.int .i64 a0_6) := (blk_cell BK216.out 6).trans rfl
                      have hfz37_0 := blk_frozen BK216.out 0
                      have hfz37_1 := blk_frozen BK216.out 1
                      have hfz37_2 := blk_frozen BK216.out 2
                      have hfz37_3 := blk_frozen BK216.out 3
                      have hfz37_4 := blk_frozen BK216.out 4
                      have hfz37_5 := blk_frozen BK216.out 5
                      have hfz37_6 := blk_frozen BK216.out 6
                      go_wp2
                      (try simp only [← hl9_2])
                      go_roundg k2
                      case measure => have := HK1.out; have := HK2.out; omega
                      case rel => exact ⟨(x9_2), (wrap64 (x47_2 + 1)), (by first | rfl | (simp; done) | (simp [*]; done)), H', ⟨by have := HK1.out; have := HK2.out; omega⟩, ⟨by (try simp only [hl9_2]); (with_reducible repeat (first | apply Kd.R_alloc | apply Kd.R_drewN | apply Kd.R_drew)); exact HO_9.out⟩, ⟨by (try simp only [hl9_2]); (with_reducible repeat (first | refine blk_drewN ?_ _ | refine blk_drew ?_ | refine blk_alloc ?_ _)); exact BK216.out⟩, ⟨by (try simp only [hl9_2]); (with_reducible repeat (first | refine blk_drewN ?_ _ | refine blk_drew ?_ | refine blk_alloc ?_ _)); exact BK219.out⟩, ⟨by repeat (first | (with_reducible first | exact HB.out | apply below_alloc | apply pw_below_drewN | apply below_drew1 | refine below_set ?_ GE216.out | refine below_set ?_ GE219.out) | exact HB.out)⟩⟩
                  · rw [if_neg c27] at H
                    have c27b0 : decide (x47_2 < (t221.length : Int)) = false := decide_eq_false c27
                    (try have c27b0q : decide (x47_2 < (x9_2.length : Int)) = false := by rw [← hl9_2]; exact c27b0)
                    clear c27
                    replace H := Option.bind_eq_some_iff.mp H
                    obtain ⟨t226, A380, H⟩ := H
                    replace H : (if t226.length + x9_2.length < 140737488355328 then (some ((t226 ++ x9_2), 0)) else (none)) = some (r1, r2) := H
                    have A38 := Aside0.mk A380
                    clear A380
                    by_cases c39 : t226.length + x9_2.length < 140737488355328
                    · rw [if_pos c39] at H
                      have LMc39 := Aside0.mk c39
                      clear c39
                      obtain ⟨y229, hy229⟩ : ∃ y_ : List Int, y_ = (t226 ++ x9_2) := ⟨_, rfl⟩
                      replace H : (some (y229, 0)) = some (r1, r2) := by first | (rw [hy229]; with_reducible exact H) | (have H2_ := (Option.bind_some _ _).symm.trans H; rw [hy229]; with_reducible exact H2_) | (have H2_ := (Option.bind_some _ _).symm.trans H; with_reducible exact H2_) | with_reducible exact H | (rw [hy229]; exact H) | exact H
                      have Ny229 := Aside0.mk hy229
                      clear hy229
                      simp only [Option.some.injEq, Prod.mk.injEq] at H
                      obtain ⟨rfl, rfl⟩ := H
                      have hnb40 := NB216_219.out
                      have hnc40 := NB219_216.out
                      have hcz41_0 : wr.cell? ⟨gb216, 0, none⟩ = some (.int .i64 a0_0) := (blk_cell BK216.out 0).trans rfl
                      have hcz41_1 : wr.cell? ⟨gb216, 1, none⟩ = some (.int .i64 a0_1) := (blk_cell BK216.out 1).trans rfl
                      have hcz41_2 : wr.cell? ⟨gb216, 2, none⟩ = some (.bool a0_2) := (blk_cell BK216.out 2).trans rfl
                      have hcz41_3 : wr.cell? ⟨gb216, 3, none⟩ = some (.int .i64 a0_3) := (blk_cell BK216.out 3).trans rfl
                      have hcz41_4 : wr.cell? ⟨gb216, 4, none⟩ = some (.int .i64 a0_4) := (blk_cell BK216.out 4).trans rfl
                      have hcz41_5 : wr.cell? ⟨gb216, 5, none⟩ = some (.int .i64 a0_5) := (blk_cell BK216.out 5).trans rfl
                      have hcz41_6 : wr.cell? ⟨gb216, 6, none⟩ = some (.int .i64 a0_6) := (blk_cell BK216.out 6).trans rfl
                      have hfz41_0 := blk_frozen BK216.out 0
                      have hfz41_1 := blk_frozen BK216.out 1
                      have hfz41_2 := blk_frozen BK216.out 2
                      have hfz41_3 := blk_frozen BK216.out 3
                      have hfz41_4 := blk_frozen BK216.out 4
                      have hfz41_5 := blk_frozen BK216.out 5
                      have hfz41_6 := blk_frozen BK216.out 6
                      go_wp2_with (first | (go_at_call 22; (with_reducible refine (sackbutref19_First.calls k2 a0_0 a0_1 a0_2 a0_3 a0_4 a0_5 a0_6 (x9_2.length : Int) t226 _ A38.out).mono ?_); rintro e w42 ⟨v227, rfl, ho0, hb⟩; have n0_ := Aside0.mk (Kd.R_elder' (by (with_reducible repeat (first | apply Kd.R_alloc | apply Kd.R_drewN | apply Kd.R_drew)); exact HO_9.out) (Kd.R_base ho0) hb); have n1_ := Aside0.mk (Kd.R_lower (Kd.R_new' ho0 (Kd.R_lt (by (with_reducible repeat (first | apply Kd.R_alloc | apply Kd.R_drewN | apply Kd.R_drew)); exact HO_9.out))) (below_size (by repeat (first | (with_reducible first | exact HB.out | apply below_alloc | apply pw_below_drewN | apply below_drew1 | refine below_set ?_ GE216.out | refine below_set ?_ GE219.out) | exact HB.out)))); have n2_ := Aside0.mk (blk_below (g := gb216) (o := .cells #[.int .i64 a0_0, .int .i64 a0_1, .bool a0_2, .int .i64 a0_3, .int .i64 a0_4, .int .i64 a0_5, .int .i64 a0_6] 23 (0, 0)) (by (with_reducible repeat (first | refine blk_drewN ?_ _ | refine blk_drew ?_ | refine blk_alloc ?_ _)); exact BK216.out) hb); have n3_ := Aside0.mk (blk_below (g := gb219) (o := .cells #[.int .i64 a0_1, .bool false] 50 (0, 0)) (by (with_reducible repeat (first | refine blk_drewN ?_ _ | refine blk_drew ?_ | refine blk_alloc ?_ _)); exact BK219.out) hb); have n4_ := Aside0.mk (below_step (by repeat (first | (with_reducible first | exact HB.out | apply below_alloc | apply pw_below_drewN | apply below_drew1 | refine below_set ?_ GE216.out | refine below_set ?_ GE219.out) | exact HB.out)) hb); clear HO_9; clear BK216; clear BK219; clear HB; have HO_9 := n0_; have HO228 := n1_; have BK216 := n2_; have BK219 := n3_; have HB := n4_; clear n0_ n1_ n2_ n3_ n4_; (try clear hb); (try clear hb2); (try clear hk); (try clear hi); (try clear ho0)) | ((with_reducible refine gate_builtin (b := .append) (xs := #[.tmp 65, .tmp 66]) rfl ?_); at_builtin; refine Kd.R_append_rows (Kd.int .u8) (w0 := w) w.heap.size rfl (.tmp 65) (.tmp 66) 27 5 (.int .u8 0) 1 rfl Try.underlying27 info5 rfl (by decide) (by omega) v227 t226 x9_2 _ _ _ (fun k_ => some k_ ≠ (.slice Ao26 x9_2.length co26 : Value).ownBlock) (fun _ => False) rfl rfl ?aO ?aR (fun _ _ h => h) (fun _ h => h.elim) ?aF ?aB ?aS ?aL ?_; (case aR => repeat (first | exact (Kd.R_reads' HO_9.out).2.2 | (with_reducible refine Kd.C_alloc ?_ _) | (with_reducible refine Kd.C_drewN ?_ _) | (with_reducible refine Kd.C_drew ?_))); (case aB => exact (by repeat (first | (with_reducible first | exact HB.out | apply below_alloc | apply pw_below_drewN | apply below_drew1 | refine below_set ?_ GE216.out | refine below_set ?_ GE219.out) | exact HB.out))); (case aF => exact (fun k_ hk => Kd.fresh' (Kd.R_lt (by (with_reducible repeat (first | apply Kd.R_alloc | apply Kd.R_drewN | apply Kd.R_drew)); exact HO_9.out)) k_ hk)); (case aO => exact (by (with_reducible repeat (first | apply Kd.R_alloc | apply Kd.R_drewN | apply Kd.R_drew)); exact Kd.R_mono HO228.out (fun _ hk => hk.2))); (case aS => exact (below_size (by repeat (first | (with_reducible first | exact HB.out | apply below_alloc | apply pw_below_drewN | apply below_drew1 | refine below_set ?_ GE216.out | refine below_set ?_ GE219.out) | exact HB.out)))); (case aL => have := LMc39.out; omega); intro v230 w43 ho hb hg hat; rw [← Ny229.out] at ho; have n0_ := Aside0.mk (Kd.R_after (ok := (fun _ => True)) (by (with_reducible repeat (first | apply Kd.R_alloc | apply Kd.R_drewN | apply Kd.R_drew)); exact HO_9.out) hg hat); have n1_ := Aside0.mk (blk_grown (g := gb216) (o := .cells #[.int .i64 a0_0, .int .i64 a0_1, .bool a0_2, .int .i64 a0_3, .int .i64 a0_4, .int .i64 a0_5, .int .i64 a0_6] 23 (0, 0)) (by (with_reducible repeat (first | refine blk_drewN ?_ _ | refine blk_drew ?_ | refine blk_alloc ?_ _)); exact BK216.out) hg (Kd.R_ne HO228.out BK216.out (by decide))); have n2_ := Aside0.mk (blk_grown (g := gb219) (o := .cells #[.int .i64 a0_1, .bool false] 50 (0, 0)) (by (with_reducible repeat (first | refine blk_drewN ?_ _ | refine blk_drew ?_ | refine blk_alloc ?_ _)); exact BK219.out) hg (Kd.R_ne HO228.out BK219.out (by decide))); have n3_ := Aside0.mk (hb); have n4_ := Aside0.mk (ho); clear HO_9; clear BK216; clear BK219; clear HB; clear HO228; have HO_9 := n0_; have BK216 := n1_; have BK219 := n2_; have HB := n3_; have HO231 := n4_; clear n0_ n1_ n2_ n3_ n4_; clear ho hb hg hat))
                      go_ret2
                      exact ⟨_, by first | rfl | (simp [errW_none, errW_some] <;> rfl) | (simp [*, errW_none, errW_some] <;> rfl), by (with_reducible repeat (first | apply Kd.R_alloc | apply Kd.R_drewN | apply Kd.R_drew)); exact Kd.R_mono HO231.out (fun _ hk => trivial), by repeat (first | (with_reducible first | exact HB.out | apply below_alloc | apply pw_below_drewN | apply below_drew1 | refine below_set ?_ GE216.out | refine below_set ?_ GE219.out) | exact HB.out)⟩
                    · rw [if_neg c39] at H
                      exact absurd H (by simp)
            · rw [if_neg c17] at H
              have c17b0 : (t220 == 0) = false := beq_eq_false_iff_ne.mpr c17
              have c17b1 : (t220 != 0) = true := bne_iff_ne.mpr c17
              simp only [Option.some.injEq, Prod.mk.injEq] at H
              obtain ⟨rfl, rfl⟩ := H
              have hcz44_0 : wr.cell? ⟨gb216, 0, none⟩ = some (.int .i64 a0_0) := (blk_cell BK216.out 0).trans rfl
              have hcz44_1 : wr.cell? ⟨gb216, 1, none⟩ = some (.int .i64 a0_1) := (blk_cell BK216.out 1).trans rfl
              have hcz44_2 : wr.cell? ⟨gb216, 2, none⟩ = some (.bool a0_2) := (blk_cell BK216.out 2).trans rfl
              have hcz44_3 : wr.cell? ⟨gb216, 3, none⟩ = some (.int .i64 a0_3) := (blk_cell BK216.out 3).trans rfl
              have hcz44_4 : wr.cell? ⟨gb216, 4, none⟩ = some (.int .i64 a0_4) := (blk_cell BK216.out 4).trans rfl
              have hcz44_5 : wr.cell? ⟨gb216, 5, none⟩ = some (.int .i64 a0_5) := (blk_cell BK216.out 5).trans rfl
              have hcz44_6 : wr.cell? ⟨gb216, 6, none⟩ = some (.int .i64 a0_6) := (blk_cell BK216.out 6).trans rfl
              have hfz44_0 := blk_frozen BK216.out 0
              have hfz44_1 := blk_frozen BK216.out 1
              have hfz44_2 := blk_frozen BK216.out 2
              have hfz44_3 := blk_frozen BK216.out 3
              have hfz44_4 := blk_frozen BK216.out 4
              have hfz44_5 := blk_frozen BK216.out 5
              have hfz44_6 := blk_frozen BK216.out 6
              go_wp2_with (first | ((with_reducible refine gate_dst (N := 7) rfl ?_); refine box_event ?hg (N := 7) ?hd (cs := #[.int .i64 0, .bool false]) (t := 50) ?hr ?_; (case hd => rfl); (case hg => rfl); (case hr => first | (go_simp; done) | (go_simp; rfl)); intro gb219 hg w45 hbox hb; have n0_ := Aside0.mk (blk_below (g := gb216) (o := .cells #[.int .i64 a0_0, .int .i64 a0_1, .bool a0_2, .int .i64 a0_3, .int .i64 a0_4, .int .i64 a0_5, .int .i64 a0_6] 23 (0, 0)) (by (with_reducible repeat (first | refine blk_drewN ?_ _ | refine blk_drew ?_ | refine blk_alloc ?_ _)); exact BK216.out) hb); have n1_ := Aside0.mk (below_step (by repeat (first | (with_reducible first | exact HB.out | apply below_alloc | apply pw_below_drewN | apply below_drew1 | refine below_set ?_ GE216.out) | exact HB.out)) hb); have n2_ := Aside0.mk (hbox); have n3_ := Aside0.mk ((by rw [hg]; exact (below_size (by repeat (first | (with_reducible first | exact HB.out | apply below_alloc | apply pw_below_drewN | apply below_drew1 | refine below_set ?_ GE216.out) | exact HB.out))) : w.heap.size ≤ gb219)); have n4_ := Aside0.mk ((by rw [hg]; exact (below_size (by repeat (first | (with_reducible first | exact HB.out | apply below_alloc | apply pw_below_drewN | apply below_drew1 | refine below_set ?_ GE216.out) | exact HB.out))) : w.heap.size ≤ gb219)); have n5_ := Aside0.mk ((by rw [hg]; exact Nat.ne_of_lt (blk_lt (g := gb216) (o := .cells #[.int .i64 a0_0, .int .i64 a0_1, .bool a0_2, .int .i64 a0_3, .int .i64 a0_4, .int .i64 a0_5, .int .i64 a0_6] 23 (0, 0)) (by (with_reducible repeat (first | refine blk_drewN ?_ _ | refine blk_drew ?_ | refine blk_alloc ?_ _)); exact BK216.out)) : gb216 ≠ gb219)); have n6_ := Aside0.mk ((by rw [hg]; exact Nat.ne_of_gt (blk_lt (g := gb216) (o := .cells #[.int .i64 a0_0, .int .i64 a0_1, .bool a0_2, .int .i64 a0_3, .int .i64 a0_4, .int .i64 a0_5, .int .i64 a0_6] 23 (0, 0)) (by (with_reducible repeat (first | refine blk_drewN ?_ _ | refine blk_drew ?_ | refine blk_alloc ?_ _)); exact BK216.out)) : gb219 ≠ gb216)); clear BK216; clear HB; have BK216 := n0_; have HB := n1_; have BK219 := n2_; have GW219 := n3_; have GE219 := n4_; have NB216_219 := n5_; have NB219_216 := n6_; clear n0_ n1_ n2_ n3_ n4_ n5_ n6_; clear hb hbox hg; have hnb46 := NB219_216.out; have hnc46 := NB216_219.out; have hcz47_0 : w45.cell? ⟨gb219, 0, none⟩ = some (.int .i64 0) := (blk_cell BK219.out 0).trans rfl; have hcz47_1 : w45.cell? ⟨gb219, 1, none⟩ = some (.bool false) := (blk_cell BK219.out 1).trans rfl; have hfz47_0 := blk_frozen BK219.out 0; have hfz47_1 := blk_frozen BK219.out 1) | (go_at_call 20; (with_reducible refine (sackbutref05_Check.calls k1 a0_1 false _ _ l1 t220 _ ?side1 ?side2 A16.out).mono ?_); (case side1 => exact Kd.C_below HR1.out (by repeat (first | (with_reducible first | exact HB.out | apply below_alloc | apply pw_below_drewN | apply below_drew1 | refine below_set ?_ GE216.out | refine below_set ?_ GE219.out) | exact HB.out))); (case side2 => exact HC1.out); rintro e w48 ⟨rfl, hb⟩; have n0_ := Aside0.mk (blk_below (g := gb216) (o := .cells #[.int .i64 a0_0, .int .i64 a0_1, .bool a0_2, .int .i64 a0_3, .int .i64 a0_4, .int .i64 a0_5, .int .i64 a0_6] 23 (0, 0)) (by (with_reducible repeat (first | refine blk_drewN ?_ _ | refine blk_drew ?_ | refine blk_alloc ?_ _)); refine blk_far ?_ NB216_219.out _; (with_reducible repeat (first | refine blk_drewN ?_ _ | refine blk_drew ?_ | refine blk_alloc ?_ _)); refine blk_far ?_ NB216_219.out _; (with_reducible repeat (first | refine blk_drewN ?_ _ | refine blk_drew ?_ | refine blk_alloc ?_ _)); exact BK216.out) hb); have n1_ := Aside0.mk (blk_below (g := gb219) (o := .cells #[.int .i64 a0_1, .bool false] 50 (0, 0)) (by (with_reducible repeat (first | refine blk_drewN ?_ _ | refine blk_drew ?_ | refine blk_alloc ?_ _)); refine blk_put (cs := #[.int .i64 a0_1, .bool false]) ?_ 1 _ rfl; (with_reducible repeat (first | refine blk_drewN ?_ _ | refine blk_drew ?_ | refine blk_alloc ?_ _)); refine blk_put (cs := #[.int .i64 0, .bool false]) ?_ 0 _ rfl; (with_reducible repeat (first | refine blk_drewN ?_ _ | refine blk_drew ?_ | refine blk_alloc ?_ _)); exact BK219.out) hb); have n2_ := Aside0.mk (below_step (by repeat (first | (with_reducible first | exact HB.out | apply below_alloc | apply pw_below_drewN | apply below_drew1 | refine below_set ?_ GE216.out | refine below_set ?_ GE219.out) | exact HB.out)) hb); clear BK216; clear BK219; clear HB; have BK216 := n0_; have BK219 := n1_; have HB := n2_; clear n0_ n1_ n2_; (try clear hb); (try clear hb2); (try clear hk); (try clear hi)))
              go_ret2
              exact ⟨_, by first | rfl | (simp [errW_none, errW_some] <;> rfl) | (simp [*, errW_none, errW_some] <;> rfl), by first | exact Kd.R_nil _ _ _ _ _ | exact Kd.N_nil _ _ _ _ _ | exact Kd.V_nil _ _ _ _ _ | exact Kd.Q_nil _ _ _ _ _ | exact Kd.S_nil _ _ _ _ _, by repeat (first | (with_reducible first | exact HB.out | apply below_alloc | apply pw_below_drewN | apply below_drew1 | refine below_set ?_ GE216.out | refine below_set ?_ GE219.out) | exact HB.out)⟩
    · rw [if_neg c5] at H
      have c5b0 : ((l1.length : Int) == a0_0) = false := beq_eq_false_iff_ne.mpr c5
      have c5b1 : ((l1.length : Int) != a0_0) = true := bne_iff_ne.mpr c5
      simp only [Option.some.injEq, Prod.mk.injEq] at H
      obtain ⟨rfl, rfl⟩ := H
      go_enter Try.func8, Try.ntmps8
      go_wp2_with (first | ((with_reducible refine gate_dst (N := 2) rfl ?_); refine box_event ?hg (N := 2) ?hd (cs := #[.int .i64 a0_0, .int .i64 a0_1, .bool a0_2, .int .i64 a0_3, .int .i64 a0_4, .int .i64 a0_5, .int .i64 a0_6]) (t := 23) ?hr ?_; (case hd => rfl); (case hg => rfl); (case hr => first | (go_simp; done) | (go_simp; rfl)); intro gb216 hg w49 hbox hb; have n0_ := Aside0.mk (below_step (by repeat (first | (with_reducible first | exact HB.out | apply below_alloc | apply pw_below_drewN | apply below_drew1) | exact HB.out)) hb); have n1_ := Aside0.mk (hbox); have n2_ := Aside0.mk ((by rw [hg]; exact (below_size (by repeat (first | (with_reducible first | exact HB.out | apply below_alloc | apply pw_below_drewN | apply below_drew1) | exact HB.out))) : w.heap.size ≤ gb216)); have n3_ := Aside0.mk ((by rw [hg]; exact (below_size (by repeat (first | (with_reducible first | exact HB.out | apply below_alloc | apply pw_below_drewN | apply below_drew1) | exact HB.out))) : w.heap.size ≤ gb216)); clear HB; have HB := n0_; have BK216 := n1_; have GW216 := n2_; have GE216 := n3_; clear n0_ n1_ n2_ n3_; clear hb hbox hg; have hcz50_0 : w49.cell? ⟨gb216, 0, none⟩ = some (.int .i64 a0_0) := (blk_cell BK216.out 0).trans rfl; have hcz50_1 : w49.cell? ⟨gb216, 1, none⟩ = some (.int .i64 a0_1) := (blk_cell BK216.out 1).trans rfl; have hcz50_2 : w49.cell? ⟨gb216, 2, none⟩ = some (.bool a0_2) := (blk_cell BK216.out 2).trans rfl; have hcz50_3 : w49.cell? ⟨gb216, 3, none⟩ = some (.int .i64 a0_3) := (blk_cell BK216.out 3).trans rfl; have hcz50_4 : w49.cell? ⟨gb216, 4, none⟩ = some (.int .i64 a0_4) := (blk_cell BK216.out 4).trans rfl; have hcz50_5 : w49.cell? ⟨gb216, 5, none⟩ = some (.int .i64 a0_5) := (blk_cell BK216.out 5).trans rfl; have hcz50_6 : w49.cell? ⟨gb216, 6, none⟩ = some (.int .i64 a0_6) := (blk_cell BK216.out 6).trans rfl; have hfz50_0 := blk_frozen BK216.out 0; have hfz50_1 := blk_frozen BK216.out 1; have hfz50_2 := blk_frozen BK216.out 2; have hfz50_3 := blk_frozen BK216.out 3; have hfz50_4 := blk_frozen BK216.out 4; have hfz50_5 := blk_frozen BK216.out 5; have hfz50_6 := blk_frozen BK216.out 6) | (go_at_call 19; (with_reducible refine (sackbutref16_Good.calls a0_0 a0_1 a0_2 a0_3 a0_4 a0_5 a0_6 true _ A3.out).mono ?_); rintro e w51 ⟨rfl, hb⟩; have n0_ := Aside0.mk (blk_below (g := gb216) (o := .cells #[.int .i64 a0_0, .int .i64 a0_1, .bool a0_2, .int .i64 a0_3, .int .i64 a0_4, .int .i64 a0_5, .int .i64 a0_6] 23 (0, 0)) (by (with_reducible repeat (first | refine blk_drewN ?_ _ | refine blk_drew ?_ | refine blk_alloc ?_ _)); exact BK216.out) hb); have n1_ := Aside0.mk (below_step (by repeat (first | (with_reducible first | exact HB.out | apply below_alloc | apply pw_below_drewN | apply below_drew1 | refine below_set ?_ GE216.out) | exact HB.out)) hb); clear BK216; clear HB; have BK216 := n0_; have HB := n1_; clear n0_ n1_; (try clear hb); (try clear hb2); (try clear hk); (try clear hi); have hcz52_0 : w51.cell? ⟨gb216, 0, none⟩ = some (.int .i64 a0_0) := (blk_cell BK216.out 0).trans rfl; have hcz52_1 : w51.cell? ⟨gb216, 1, none⟩ = some (.int .i64 a0_1) := (blk_cell BK216.out 1).trans rfl; have hcz52_2 : w51.cell? ⟨gb216, 2, none⟩ = some (.bool a0_2) := (blk_cell BK216.out 2).trans rfl; have hcz52_3 : w51.cell? ⟨gb216, 3, none⟩ = some (.int .i64 a0_3) := (blk_cell BK216.out 3).trans rfl; have hcz52_4 : w51.cell? ⟨gb216, 4, none⟩ = some (.int .i64 a0_4) := (blk_cell BK216.out 4).trans rfl; have hcz52_5 : w51.cell? ⟨gb216, 5, none⟩ = some (.int .i64 a0_5) := (blk_cell BK216.out 5).trans rfl; have hcz52_6 : w51.cell? ⟨gb216, 6, none⟩ = some (.int .i64 a0_6) := (blk_cell BK216.out 6).trans rfl; have hfz52_0 := blk_frozen BK216.out 0; have hfz52_1 := blk_frozen BK216.out 1; have hfz52_2 := blk_frozen BK216.out 2; have hfz52_3 := blk_frozen BK216.out 3; have hfz52_4 := blk_frozen BK216.out 4; have hfz52_5 := blk_frozen BK216.out 5; have hfz52_6 := blk_frozen BK216.out 6))
      go_ret2
      exact ⟨_, by first | rfl | (simp [errW_none, errW_some] <;> rfl) | (simp [*, errW_none, errW_some] <;> rfl), by first | exact Kd.R_nil _ _ _ _ _ | exact Kd.N_nil _ _ _ _ _ | exact Kd.V_nil _ _ _ _ _ | exact Kd.Q_nil _ _ _ _ _ | exact Kd.S_nil _ _ _ _ _, by repeat (first | (with_reducible first | exact HB.out | apply below_alloc | apply pw_below_drewN | apply below_drew1 | refine below_set ?_ GE216.out) | exact HB.out)⟩
  · replace c4 := Bool.eq_false_iff.mpr c4
    subst c4
    have H1 : (some (([] : List Int), 7)) = some (r1, r2) := by rw [if_neg (show ¬ (false = true) by decide)] at H; exact H
    clear H
    have H := H1
    clear H1
    simp only [Option.some.injEq, Prod.mk.injEq] at H
    obtain ⟨rfl, rfl⟩ := H
    go_enter Try.func8, Try.ntmps8
    go_wp2_with (first | ((with_reducible refine gate_dst (N := 2) rfl ?_); refine box_event ?hg (N := 2) ?hd (cs := #[.int .i64 a0_0, .int .i64 a0_1, .bool a0_2, .int .i64 a0_3, .int .i64 a0_4, .int .i64 a0_5, .int .i64 a0_6]) (t := 23) ?hr ?_; (case hd => rfl); (case hg => rfl); (case hr => first | (go_simp; done) | (go_simp; rfl)); intro gb216 hg w53 hbox hb; have n0_ := Aside0.mk (below_step (by repeat (first | (with_reducible first | exact HB.out | apply below_alloc | apply pw_below_drewN | apply below_drew1) | exact HB.out)) hb); have n1_ := Aside0.mk (hbox); have n2_ := Aside0.mk ((by rw [hg]; exact (below_size (by repeat (first | (with_reducible first | exact HB.out | apply below_alloc | apply pw_below_drewN | apply below_drew1) | exact HB.out))) : w.heap.size ≤ gb216)); have n3_ := Aside0.mk ((by rw [hg]; exact (below_size (by repeat (first | (with_reducible first | exact HB.out | apply below_alloc | apply pw_below_drewN | apply below_drew1) | exact HB.out))) : w.heap.size ≤ gb216)); clear HB; have HB := n0_; have BK216 := n1_; have GW216 := n2_; have GE216 := n3_; clear n0_ n1_ n2_ n3_; clear hb hbox hg; have hcz54_0 : w53.cell? ⟨gb216, 0, none⟩ = some (.int .i64 a0_0) := (blk_cell BK216.out 0).trans rfl; have hcz54_1 : w53.cell? ⟨gb216, 1, none⟩ = some (.int .i64 a0_1) := (blk_cell BK216.out 1).trans rfl; have hcz54_2 : w53.cell? ⟨gb216, 2, none⟩ = some (.bool a0_2) := (blk_cell BK216.out 2).trans rfl; have hcz54_3 : w53.cell? ⟨gb216, 3, none⟩ = some (.int .i64 a0_3) := (blk_cell BK216.out 3).trans rfl; have hcz54_4 : w53.cell? ⟨gb216, 4, none⟩ = some (.int .i64 a0_4) := (blk_cell BK216.out 4).trans rfl; have hcz54_5 : w53.cell? ⟨gb216, 5, none⟩ = some (.int .i64 a0_5) := (blk_cell BK216.out 5).trans rfl; have hcz54_6 : w53.cell? ⟨gb216, 6, none⟩ = some (.int .i64 a0_6) := (blk_cell BK216.out 6).trans rfl; have hfz54_0 := blk_frozen BK216.out 0; have hfz54_1 := blk_frozen BK216.out 1; have hfz54_2 := blk_frozen BK216.out 2; have hfz54_3 := blk_frozen BK216.out 3; have hfz54_4 := blk_frozen BK216.out 4; have hfz54_5 := blk_frozen BK216.out 5; have hfz54_6 := blk_frozen BK216.out 6) | (go_at_call 19; (with_reducible refine (sackbutref16_Good.calls a0_0 a0_1 a0_2 a0_3 a0_4 a0_5 a0_6 false _ A3.out).mono ?_); rintro e w55 ⟨rfl, hb⟩; have n0_ := Aside0.mk (blk_below (g := gb216) (o := .cells #[.int .i64 a0_0, .int .i64 a0_1, .bool a0_2, .int .i64 a0_3, .int .i64 a0_4, .int .i64 a0_5, .int .i64 a0_6] 23 (0, 0)) (by (with_reducible repeat (first | refine blk_drewN ?_ _ | refine blk_drew ?_ | refine blk_alloc ?_ _)); exact BK216.out) hb); have n1_ := Aside0.mk (below_step (by repeat (first | (with_reducible first | exact HB.out | apply below_alloc | apply pw_below_drewN | apply below_drew1 | refine below_set ?_ GE216.out) | exact HB.out)) hb); clear BK216; clear HB; have BK216 := n0_; have HB := n1_; clear n0_ n1_; (try clear hb); (try clear hb2); (try clear hk); (try clear hi)))
    go_ret2
    exact ⟨_, by first | rfl | (simp [errW_none, errW_some] <;> rfl) | (simp [*, errW_none, errW_some] <;> rfl), by first | exact Kd.R_nil _ _ _ _ _ | exact Kd.N_nil _ _ _ _ _ | exact Kd.V_nil _ _ _ _ _ | exact Kd.Q_nil _ _ _ _ _ | exact Kd.S_nil _ _ _ _ _, by repeat (first | (with_reducible first | exact HB.out | apply below_alloc | apply pw_below_drewN | apply below_drew1 | refine below_set ?_ GE216.out) | exact HB.out)⟩

end Go.Proofs.Ytliidobbkfmndaa.HW2

