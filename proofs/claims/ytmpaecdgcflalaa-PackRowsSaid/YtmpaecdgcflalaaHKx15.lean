/- What the Go functions come to, as plain Lean functions, and that their calls do just that: written by this project's own program (hp.sh); conditions: those of each theorem. -/
import Derived.Test.YtmpaecdgcflalaaHKx0
import Derived.Test.YtmpaecdgcflalaaHKx7
import Derived.Test.YtmpaecdgcflalaaHKx10
import Derived.Test.YtmpaecdgcflalaaHKx11
import Derived.Test.YtmpaecdgcflalaaHKx14
namespace Go.Proofs.Ytmpaecdgcflalaa.HK
open Go.RowKit Go.Proofs.YtmpaecdgcflalaaW.PrintWords Go.Proofs.YtmpaecdgcflalaaW.PrintLast Go.Proofs.YtmpaecdgcflalaaW.PrintMore
attribute [local go_sem] max2_int min2_int max_two min_two max_three min_three max_four min_four   -- for this text's walks alone
set_option linter.unusedVariables false
set_option linter.unusedSimpArgs false

/-! ### sackbutlaw05_PackRows: function 5 -/
mutual
def sackbutlaw05_PackRows.j0 : Nat → List (List Int) → Bool → Int → Bool → Option (Bool)
  | 0, _, _, _, _ => none
  | k + 1, x1, x27, x196000, x196001 => if x27 = true then ((sackbutlaw05_awake.f k).bind fun t199 => (some t199)) else ((pack_Pack.f k x196000 x196001 x1).bind fun bt200 => (if 0 < (x1.length : Int) then (sackbutlaw05_PackRows.l0 k x1 bt200.1 bt200.2 ([] : List Int) ((rd_L1 x1 0).length : Int) 0 x196000 x196001) else (none)))
def sackbutlaw05_PackRows.l0 : Nat → List (List Int) → List Int → Int → List Int → Int → Int → Int → Bool → Option (Bool)
  | 0, _, _, _, _, _, _, _, _ => none
  | k + 1, x1, x5, x6, x7, x38, x39, x196000, x196001 => if x39 < x38 then ((pack_Row.f k x1 x39).bind fun t205 => (if (t205.length : Int) = (x1.length : Int) then (sackbutlaw05_PackRows.l1 k x1 x5 x6 x7 x39 ([] : List (List Int)) x38 x39 t205 (t205.length : Int) 0 x196000 x196001) else (some false))) else (if x6 = 0 then (some ((strOfNums x7).toList == (strOfNums x5).toList)) else (some false))
def sackbutlaw05_PackRows.l1 : Nat → List (List Int) → List Int → Int → List Int → Int → List (List Int) → Int → Int → List Int → Int → Int → Int → Bool → Option (Bool)
  | 0, _, _, _, _, _, _, _, _, _, _, _, _, _ => none
  | k + 1, x1, x5, x6, x7, x8, x10, x38, x39, x50, x51, x52, x196000, x196001 => if x52 < x51 then (if 0 ≤ x52 then (if x52 < (x50.length : Int) then (if x52 < (x1.length : Int) then (if 0 ≤ x8 then (if x8 < ((rd_L1 x1 x52).length : Int) then (if (rd x50 x52) = (rd (rd_L1 x1 x52) x8) then (if x10.length < 5864062014805 then (sackbutlaw05_PackRows.l1 k x1 x5 x6 x7 x8 (x10 ++ [(([rd x50 x52] : List Int))]) x38 x39 x50 x51 (wrap64 (x52 + 1)) x196000 x196001) else (none)) else (some false)) else (none)) else (none)) else (none)) else (none)) else (none)) else ((pack_Pack.f k x196000 x196001 x10).bind fun bt217 => (if bt217.2 = 0 then (if x7.length + bt217.1.length < 140737488355328 then (sackbutlaw05_PackRows.l0 k x1 x5 x6 (x7 ++ bt217.1) x38 (wrap64 (x39 + 1)) x196000 x196001) else (none)) else (some false)))
end
def sackbutlaw05_PackRows.f (k : Nat) (a0_0 : Int) (a0_1 : Bool) (l1 : List (List Int)) : Option (Bool) := (sackbutlaw05_awake.f k).bind fun t196 => (if t196 = true then ((sackbutlaw05_Few.f k l1).bind fun t197 => (if t197 = true then ((sackbutref05_Check.f k a0_0 a0_1 l1).bind fun t198 => (sackbutlaw05_PackRows.j0 k l1 (t198 != 0) a0_0 a0_1)) else (sackbutlaw05_PackRows.j0 k l1 true a0_0 a0_1))) else (sackbutlaw05_PackRows.j0 k l1 true a0_0 a0_1))
theorem sackbutlaw05_PackRows.mono_l : ∀ k, (∀ y0 y1 y2 y3, LeO (sackbutlaw05_PackRows.j0 k y0 y1 y2 y3) (sackbutlaw05_PackRows.j0 (k + 1) y0 y1 y2 y3)) ∧ (∀ y0 y1 y2 y3 y4 y5 y6 y7, LeO (sackbutlaw05_PackRows.l0 k y0 y1 y2 y3 y4 y5 y6 y7) (sackbutlaw05_PackRows.l0 (k + 1) y0 y1 y2 y3 y4 y5 y6 y7)) ∧ (∀ y0 y1 y2 y3 y4 y5 y6 y7 y8 y9 y10 y11 y12, LeO (sackbutlaw05_PackRows.l1 k y0 y1 y2 y3 y4 y5 y6 y7 y8 y9 y10 y11 y12) (sackbutlaw05_PackRows.l1 (k + 1) y0 y1 y2 y3 y4 y5 y6 y7 y8 y9 y10 y11 y12))
  | 0 => ⟨fun _ _ _ _ r h => by simp [sackbutlaw05_PackRows.j0] at h, fun _ _ _ _ _ _ _ _ r h => by simp [sackbutlaw05_PackRows.l0] at h, fun _ _ _ _ _ _ _ _ _ _ _ _ _ r h => by simp [sackbutlaw05_PackRows.l1] at h⟩
  | k + 1 => by
    obtain ⟨ih0, ih1, ih2⟩ := sackbutlaw05_PackRows.mono_l k
    refine ⟨?_, ?_, ?_⟩
    · intro y0 y1 y2 y3
      unfold sackbutlaw05_PackRows.j0
      repeat' first
      | (with_reducible exact ih0 _ _ _ _)
      | (with_reducible exact ih1 _ _ _ _ _ _ _ _)
      | (with_reducible exact ih2 _ _ _ _ _ _ _ _ _ _ _ _ _)
      | (with_reducible exact pack_Pack.mono _ _ _ _)
      | (with_reducible exact pack_Row.mono _ _ _)
      | (with_reducible exact sackbutlaw05_Few.mono _ _)
      | (with_reducible exact sackbutlaw05_awake.mono _)
      | (with_reducible exact sackbutref05_Check.mono _ _ _ _)
      | (with_reducible exact LeO.refl _)
      | (with_reducible exact LeO.none _)
      | (with_reducible refine LeO.ite ?_ ?_)
      | (with_reducible refine LeO.bind ?_ (fun _ => ?_))
      | exact ih0 _ _ _ _
      | exact ih1 _ _ _ _ _ _ _ _
      | exact ih2 _ _ _ _ _ _ _ _ _ _ _ _ _
      | exact pack_Pack.mono _ _ _ _
      | exact pack_Row.mono _ _ _
      | exact sackbutlaw05_Few.mono _ _
      | exact sackbutlaw05_awake.mono _
      | exact sackbutref05_Check.mono _ _ _ _
      | exact LeO.none _
      | refine LeO.ite ?_ ?_
      | refine LeO.bind ?_ (fun _ => ?_)
    · intro y0 y1 y2 y3 y4 y5 y6 y7
      unfold sackbutlaw05_PackRows.l0
      repeat' first
      | (with_reducible exact ih0 _ _ _ _)
      | (with_reducible exact ih1 _ _ _ _ _ _ _ _)
      | (with_reducible exact ih2 _ _ _ _ _ _ _ _ _ _ _ _ _)
      | (with_reducible exact pack_Pack.mono _ _ _ _)
      | (with_reducible exact pack_Row.mono _ _ _)
      | (with_reducible exact sackbutlaw05_Few.mono _ _)
      | (with_reducible exact sackbutlaw05_awake.mono _)
      | (with_reducible exact sackbutref05_Check.mono _ _ _ _)
      | (with_reducible exact LeO.refl _)
      | (with_reducible exact LeO.none _)
      | (with_reducible refine LeO.ite ?_ ?_)
      | (with_reducible refine LeO.bind ?_ (fun _ => ?_))
      | exact ih0 _ _ _ _
      | exact ih1 _ _ _ _ _ _ _ _
      | exact ih2 _ _ _ _ _ _ _ _ _ _ _ _ _
      | exact pack_Pack.mono _ _ _ _
      | exact pack_Row.mono _ _ _
      | exact sackbutlaw05_Few.mono _ _
      | exact sackbutlaw05_awake.mono _
      | exact sackbutref05_Check.mono _ _ _ _
      | exact LeO.none _
      | refine LeO.ite ?_ ?_
      | refine LeO.bind ?_ (fun _ => ?_)
    · intro y0 y1 y2 y3 y4 y5 y6 y7 y8 y9 y10 y11 y12
      unfold sackbutlaw05_PackRows.l1
      repeat' first
      | (with_reducible exact ih0 _ _ _ _)
      | (with_reducible exact ih1 _ _ _ _ _ _ _ _)
      | (with_reducible exact ih2 _ _ _ _ _ _ _ _ _ _ _ _ _)
      | (with_reducible exact pack_Pack.mono _ _ _ _)
      | (with_reducible exact pack_Row.mono _ _ _)
      | (with_reducible exact sackbutlaw05_Few.mono _ _)
      | (with_reducible exact sackbutlaw05_awake.mono _)
      | (with_reducible exact sackbutref05_Check.mono _ _ _ _)
      | (with_reducible exact LeO.refl _)
      | (with_reducible exact LeO.none _)
      | (with_reducible refine LeO.ite ?_ ?_)
      | (with_reducible refine LeO.bind ?_ (fun _ => ?_))
      | exact ih0 _ _ _ _
      | exact ih1 _ _ _ _ _ _ _ _
      | exact ih2 _ _ _ _ _ _ _ _ _ _ _ _ _
      | exact pack_Pack.mono _ _ _ _
      | exact pack_Row.mono _ _ _
      | exact sackbutlaw05_Few.mono _ _
      | exact sackbutlaw05_awake.mono _
      | exact sackbutref05_Check.mono _ _ _ _
      | exact LeO.none _
      | refine LeO.ite ?_ ?_
      | refine LeO.bind ?_ (fun _ => ?_)
theorem sackbutlaw05_PackRows.mono : ∀ a0 a1 a2 k, LeO (sackbutlaw05_PackRows.f k a0 a1 a2) (sackbutlaw05_PackRows.f (k + 1) a0 a1 a2) := by
  intro a0 a1 a2 k
  obtain ⟨ih0, ih1, ih2⟩ := sackbutlaw05_PackRows.mono_l k
  unfold sackbutlaw05_PackRows.f
  repeat' first
      | (with_reducible exact ih0 _ _ _ _)
      | (with_reducible exact ih1 _ _ _ _ _ _ _ _)
      | (with_reducible exact ih2 _ _ _ _ _ _ _ _ _ _ _ _ _)
      | (with_reducible exact pack_Pack.mono _ _ _ _)
      | (with_reducible exact pack_Row.mono _ _ _)
      | (with_reducible exact sackbutlaw05_Few.mono _ _)
      | (with_reducible exact sackbutlaw05_awake.mono _)
      | (with_reducible exact sackbutref05_Check.mono _ _ _ _)
      | (with_reducible exact LeO.refl _)
      | (with_reducible exact LeO.none _)
      | (with_reducible refine LeO.ite ?_ ?_)
      | (with_reducible refine LeO.bind ?_ (fun _ => ?_))
      | exact ih0 _ _ _ _
      | exact ih1 _ _ _ _ _ _ _ _
      | exact ih2 _ _ _ _ _ _ _ _ _ _ _ _ _
      | exact pack_Pack.mono _ _ _ _
      | exact pack_Row.mono _ _ _
      | exact sackbutlaw05_Few.mono _ _
      | exact sackbutlaw05_awake.mono _
      | exact sackbutref05_Check.mono _ _ _ _
      | exact LeO.none _
      | refine LeO.ite ?_ ?_
      | refine LeO.bind ?_ (fun _ => ?_)
set_option maxHeartbeats 8000000 in
set_option maxRecDepth 100000 in
theorem sackbutlaw05_PackRows.calls (k : Nat) (a0_0 : Int) (a0_1 : Bool) (A1 : Option Addr) (c1 : Nat) (l1 : List (List Int)) (r : Bool) (w : World) (hr1 : Kd.C (Kd.slice 3 (Kd.int .i64)) w A1 l1.length l1) (hc1 : l1.length ≤ c1) (h : sackbutlaw05_PackRows.f k a0_0 a0_1 l1 = some r) :
    Calls Try.prog 5 #[.agg #[.int .i64 a0_0, .bool a0_1], .slice A1 l1.length c1] w fun e w' => e = .returned (.bool r) ∧ Below w.heap.size w w' := by
  have hu23 := Try.underlying23
  have HR1 := Aside0.mk hr1
  have HC1 := Aside0.mk hc1
  clear hr1 hc1
  have HB := Aside0.mk (Below.refl w.heap.size w)
  have H : ((sackbutlaw05_awake.f k).bind fun t196 => (if t196 = true then ((sackbutlaw05_Few.f k l1).bind fun t197 => (if t197 = true then ((sackbutref05_Check.f k a0_0 a0_1 l1).bind fun t198 => (sackbutlaw05_PackRows.j0 k l1 (t198 != 0) a0_0 a0_1)) else (sackbutlaw05_PackRows.j0 k l1 true a0_0 a0_1))) else (sackbutlaw05_PackRows.j0 k l1 true a0_0 a0_1))) = some r := h
  clear h
  have HC3 := Aside0.mk H
  clear H
  go_enter Try.func5, Try.ntmps5
  go_upto_region 1 with (first | ((with_reducible refine gate_dst (N := 2) rfl ?_); refine box_event ?hg (N := 2) ?hd (cs := #[.int .i64 a0_0, .bool a0_1]) (t := 23) ?hr ?_; (case hd => rfl); (case hg => rfl); (case hr => first | (go_simp; done) | (go_simp; rfl)); intro gb195 hg w4 hbox hb; have n0_ := Aside0.mk (below_step (by repeat (first | (with_reducible first | exact HB.out | apply below_alloc | apply pw_below_drewN | apply below_drew1) | exact HB.out)) hb); have n1_ := Aside0.mk (hbox); have n2_ := Aside0.mk ((by rw [hg]; exact (below_size (by repeat (first | (with_reducible first | exact HB.out | apply below_alloc | apply pw_below_drewN | apply below_drew1) | exact HB.out))) : w.heap.size ≤ gb195)); have n3_ := Aside0.mk ((by rw [hg]; exact (below_size (by repeat (first | (with_reducible first | exact HB.out | apply below_alloc | apply pw_below_drewN | apply below_drew1) | exact HB.out))) : w.heap.size ≤ gb195)); clear HB; have HB := n0_; have BK195 := n1_; have GW195 := n2_; have GE195 := n3_; clear n0_ n1_ n2_ n3_; clear hb hbox hg))
  (try simp only [Act.put, List.setIfInBounds_toArray, List.set_cons_zero, List.set_cons_succ])
  go_cut [27] (fun v27 wc => ∃ (kq : Nat) (x27_2 : Bool), v27 = .bool x27_2 ∧ Aside0 (sackbutlaw05_PackRows.j0 kq l1 x27_2 a0_0 a0_1 = some r) ∧ Aside0 (kq ≤ k) ∧ Aside0 (wc.heap[gb195]? = some (.cells #[.int .i64 a0_0, .bool a0_1] 23 (0, 0))) ∧ Aside0 (Below w.heap.size w wc))
  case first =>
    have H := HC3.out
    clear HC3
    replace H := Option.bind_eq_some_iff.mp H
    obtain ⟨t196, A50, H⟩ := H
    replace H : (if t196 = true then ((sackbutlaw05_Few.f k l1).bind fun t197 => (if t197 = true then ((sackbutref05_Check.f k a0_0 a0_1 l1).bind fun t198 => (sackbutlaw05_PackRows.j0 k l1 (t198 != 0) a0_0 a0_1)) else (sackbutlaw05_PackRows.j0 k l1 true a0_0 a0_1))) else (sackbutlaw05_PackRows.j0 k l1 true a0_0 a0_1)) = some r := H
    have A5 := Aside0.mk A50
    clear A50
    by_cases c6 : t196 = true
    · subst c6
      have H1 : ((sackbutlaw05_Few.f k l1).bind fun t197 => (if t197 = true then ((sackbutref05_Check.f k a0_0 a0_1 l1).bind fun t198 => (sackbutlaw05_PackRows.j0 k l1 (t198 != 0) a0_0 a0_1)) else (sackbutlaw05_PackRows.j0 k l1 true a0_0 a0_1))) = some r := by rw [if_pos rfl] at H; exact H
      clear H
      have H := H1
      clear H1
      replace H := Option.bind_eq_some_iff.mp H
      obtain ⟨t197, A70, H⟩ := H
      replace H : (if t197 = true then ((sackbutref05_Check.f k a0_0 a0_1 l1).bind fun t198 => (sackbutlaw05_PackRows.j0 k l1 (t198 != 0) a0_0 a0_1)) else (sackbutlaw05_PackRows.j0 k l1 true a0_0 a0_1)) = some r := H
      have A7 := Aside0.mk A70
      clear A70
      by_cases c8 : t197 = true
      · subst c8
        have H1 : ((sackbutref05_Check.f k a0_0 a0_1 l1).bind fun t198 => (sackbutlaw05_PackRows.j0 k l1 (t198 != 0) a0_0 a0_1)) = some r := by rw [if_pos rfl] at H; exact H
        clear H
        have H := H1
        clear H1
        replace H := Option.bind_eq_some_iff.mp H
        obtain ⟨t198, A90, H⟩ := H
        replace H : (sackbutlaw05_PackRows.j0 k l1 (t198 != 0) a0_0 a0_1) = some r := H
        have A9 := Aside0.mk A90
        clear A90
        have H' := Aside0.mk H
        clear H
        go_wp2_with (first | ((with_reducible refine gate_callee (f := 8) rfl ?_); refine goesL_ (some 15) rfl rfl Try.func8 (by kernel_rfl) rfl #[] rfl (by (try simp only [List.map_toArray, List.map_cons, List.map_nil]); first | done | rfl | (simp only [List.length_drop, List.length_take]; rfl)) ?_; (with_reducible refine (sackbutlaw05_awake.calls k  true _ A5.out).mono ?_); rintro e w10 ⟨rfl, hb⟩; refine ⟨_, rfl, ?_⟩; have n0_ := Aside0.mk (blk_below (g := gb195) (o := .cells #[.int .i64 a0_0, .bool a0_1] 23 (0, 0)) (by (with_reducible repeat (first | refine blk_drewN ?_ _ | refine blk_drew ?_ | refine blk_alloc ?_ _)); exact BK195.out) hb); have n1_ := Aside0.mk (below_step (by repeat (first | (with_reducible first | exact HB.out | apply below_alloc | apply pw_below_drewN | apply below_drew1 | refine below_set ?_ GE195.out) | exact HB.out)) hb); clear BK195; clear HB; have BK195 := n0_; have HB := n1_; clear n0_ n1_; (try clear hb); (try clear hb2); (try clear hk); (try clear hi)) | (go_at_call 13; (with_reducible refine (sackbutlaw05_Few.calls k _ _ l1 true _ ?side1 ?side2 A7.out).mono ?_); (case side1 => repeat (first | exact (Kd.C_below HR1.out HB.out) | (with_reducible refine Kd.C_alloc ?_ _) | (with_reducible refine Kd.C_drewN ?_ _) | (with_reducible refine Kd.C_drew ?_))); (case side2 => exact HC1.out); rintro e w' ⟨rfl, ⟨nd, rfl⟩⟩; have hcz11_0 : w10.cell? ⟨gb195, 0, none⟩ = some (.int .i64 a0_0) := (blk_cell BK195.out 0).trans rfl; have hcz11_1 : w10.cell? ⟨gb195, 1, none⟩ = some (.bool a0_1) := (blk_cell BK195.out 1).trans rfl; have hfz11_0 := blk_frozen BK195.out 0; have hfz11_1 := blk_frozen BK195.out 1) | (go_at_call 14; (with_reducible refine (sackbutref05_Check.calls k a0_0 a0_1 _ _ l1 t198 _ ?side1 ?side2 A9.out).mono ?_); (case side1 => repeat (first | exact (Kd.C_below HR1.out (by repeat (first | (with_reducible first | exact HB.out | apply below_alloc | apply pw_below_drewN | apply below_drew1 | refine below_set ?_ GE195.out) | exact HB.out))) | (with_reducible refine Kd.C_alloc ?_ _) | (with_reducible refine Kd.C_drewN ?_ _) | (with_reducible refine Kd.C_drew ?_))); (case side2 => exact HC1.out); rintro e w12 ⟨rfl, hb⟩; have n0_ := Aside0.mk (blk_below (g := gb195) (o := .cells #[.int .i64 a0_0, .bool a0_1] 23 (0, 0)) (by (with_reducible repeat (first | refine blk_drewN ?_ _ | refine blk_drew ?_ | refine blk_alloc ?_ _)); exact BK195.out) hb); have n1_ := Aside0.mk (below_step (by repeat (first | (with_reducible first | exact HB.out | apply below_alloc | apply pw_below_drewN | apply below_drew1 | refine below_set ?_ GE195.out) | exact HB.out)) hb); clear BK195; clear HB; have BK195 := n0_; have HB := n1_; clear n0_ n1_; (try clear hb); (try clear hb2); (try clear hk); (try clear hi)))
        go_meet
        case rel => exact ⟨_, ((t198 != 0)), (by first | rfl | (simp; done) | (simp [*]; done)), H', ⟨by first | omega | exact Nat.le_refl _⟩, ⟨by (with_reducible repeat (first | refine blk_drewN ?_ _ | refine blk_drew ?_ | refine blk_alloc ?_ _)); exact BK195.out⟩, ⟨by repeat (first | (with_reducible first | exact HB.out | apply below_alloc | apply pw_below_drewN | apply below_drew1 | refine below_set ?_ GE195.out) | exact HB.out)⟩⟩
      · replace c8 := Bool.eq_false_iff.mpr c8
        subst c8
        have H1 : (sackbutlaw05_PackRows.j0 k l1 true a0_0 a0_1) = some r := by rw [if_neg (show ¬ (false = true) by decide)] at H; exact H
        clear H
        have H := H1
        clear H1
        have H' := Aside0.mk H
        clear H
        go_wp2_with (first | ((with_reducible refine gate_callee (f := 8) rfl ?_); refine goesL_ (some 15) rfl rfl Try.func8 (by kernel_rfl) rfl #[] rfl (by (try simp only [List.map_toArray, List.map_cons, List.map_nil]); first | done | rfl | (simp only [List.length_drop, List.length_take]; rfl)) ?_; (with_reducible refine (sackbutlaw05_awake.calls k  true _ A5.out).mono ?_); rintro e w13 ⟨rfl, hb⟩; refine ⟨_, rfl, ?_⟩; have n0_ := Aside0.mk (blk_below (g := gb195) (o := .cells #[.int .i64 a0_0, .bool a0_1] 23 (0, 0)) (by (with_reducible repeat (first | refine blk_drewN ?_ _ | refine blk_drew ?_ | refine blk_alloc ?_ _)); exact BK195.out) hb); have n1_ := Aside0.mk (below_step (by repeat (first | (with_reducible first | exact HB.out | apply below_alloc | apply pw_below_drewN | apply below_drew1 | refine below_set ?_ GE195.out) | exact HB.out)) hb); clear BK195; clear HB; have BK195 := n0_; have HB := n1_; clear n0_ n1_; (try clear hb); (try clear hb2); (try clear hk); (try clear hi)) | (go_at_call 13; (with_reducible refine (sackbutlaw05_Few.calls k _ _ l1 false _ ?side1 ?side2 A7.out).mono ?_); (case side1 => repeat (first | exact (Kd.C_below HR1.out HB.out) | (with_reducible refine Kd.C_alloc ?_ _) | (with_reducible refine Kd.C_drewN ?_ _) | (with_reducible refine Kd.C_drew ?_))); (case side2 => exact HC1.out); rintro e w' ⟨rfl, ⟨nd, rfl⟩⟩))
        go_meet
        case rel => exact ⟨_, (true), (by first | rfl | (simp; done) | (simp [*]; done)), H', ⟨by first | omega | exact Nat.le_refl _⟩, ⟨by (with_reducible repeat (first | refine blk_drewN ?_ _ | refine blk_drew ?_ | refine blk_alloc ?_ _)); exact BK195.out⟩, ⟨by repeat (first | (with_reducible first | exact HB.out | apply below_alloc | apply pw_below_drewN | apply below_drew1 | refine below_set ?_ GE195.out) | exact HB.out)⟩⟩
    · replace c6 := Bool.eq_false_iff.mpr c6
      subst c6
      have H1 : (sackbutlaw05_PackRows.j0 k l1 true a0_0 a0_1) = some r := by rw [if_neg (show ¬ (false = true) by decide)] at H; exact H
      clear H
      have H := H1
      clear H1
      have H' := Aside0.mk H
      clear H
      go_wp2_with (first | ((with_reducible refine gate_callee (f := 8) rfl ?_); refine goesL_ (some 15) rfl rfl Try.func8 (by kernel_rfl) rfl #[] rfl (by (try simp only [List.map_toArray, List.map_cons, List.map_nil]); first | done | rfl | (simp only [List.length_drop, List.length_take]; rfl)) ?_; (with_reducible refine (sackbutlaw05_awake.calls k  false _ A5.out).mono ?_); rintro e w14 ⟨rfl, hb⟩; refine ⟨_, rfl, ?_⟩; have n0_ := Aside0.mk (blk_below (g := gb195) (o := .cells #[.int .i64 a0_0, .bool a0_1] 23 (0, 0)) (by (with_reducible repeat (first | refine blk_drewN ?_ _ | refine blk_drew ?_ | refine blk_alloc ?_ _)); exact BK195.out) hb); have n1_ := Aside0.mk (below_step (by repeat (first | (with_reducible first | exact HB.out | apply below_alloc | apply pw_below_drewN | apply below_drew1 | refine below_set ?_ GE195.out) | exact HB.out)) hb); clear BK195; clear HB; have BK195 := n0_; have HB := n1_; clear n0_ n1_; (try clear hb); (try clear hb2); (try clear hk); (try clear hi)))
      go_meet
      case rel => exact ⟨_, (true), (by first | rfl | (simp; done) | (simp [*]; done)), H', ⟨by first | omega | exact Nat.le_refl _⟩, ⟨by (with_reducible repeat (first | refine blk_drewN ?_ _ | refine blk_drew ?_ | refine blk_alloc ?_ _)); exact BK195.out⟩, ⟨by repeat (first | (with_reducible first | exact HB.out | apply below_alloc | apply pw_below_drewN | apply below_drew1 | refine below_set ?_ GE195.out) | exact HB.out)⟩⟩
  case rest =>
    clear HC3
    try clear c1
    try clear p2
    try clear c5
    try clear c6
    try clear c8
    try clear hcz11_0
    try clear hcz11_1
    try clear hfz11_0
    try clear hfz11_1
    obtain ⟨kq, x27_2, rfl, HA, HJ2, BK195, HB⟩ := hcut
    cases kq with
    | zero => exact absurd HA.out (by simp [sackbutlaw05_PackRows.j0])
    | succ kj2 =>
      have H := HA.out
      clear HA
      simp only [sackbutlaw05_PackRows.j0] at H
      by_cases c15 : x27_2 = true
      · subst c15
        have H1 : ((sackbutlaw05_awake.f kj2).bind fun t199 => (some t199)) = some r := by rw [if_pos rfl] at H; exact H
        clear H
        have H := H1
        clear H1
        replace H := Option.bind_eq_some_iff.mp H
        obtain ⟨t199, A160, H⟩ := H
        replace H : (some t199) = some r := H
        have A16 := Aside0.mk A160
        clear A160
        obtain rfl := Option.some.inj H
        go_wp2_with (first | ((with_reducible refine gate_callee (f := 8) rfl ?_); refine goesL_ (some 28) rfl rfl Try.func8 (by kernel_rfl) rfl #[] rfl (by (try simp only [List.map_toArray, List.map_cons, List.map_nil]); first | done | rfl | (simp only [List.length_drop, List.length_take]; rfl)) ?_; (with_reducible refine (sackbutlaw05_awake.calls kj2  t199 _ A16.out).mono ?_); rintro e w17 ⟨rfl, hb⟩; refine ⟨_, rfl, ?_⟩; have n0_ := Aside0.mk (blk_below (g := gb195) (o := .cells #[.int .i64 a0_0, .bool a0_1] 23 (0, 0)) (by (with_reducible repeat (first | refine blk_drewN ?_ _ | refine blk_drew ?_ | refine blk_alloc ?_ _)); exact BK195.out) hb); have n1_ := Aside0.mk (below_step (by repeat (first | (with_reducible first | exact HB.out | apply below_alloc | apply pw_below_drewN | apply below_drew1 | refine below_set ?_ GE195.out) | exact HB.out)) hb); clear BK195; clear HB; have BK195 := n0_; have HB := n1_; clear n0_ n1_; (try clear hb); (try clear hb2); (try clear hk); (try clear hi)))
        go_ret
        exact ⟨by first | rfl | (simp [errW_none, errW_some] <;> rfl) | (simp [*, errW_none, errW_some] <;> rfl), by repeat (first | (with_reducible first | exact HB.out | apply below_alloc | apply pw_below_drewN | apply below_drew1 | refine below_set ?_ GE195.out) | exact HB.out)⟩
      · replace c15 := Bool.eq_false_iff.mpr c15
        subst c15
        have H1 : ((pack_Pack.f kj2 a0_0 a0_1 l1).bind fun bt200 => (if 0 < (l1.length : Int) then (sackbutlaw05_PackRows.l0 kj2 l1 bt200.1 bt200.2 ([] : List Int) ((rd_L1 l1 0).length : Int) 0 a0_0 a0_1) else (none))) = some r := by rw [if_neg (show ¬ (false = true) by decide)] at H; exact H
        clear H
        have H := H1
        clear H1
        replace H := Option.bind_eq_some_iff.mp H
        obtain ⟨⟨t200, t203⟩, A180, H⟩ := H
        replace H : (if 0 < (l1.length : Int) then (sackbutlaw05_PackRows.l0 kj2 l1 t200 t203 ([] : List Int) ((rd_L1 l1 0).length : Int) 0 a0_0 a0_1) else (none)) = some r := H
        have A18 := Aside0.mk A180
        clear A180
        by_cases c19 : 0 < (l1.length : Int)
        · rw [if_pos c19] at H
          have c19b0 : decide (0 < (l1.length : Int)) = true := decide_eq_true c19
          have c19b1 : decide (0 < l1.length) = true := decide_eq_true (by omega)
          clear c19
          have H' := Aside0.mk H
          clear H
          have hcz20_0 : wc.cell? ⟨gb195, 0, none⟩ = some (.int .i64 a0_0) := (blk_cell BK195.out 0).trans rfl
          have hcz20_1 : wc.cell? ⟨gb195, 1, none⟩ = some (.bool a0_1) := (blk_cell BK195.out 1).trans rfl
          have hfz20_0 := blk_frozen BK195.out 0
          have hfz20_1 := blk_frozen BK195.out 1
          go_wp2_with (first | ((with_reducible refine gate_callee (f := 15) rfl ?_); refine goesL_ (some 32) rfl rfl Try.func15 (by kernel_rfl) rfl #[.agg #[.int .i64 a0_0, .bool a0_1], .slice A1 l1.length c1] rfl (by (try simp only [List.map_toArray, List.map_cons, List.map_nil]); first | done | rfl | (simp only [List.length_drop, List.length_take]; rfl)) ?_; (with_reducible refine (pack_Pack.calls kj2 a0_0 a0_1 _ _ l1 t200 t203 _ ?side1 ?side2 A18.out).mono ?_); (case side1 => repeat (first | exact (Kd.C_below HR1.out HB.out) | (with_reducible refine Kd.C_alloc ?_ _) | (with_reducible refine Kd.C_drewN ?_ _) | (with_reducible refine Kd.C_drew ?_))); (case side2 => exact HC1.out); rintro e w21 ⟨v201, rfl, ho0, hb⟩; refine ⟨_, rfl, ?_⟩; have n0_ := Aside0.mk (Kd.R_lower ho0 (below_size (by repeat (first | (with_reducible first | exact HB.out | apply below_alloc | apply pw_below_drewN | apply below_drew1 | refine below_set ?_ GE195.out) | exact HB.out)))); have n1_ := Aside0.mk (blk_below (g := gb195) (o := .cells #[.int .i64 a0_0, .bool a0_1] 23 (0, 0)) (by (with_reducible repeat (first | refine blk_drewN ?_ _ | refine blk_drew ?_ | refine blk_alloc ?_ _)); exact BK195.out) hb); have n2_ := Aside0.mk (below_step (by repeat (first | (with_reducible first | exact HB.out | apply below_alloc | apply pw_below_drewN | apply below_drew1 | refine below_set ?_ GE195.out) | exact HB.out)) hb); clear BK195; clear HB; have HO202 := n0_; have BK195 := n1_; have HB := n2_; clear n0_ n1_ n2_; (try clear hb); (try clear hb2); (try clear hk); (try clear hi); (try clear ho0); have p204 : 0 ≤ (0 : Int) := (by omega); have q204 : 0 < (l1.length : Int) := of_decide_eq_true (by first | (with_reducible assumption) | assumption); obtain ⟨ad204, A204_0, c204_0, e204, hx204_0, hl204_0, hi204_0⟩ := at_L1 HR1.out 0 p204 q204; cases e204; have qi204 : (0 < l1.length) = True := eq_true (by omega); (try rw [show ((0 : Int)).toNat = 0 from rfl] at hx204_0); (try rw [Addr.add_zero'] at hx204_0); replace hx204_0 := (HB.out.cell (World.block_lt_of_cell? w _ hx204_0)).trans hx204_0; have HR204_0 := Aside0.mk hi204_0; have HC204_0 := Aside0.mk hl204_0; clear hi204_0 hl204_0; replace p204 := eq_true p204; replace q204 := eq_true q204))
          go_loopg [7, 39] kj2 (fun kq v7 v39 w' => ∃ (x7_2 : List Int) (x39_2 : Int), v39 = .int .i64 x39_2 ∧ Aside0 (sackbutlaw05_PackRows.l0 kq l1 t200 t203 x7_2 ((rd_L1 l1 0).length : Int) x39_2 a0_0 a0_1 = some r) ∧ Aside0 (kq ≤ kj2) ∧ Aside0 (Kd.R (Kd.int .u8) 5 w' w.heap.size (fun k_ => some k_ ≠ (v7 : Value).ownBlock) v201 t200) ∧ Aside0 (Kd.R (Kd.int .u8) 5 w' w.heap.size (fun k_ => some k_ ≠ (v201 : Value).ownBlock) v7 x7_2) ∧ Aside0 (w'.heap[gb195]? = some (.cells #[.int .i64 a0_0, .bool a0_1] 23 (0, 0))) ∧ Aside0 (Below w.heap.size w w'))
          case atStart => exact ⟨(([] : List Int)), (0), (by first | rfl | (simp; done) | (simp [*]; done)), H', ⟨Nat.le_refl _⟩, ⟨by (with_reducible repeat (first | apply Kd.R_alloc | apply Kd.R_drewN | apply Kd.R_drew)); exact Kd.R_mono HO202.out (fun _ hk => (by simp [Value.ownBlock]))⟩, ⟨by first | exact Kd.R_nil _ _ _ _ _ | exact Kd.N_nil _ _ _ _ _ | exact Kd.V_nil _ _ _ _ _ | exact Kd.Q_nil _ _ _ _ _ | exact Kd.S_nil _ _ _ _ _⟩, ⟨by (with_reducible repeat (first | refine blk_drewN ?_ _ | refine blk_drew ?_ | refine blk_alloc ?_ _)); exact BK195.out⟩, ⟨by repeat (first | (with_reducible first | exact HB.out | apply below_alloc | apply pw_below_drewN | apply below_drew1 | refine below_set ?_ GE195.out) | exact HB.out)⟩⟩
          case round =>
            clear H'
            try clear c1
            try clear c2
            try clear p2
            try clear q2
            try clear hx2
            try clear qi2
            try clear c5
            try clear c6
            try clear c8
            try clear c15
            try clear c19
            try clear c19b0
            try clear c19b1
            try clear c20
            try clear p20
            try clear q20
            try clear hx20
            try clear qi20
            try clear hcz11_0
            try clear hcz11_1
            try clear hcz20_0
            try clear hcz20_1
            try clear hfz11_0
            try clear hfz11_1
            try clear hfz20_0
            try clear hfz20_1
            try clear hx204_0
            try clear p2
            try clear p204
            try clear q204
            obtain ⟨x7_2, x39_2, rfl, HA, HK2, HO_5, HO_7, BK195, HB⟩ := hrel
            cases gk with
            | zero => exact absurd HA.out (by simp [sackbutlaw05_PackRows.l0])
            | succ k2 =>
              have H := HA.out
              clear HA
              simp only [sackbutlaw05_PackRows.l0] at H
              by_cases c22 : x39_2 < ((rd_L1 l1 0).length : Int)
              · rw [if_pos c22] at H
                have c22b0 : decide (x39_2 < ((rd_L1 l1 0).length : Int)) = true := decide_eq_true c22
                clear c22
                replace H := Option.bind_eq_some_iff.mp H
                obtain ⟨t205, A230, H⟩ := H
                replace H : (if (t205.length : Int) = (l1.length : Int) then (sackbutlaw05_PackRows.l1 k2 l1 t200 t203 x7_2 x39_2 ([] : List (List Int)) ((rd_L1 l1 0).length : Int) x39_2 t205 (t205.length : Int) 0 a0_0 a0_1) else (some false)) = some r := H
                have A23 := Aside0.mk A230
                clear A230
                by_cases c24 : (t205.length : Int) = (l1.length : Int)
                · rw [if_pos c24] at H
                  have c24b0 : ((t205.length : Int) == (l1.length : Int)) = true := beq_iff_eq.mpr c24
                  have c24b1 : ((t205.length : Int) != (l1.length : Int)) = false := bne_eq_false_iff_eq.mpr c24
                  have c24b2 : (t205.length == l1.length) = true := by first | simpa using c24 | (simp at c24 ⊢; omega)
                  clear c24
                  have H' := Aside0.mk H
                  clear H
                  go_wp2_with (first | ((with_reducible refine gate_callee (f := 17) rfl ?_); refine goesL_ (some 44) rfl rfl Try.func17 (by kernel_rfl) rfl #[.slice (some ad204) l1.length c1, .int .i64 x39_2] rfl (by (try simp only [List.map_toArray, List.map_cons, List.map_nil]); first | done | rfl | (simp only [List.length_drop, List.length_take]; rfl)) ?_; (with_reducible refine (pack_Row.calls k2 _ _ l1 x39_2 t205 _ ?side1 ?side2 A23.out).mono ?_); (case side1 => repeat (first | exact (Kd.C_below HR1.out HB.out) | (with_reducible refine Kd.C_alloc ?_ _) | (with_reducible refine Kd.C_drewN ?_ _) | (with_reducible refine Kd.C_drew ?_))); (case side2 => exact HC1.out); rintro e w25 ⟨v206, rfl, ho0, hb⟩; refine ⟨_, rfl, ?_⟩; have n0_ := Aside0.mk (Kd.R_below (by (with_reducible repeat (first | apply Kd.R_alloc | apply Kd.R_drewN | apply Kd.R_drew)); exact HO_5.out) hb); have n1_ := Aside0.mk (Kd.R_below (by (with_reducible repeat (first | apply Kd.R_alloc | apply Kd.R_drewN | apply Kd.R_drew)); exact HO_7.out) hb); have n2_ := Aside0.mk (Kd.R_lower ho0 (below_size (by repeat (first | (with_reducible first | exact HB.out | apply below_alloc | apply pw_below_drewN | apply below_drew1 | refine below_set ?_ GE195.out) | exact HB.out)))); have n3_ := Aside0.mk (blk_below (g := gb195) (o := .cells #[.int .i64 a0_0, .bool a0_1] 23 (0, 0)) (by (with_reducible repeat (first | refine blk_drewN ?_ _ | refine blk_drew ?_ | refine blk_alloc ?_ _)); exact BK195.out) hb); have n4_ := Aside0.mk (below_step (by repeat (first | (with_reducible first | exact HB.out | apply below_alloc | apply pw_below_drewN | apply below_drew1 | refine below_set ?_ GE195.out) | exact HB.out)) hb); clear HO_5; clear HO_7; clear BK195; clear HB; have HO_5 := n0_; have HO_7 := n1_; have HO207 := n2_; have BK195 := n3_; have HB := n4_; clear n0_ n1_ n2_ n3_ n4_; (try clear hb); (try clear hb2); (try clear hk); (try clear hi); (try clear ho0); obtain ⟨Ao26, co26, eo26⟩ := Kd.R_slice HO207.out; subst eo26))
                  go_loopg [10, 52] k2 (fun kq v10 v52 w' => ∃ (x10_3 : List (List Int)) (x52_3 : Int), v52 = .int .i64 x52_3 ∧ Aside0 (sackbutlaw05_PackRows.l1 kq l1 t200 t203 x7_2 x39_2 x10_3 ((rd_L1 l1 0).length : Int) x39_2 t205 (t205.length : Int) x52_3 a0_0 a0_1 = some r) ∧ Aside0 (kq ≤ k2) ∧ Aside0 (Kd.R (Kd.int .u8) 5 w' w.heap.size (fun k_ => some k_ ≠ (u7 : Value).ownBlock) v201 t200) ∧ Aside0 (Kd.R (Kd.int .u8) 5 w' w.heap.size (fun k_ => some k_ ≠ (v201 : Value).ownBlock) u7 x7_2) ∧ Aside0 (Kd.S (Kd.slice 3 (Kd.int .i64)) 38 w' w.heap.size (fun k_ => some k_ ≠ ((.slice Ao26 t205.length co26) : Value).ownBlock) v10 x10_3) ∧ Aside0 (Kd.R (Kd.int .i64) 3 w' w.heap.size (fun _ => True) (.slice Ao26 t205.length co26) t205) ∧ Aside0 (w'.heap[gb195]? = some (.cells #[.int .i64 a0_0, .bool a0_1] 23 (0, 0))) ∧ Aside0 (Below w.heap.size w w'))
                  case atStart => exact ⟨(([] : List (List Int))), (0), (by first | rfl | (simp; done) | (simp [*]; done)), H', ⟨Nat.le_refl _⟩, ⟨by (with_reducible repeat (first | apply Kd.R_alloc | apply Kd.R_drewN | apply Kd.R_drew)); exact HO_5.out⟩, ⟨by (with_reducible repeat (first | apply Kd.R_alloc | apply Kd.R_drewN | apply Kd.R_drew)); exact HO_7.out⟩, ⟨by first | exact Kd.S_nil _ _ _ _ _ | exact Kd.N_nil _ _ _ _ _ | exact Kd.V_nil _ _ _ _ _ | exact Kd.Q_nil _ _ _ _ _ | exact Kd.R_nil _ _ _ _ _⟩, ⟨by (with_reducible repeat (first | apply Kd.R_alloc | apply Kd.R_drewN | apply Kd.R_drew)); exact HO207.out⟩, ⟨by (with_reducible repeat (first | refine blk_drewN ?_ _ | refine blk_drew ?_ | refine blk_alloc ?_ _)); exact BK195.out⟩, ⟨by repeat (first | (with_reducible first | exact HB.out | apply below_alloc | apply pw_below_drewN | apply below_drew1 | refine below_set ?_ GE195.out) | exact HB.out)⟩⟩
                  case round =>
                    clear H'
                    try clear c1
                    try clear c2
                    try clear p2
                    try clear q2
                    try clear hx2
                    try clear qi2
                    try clear c5
                    try clear c6
                    try clear c8
                    try clear c15
                    try clear c17
                    try clear c19
                    try clear c19b0
                    try clear c19b1
                    try clear c20
                    try clear p20
                    try clear q20
                    try clear hx20
                    try clear qi20
                    try clear c22
                    try clear c22b0
                    try clear c24
                    try clear c24b0
                    try clear c24b1
                    try clear c24b2
                    try clear hcz11_0
                    try clear hcz11_1
                    try clear hcz20_0
                    try clear hcz20_1
                    try clear hfz11_0
                    try clear hfz11_1
                    try clear hfz20_0
                    try clear hfz20_1
                    try clear hx204_0
                    try clear p2
                    try clear p20
                    try clear p204
                    try clear q2
                    try clear q20
                    try clear q204
                    obtain ⟨x10_3, x52_3, rfl, HA, HK3, HO_5, HO_7, HO_10, HO_50, BK195, HB⟩ := hrel
                    cases gk with
                    | zero => exact absurd HA.out (by simp [sackbutlaw05_PackRows.l1])
                    | succ k3 =>
                      have H := HA.out
                      clear HA
                      simp only [sackbutlaw05_PackRows.l1] at H
                      by_cases c27 : x52_3 < (t205.length : Int)
                      · rw [if_pos c27] at H
                        have c27b0 : decide (x52_3 < (t205.length : Int)) = true := decide_eq_true c27
                        clear c27
                        by_cases c28 : 0 ≤ x52_3
                        · rw [if_pos c28] at H
                          have c28b0 : decide (0 ≤ x52_3) = true := decide_eq_true c28
                          clear c28
                          by_cases c29 : x52_3 < (t205.length : Int)
                          · rw [if_pos c29] at H
                            have c29b0 : decide (x52_3 < (t205.length : Int)) = true := decide_eq_true c29
                            clear c29
                            by_cases c30 : x52_3 < (l1.length : Int)
                            · rw [if_pos c30] at H
                              have c30b0 : decide (x52_3 < (l1.length : Int)) = true := decide_eq_true c30
                              clear c30
                              by_cases c31 : 0 ≤ x39_2
                              · rw [if_pos c31] at H
                                have c31b0 : decide (0 ≤ x39_2) = true := decide_eq_true c31
                                clear c31
                                by_cases c32 : x39_2 < ((rd_L1 l1 x52_3).length : Int)
                                · rw [if_pos c32] at H
                                  have c32b0 : decide (x39_2 < ((rd_L1 l1 x52_3).length : Int)) = true := decide_eq_true c32
                                  clear c32
                                  by_cases c33 : (rd t205 x52_3) = (rd (rd_L1 l1 x52_3) x39_2)
                                  · rw [if_pos c33] at H
                                    have c33b0 : ((rd t205 x52_3) == (rd (rd_L1 l1 x52_3) x39_2)) = true := beq_iff_eq.mpr c33
                                    have c33b1 : ((rd t205 x52_3) != (rd (rd_L1 l1 x52_3) x39_2)) = false := bne_eq_false_iff_eq.mpr c33
                                    clear c33
                                    obtain ⟨y211, hy211⟩ : ∃ y_ : List Int, y_ = (([rd t205 x52_3] : List Int)) := ⟨_, rfl⟩
                                    replace H : (if x10_3.length < 5864062014805 then (sackbutlaw05_PackRows.l1 k3 l1 t200 t203 x7_2 x39_2 (x10_3 ++ [y211]) ((rd_L1 l1 0).length : Int) x39_2 t205 (t205.length : Int) (wrap64 (x52_3 + 1)) a0_0 a0_1) else (none)) = some r := by first | (rw [hy211]; with_reducible exact H) | (have H2_ := (Option.bind_some _ _).symm.trans H; rw [hy211]; with_reducible exact H2_) | (have H2_ := (Option.bind_some _ _).symm.trans H; with_reducible exact H2_) | with_reducible exact H | (rw [hy211]; exact H) | exact H
                                    have Ny211 := Aside0.mk hy211
                                    clear hy211
                                    by_cases c34 : x10_3.length < 5864062014805
                                    · rw [if_pos c34] at H
                                      have LMc34 := Aside0.mk c34
                                      clear c34
                                      obtain ⟨y214, hy214⟩ : ∃ y_ : List (List Int), y_ = (x10_3 ++ [y211]) := ⟨_, rfl⟩
                                      replace H : (sackbutlaw05_PackRows.l1 k3 l1 t200 t203 x7_2 x39_2 y214 ((rd_L1 l1 0).length : Int) x39_2 t205 (t205.length : Int) (wrap64 (x52_3 + 1)) a0_0 a0_1) = some r := by first | (rw [hy214]; with_reducible exact H) | (have H2_ := (Option.bind_some _ _).symm.trans H; rw [hy214]; with_reducible exact H2_) | (have H2_ := (Option.bind_some _ _).symm.trans H; with_reducible exact H2_) | with_reducible exact H | (rw [hy214]; exact H) | exact H
                                      have Ny214 := Aside0.mk hy214
                                      clear hy214
                                      have H' := Aside0.mk H
                                      clear H
                                      have p208 : 0 ≤ (x52_3 : Int) := of_decide_eq_true (by first | (with_reducible assumption) | assumption)
                                      have q208 : x52_3 < (t205.length : Int) := of_decide_eq_true (by first | (with_reducible assumption) | assumption)
                                      obtain ⟨ad208, e208, hx208_0⟩ := Kd.at_int (Kd.R_reads' HO_50.out).2.2 x52_3 p208 q208
                                      cases e208
                                      replace p208 := eq_true p208
                                      replace q208 := eq_true q208
                                      have p209 : 0 ≤ (x52_3 : Int) := of_decide_eq_true (by first | (with_reducible assumption) | assumption)
                                      have q209 : x52_3 < (l1.length : Int) := of_decide_eq_true (by first | (with_reducible assumption) | assumption)
                                      obtain ⟨ad209, A209_0, c209_0, e209, hx209_0, hl209_0, hi209_0⟩ := at_L1 HR1.out x52_3 p209 q209
                                      obtain rfl : ad204 = ad209 := (by injection e209)
                                      replace hx209_0 := (HB.out.cell (World.block_lt_of_cell? w _ hx209_0)).trans hx209_0
                                      have HR209_0 := Aside0.mk hi209_0
                                      have HC209_0 := Aside0.mk hl209_0
                                      clear hi209_0 hl209_0
                                      replace p209 := eq_true p209
                                      replace q209 := eq_true q209
                                      have p210 : 0 ≤ (x39_2 : Int) := of_decide_eq_true (by first | (with_reducible assumption) | assumption)
                                      have q210 : x39_2 < ((rd_L1 l1 x52_3).length : Int) := of_decide_eq_true (by first | (with_reducible assumption) | assumption)
                                      obtain ⟨ad210, e210, hx210_0⟩ := Kd.at_int HR209_0.out x39_2 p210 q210
                                      cases e210
                                      replace hx210_0 := (HB.out.cell (World.block_lt_of_cell? w _ hx210_0)).trans hx210_0
                                      replace p210 := eq_true p210
                                      replace q210 := eq_true q210
                                      go_wp2_with (first | ((with_reducible refine gate_dst (N := 68) rfl ?_); refine Kd.R_lit (Kd.int .i64) _ 3 ?hg (N := 68) ?hd (xs := ([rd t205 x52_3] : List Int)) (inner := [.int .i64 (rd t205 x52_3)]) (ok := fun _ => True) (okp := fun _ => True) ?hr ?hp (fun _ hk => hk) trivial (Below.refl _ _) (Nat.le_refl _) (by simp) ?_; (case hd => rfl); (case hg => rfl); (case hr => first | (go_simp; done) | (go_simp; rfl)); (case hp => exact (Reps.one (show Kd.M (Kd.int .i64) _ _ _ (rd t205 x52_3) [.int .i64 (rd t205 x52_3)] from rfl) (Reps.none _ _))); intro v212 w35 ho36 hb hg_ hnew_; clear hg_ hnew_; (first | rw [← Ny211.out] at ho36 | (simp only [Int.reduceToNat] at ho36; rw [← Ny211.out] at ho36)); have n0_ := Aside0.mk (Kd.R_below (by (with_reducible repeat (first | apply Kd.R_alloc | apply Kd.R_drewN | apply Kd.R_drew)); exact HO_5.out) hb); have n1_ := Aside0.mk (Kd.R_below (by (with_reducible repeat (first | apply Kd.R_alloc | apply Kd.R_drewN | apply Kd.R_drew)); exact HO_7.out) hb); have n2_ := Aside0.mk (Kd.S_elder' (by (with_reducible repeat (first | apply Kd.S_alloc | apply Kd.S_drewN | apply Kd.S_drew)); exact HO_10.out) (Kd.R_base ho36) hb); have n3_ := Aside0.mk (Kd.R_elder' (by (with_reducible repeat (first | apply Kd.R_alloc | apply Kd.R_drewN | apply Kd.R_drew)); exact HO_50.out) (Kd.R_base ho36) hb); have n4_ := Aside0.mk (Kd.R_lower (Kd.R_new' ho36 (Kd.R_lt (by (with_reducible repeat (first | apply Kd.R_alloc | apply Kd.R_drewN | apply Kd.R_drew)); exact HO_50.out))) (below_size (by repeat (first | (with_reducible first | exact HB.out | apply below_alloc | apply pw_below_drewN | apply below_drew1 | refine below_set ?_ GE195.out) | exact HB.out)))); have n5_ := Aside0.mk (blk_below (g := gb195) (o := .cells #[.int .i64 a0_0, .bool a0_1] 23 (0, 0)) (by (with_reducible repeat (first | refine blk_drewN ?_ _ | refine blk_drew ?_ | refine blk_alloc ?_ _)); exact BK195.out) hb); have n6_ := Aside0.mk (below_step (by repeat (first | (with_reducible first | exact HB.out | apply below_alloc | apply pw_below_drewN | apply below_drew1 | refine below_set ?_ GE195.out) | exact HB.out)) hb); clear HO_5; clear HO_7; clear HO_10; clear HO_50; clear BK195; clear HB; have HO_5 := n0_; have HO_7 := n1_; have HO_10 := n2_; have HO_50 := n3_; have HO213 := n4_; have BK195 := n5_; have HB := n6_; clear n0_ n1_ n2_ n3_ n4_ n5_ n6_; clear hb ho36; obtain ⟨Ao38, co38, eo38⟩ := Kd.R_slice HO213.out; subst eo38) | ((with_reducible refine gate_builtin (b := .append) (xs := #[.tmp 66, .tmp 69]) rfl ?_); at_builtin; refine Kd.S_append (Kd.slice 3 (Kd.int .i64)) (w0 := w) w.heap.size rfl (.tmp 66) (.tmp 69) 30 38 (.slice none 0 0) 24 rfl Try.underlying30 info38 rfl (by decide) (by omega) u10 x10_3 y211 [.slice Ao38 y211.length co38] (fun k_ => some k_ ≠ (.slice (some ad208) t205.length co26 : Value).ownBlock) (fun k_ => some k_ = (.slice Ao38 y211.length co38 : Value).ownBlock) rfl rfl ?aP (fun k_ hk_ => ((Kd.R_mono (ok' := fun k_ => ((fun k_ => some k_ ≠ (.slice (some ad208) t205.length co26 : Value).ownBlock)) k_ ∧ some k_ ≠ (u10 : Value).ownBlock) (Kd.R_apart' (HO213.out) (Kd.S_typed HO_10.out) (by decide)) (fun k_ hk => ⟨hk.1.2, hk.2⟩))).1 k_ hk_.symm) ?aF ?aO ?aB ?aS ?aL ?_; (case aP => exact Kd.M_row (Kd.R_mono (Kd.R_tight rfl (Kd.R_mono (ok' := fun k_ => ((fun k_ => some k_ ≠ (.slice (some ad208) t205.length co26 : Value).ownBlock)) k_ ∧ some k_ ≠ (u10 : Value).ownBlock) (Kd.R_apart' (HO213.out) (Kd.S_typed HO_10.out) (by decide)) (fun k_ hk => ⟨hk.1.2, hk.2⟩))) (fun _ h_ => h_))); (case aB => exact (by repeat (first | (with_reducible first | exact HB.out | apply below_alloc | apply pw_below_drewN | apply below_drew1 | refine below_set ?_ GE195.out) | exact HB.out))); (case aF => exact (fun k_ hk => Kd.fresh' (Kd.R_lt (by (with_reducible repeat (first | apply Kd.R_alloc | apply Kd.R_drewN | apply Kd.R_drew)); exact HO_50.out)) k_ hk)); (case aO => exact (by (with_reducible repeat (first | apply Kd.S_alloc | apply Kd.S_drewN | apply Kd.S_drew)); exact Kd.S_mono HO_10.out (fun k_ hk => ⟨hk.1, fun e_ => hk.2 e_⟩))); (case aS => exact (below_size (by repeat (first | (with_reducible first | exact HB.out | apply below_alloc | apply pw_below_drewN | apply below_drew1 | refine below_set ?_ GE195.out) | exact HB.out)))); (case aL => have := LMc34.out; omega); intro v215 w37 ho hb hg hat; rw [← Ny214.out] at ho; have n0_ := Aside0.mk (Kd.R_over' (by (with_reducible repeat (first | apply Kd.R_alloc | apply Kd.R_drewN | apply Kd.R_drew)); exact HO_5.out) (Kd.S_typed (by (with_reducible repeat (first | apply Kd.S_alloc | apply Kd.S_drewN | apply Kd.S_drew)); exact HO_10.out)) (by decide) hg); have n1_ := Aside0.mk (Kd.R_over' (by (with_reducible repeat (first | apply Kd.R_alloc | apply Kd.R_drewN | apply Kd.R_drew)); exact HO_7.out) (Kd.S_typed (by (with_reducible repeat (first | apply Kd.S_alloc | apply Kd.S_drewN | apply Kd.S_drew)); exact HO_10.out)) (by decide) hg); have n2_ := Aside0.mk (Kd.R_over' (by (with_reducible repeat (first | apply Kd.R_alloc | apply Kd.R_drewN | apply Kd.R_drew)); exact HO_50.out) (Kd.S_typed (by (with_reducible repeat (first | apply Kd.S_alloc | apply Kd.S_drewN | apply Kd.S_drew)); exact HO_10.out)) (by decide) hg); have n3_ := Aside0.mk (blk_grown (g := gb195) (o := .cells #[.int .i64 a0_0, .bool a0_1] 23 (0, 0)) (by (with_reducible repeat (first | refine blk_drewN ?_ _ | refine blk_drew ?_ | refine blk_alloc ?_ _)); exact BK195.out) hg (Kd.S_ne HO_10.out BK195.out (by decide))); have n4_ := Aside0.mk (hb); have n5_ := Aside0.mk (ho); clear HO_5; clear HO_7; clear HO_50; clear BK195; clear HB; clear HO_10; clear HO213; have HO_5 := n0_; have HO_7 := n1_; have HO_50 := n2_; have BK195 := n3_; have HB := n4_; have HO216 := n5_; clear n0_ n1_ n2_ n3_ n4_ n5_; clear ho hb hg hat))
                                      go_roundg k3
                                      case measure => have := HJ2.out; have := HK2.out; have := HK3.out; omega
                                      case rel => exact ⟨(y214), (wrap64 (x52_3 + 1)), (by first | rfl | (simp; done) | (simp [*]; done)), H', ⟨by have := HJ2.out; have := HK2.out; have := HK3.out; omega⟩, ⟨by (with_reducible repeat (first | apply Kd.R_alloc | apply Kd.R_drewN | apply Kd.R_drew)); exact HO_5.out⟩, ⟨by (with_reducible repeat (first | apply Kd.R_alloc | apply Kd.R_drewN | apply Kd.R_drew)); exact HO_7.out⟩, ⟨by (with_reducible repeat (first | apply Kd.S_alloc | apply Kd.S_drewN | apply Kd.S_drew)); exact HO216.out⟩, ⟨by (with_reducible repeat (first | apply Kd.R_alloc | apply Kd.R_drewN | apply Kd.R_drew)); exact Kd.R_mono HO_50.out (fun _ hk => trivial)⟩, ⟨by (with_reducible repeat (first | refine blk_drewN ?_ _ | refine blk_drew ?_ | refine blk_alloc ?_ _)); exact BK195.out⟩, ⟨by repeat (first | (with_reducible first | exact HB.out | apply below_alloc | apply pw_below_drewN | apply below_drew1 | refine below_set ?_ GE195.out) | exact HB.out)⟩⟩
                                    · rw [if_neg c34] at H
                                      exact absurd H (by simp)
                                  · rw [if_neg c33] at H
                                    have c33b0 : ((rd t205 x52_3) == (rd (rd_L1 l1 x52_3) x39_2)) = false := beq_eq_false_iff_ne.mpr c33
                                    have c33b1 : ((rd t205 x52_3) != (rd (rd_L1 l1 x52_3) x39_2)) = true := bne_iff_ne.mpr c33
                                    obtain rfl := Option.some.inj H
                                    have p208 : 0 ≤ (x52_3 : Int) := of_decide_eq_true (by first | (with_reducible assumption) | assumption)
                                    have q208 : x52_3 < (t205.length : Int) := of_decide_eq_true (by first | (with_reducible assumption) | assumption)
                                    obtain ⟨ad208, e208, hx208_0⟩ := Kd.at_int (Kd.R_reads' HO_50.out).2.2 x52_3 p208 q208
                                    cases e208
                                    replace p208 := eq_true p208
                                    replace q208 := eq_true q208
                                    have p209 : 0 ≤ (x52_3 : Int) := of_decide_eq_true (by first | (with_reducible assumption) | assumption)
                                    have q209 : x52_3 < (l1.length : Int) := of_decide_eq_true (by first | (with_reducible assumption) | assumption)
                                    obtain ⟨ad209, A209_0, c209_0, e209, hx209_0, hl209_0, hi209_0⟩ := at_L1 HR1.out x52_3 p209 q209
                                    obtain rfl : ad204 = ad209 := (by injection e209)
                                    replace hx209_0 := (HB.out.cell (World.block_lt_of_cell? w _ hx209_0)).trans hx209_0
                                    have HR209_0 := Aside0.mk hi209_0
                                    have HC209_0 := Aside0.mk hl209_0
                                    clear hi209_0 hl209_0
                                    replace p209 := eq_true p209
                                    replace q209 := eq_true q209
                                    have p210 : 0 ≤ (x39_2 : Int) := of_decide_eq_true (by first | (with_reducible assumption) | assumption)
                                    have q210 : x39_2 < ((rd_L1 l1 x52_3).length : Int) := of_decide_eq_true (by first | (with_reducible assumption) | assumption)
                                    obtain ⟨ad210, e210, hx210_0⟩ := Kd.at_int HR209_0.out x39_2 p210 q210
                                    cases e210
                                    replace hx210_0 := (HB.out.cell (World.block_lt_of_cell? w _ hx210_0)).trans hx210_0
                                    replace p210 := eq_true p210
                                    replace q210 := eq_true q210
                                    go_wp2
                                    go_ret
                                    exact ⟨by first | rfl | (simp [errW_none, errW_some] <;> rfl) | (simp [*, errW_none, errW_some] <;> rfl), by repeat (first | (with_reducible first | exact HB.out | apply below_alloc | apply pw_below_drewN | apply below_drew1 | refine below_set ?_ GE195.out) | exact HB.out)⟩
                                · rw [if_neg c32] at H
                                  exact absurd H (by simp)
                              · rw [if_neg c31] at H
                                exact absurd H (by simp)
                            · rw [if_neg c30] at H
                              exact absurd H (by simp)
                          · rw [if_neg c29] at H
                            exact absurd H (by simp)
                        · rw [if_neg c28] at H
                          exact absurd H (by simp)
                      · rw [if_neg c27] at H
                        have c27b0 : decide (x52_3 < (t205.length : Int)) = false := decide_eq_false c27
                        clear c27
                        replace H := Option.bind_eq_some_iff.mp H
                        obtain ⟨⟨t217, t220⟩, A390, H⟩ := H
                        replace H : (if t220 = 0 then (if x7_2.length + t217.length < 140737488355328 then (sackbutlaw05_PackRows.l0 k3 l1 t200 t203 (x7_2 ++ t217) ((rd_L1 l1 0).length : Int) (wrap64 (x39_2 + 1)) a0_0 a0_1) else (none)) else (some false)) = some r := H
                        have A39 := Aside0.mk A390
                        clear A390
                        by_cases c40 : t220 = 0
                        · rw [if_pos c40] at H
                          have c40b0 : (t220 == 0) = true := beq_iff_eq.mpr c40
                          have c40b1 : (t220 != 0) = false := bne_eq_false_iff_eq.mpr c40
                          clear c40
                          by_cases c41 : x7_2.length + t217.length < 140737488355328
                          · rw [if_pos c41] at H
                            have LMc41 := Aside0.mk c41
                            clear c41
                            obtain ⟨y221, hy221⟩ : ∃ y_ : List Int, y_ = (x7_2 ++ t217) := ⟨_, rfl⟩
                            replace H : (sackbutlaw05_PackRows.l0 k3 l1 t200 t203 y221 ((rd_L1 l1 0).length : Int) (wrap64 (x39_2 + 1)) a0_0 a0_1) = some r := by first | (rw [hy221]; with_reducible exact H) | (have H2_ := (Option.bind_some _ _).symm.trans H; rw [hy221]; with_reducible exact H2_) | (have H2_ := (Option.bind_some _ _).symm.trans H; with_reducible exact H2_) | with_reducible exact H | (rw [hy221]; exact H) | exact H
                            have Ny221 := Aside0.mk hy221
                            clear hy221
                            have H' := Aside0.mk H
                            clear H
                            have hcz42_0 : wr.cell? ⟨gb195, 0, none⟩ = some (.int .i64 a0_0) := (blk_cell BK195.out 0).trans rfl
                            have hcz42_1 : wr.cell? ⟨gb195, 1, none⟩ = some (.bool a0_1) := (blk_cell BK195.out 1).trans rfl
                            have hfz42_0 := blk_frozen BK195.out 0
                            have hfz42_1 := blk_frozen BK195.out 1
                            obtain ⟨Ao43, co43, eo43⟩ := Kd.S_slice HO_10.out
                            subst eo43
                            go_wp2_with (first | ((with_reducible refine gate_callee (f := 15) rfl ?_); refine goesL_ (some 75) rfl rfl Try.func15 (by kernel_rfl) rfl #[.agg #[.int .i64 a0_0, .bool a0_1], .slice Ao43 x10_3.length co43] rfl (by (try simp only [List.map_toArray, List.map_cons, List.map_nil]); first | done | rfl | (simp only [List.length_drop, List.length_take]; rfl)) ?_; (with_reducible refine (pack_Pack.calls k3 a0_0 a0_1 _ _ x10_3 t217 t220 _ ?side1 ?side2 A39.out).mono ?_); (case side1 => repeat (first | exact (Kd.S_reads' HO_10.out).2.2 | (with_reducible refine Kd.C_alloc ?_ _) | (with_reducible refine Kd.C_drewN ?_ _) | (with_reducible refine Kd.C_drew ?_))); (case side2 => exact (Kd.S_reads' HO_10.out).2.1); rintro e w44 ⟨v218, rfl, ho0, hb⟩; refine ⟨_, rfl, ?_⟩; have n0_ := Aside0.mk (Kd.R_elder' (by (with_reducible repeat (first | apply Kd.R_alloc | apply Kd.R_drewN | apply Kd.R_drew)); exact HO_5.out) (Kd.R_base ho0) hb); have n1_ := Aside0.mk (Kd.R_elder' (by (with_reducible repeat (first | apply Kd.R_alloc | apply Kd.R_drewN | apply Kd.R_drew)); exact HO_7.out) (Kd.R_base ho0) hb); have n2_ := Aside0.mk (Kd.S_below (by (with_reducible repeat (first | apply Kd.S_alloc | apply Kd.S_drewN | apply Kd.S_drew)); exact HO_10.out) hb); have n3_ := Aside0.mk (Kd.R_below (by (with_reducible repeat (first | apply Kd.R_alloc | apply Kd.R_drewN | apply Kd.R_drew)); exact HO_50.out) hb); have n4_ := Aside0.mk (Kd.R_lower (Kd.R_new' (Kd.R_new' ho0 (Kd.R_lt (by (with_reducible repeat (first | apply Kd.R_alloc | apply Kd.R_drewN | apply Kd.R_drew)); exact HO_5.out))) (Kd.R_lt (by (with_reducible repeat (first | apply Kd.R_alloc | apply Kd.R_drewN | apply Kd.R_drew)); exact HO_7.out))) (below_size (by repeat (first | (with_reducible first | exact HB.out | apply below_alloc | apply pw_below_drewN | apply below_drew1 | refine below_set ?_ GE195.out) | exact HB.out)))); have n5_ := Aside0.mk (blk_below (g := gb195) (o := .cells #[.int .i64 a0_0, .bool a0_1] 23 (0, 0)) (by (with_reducible repeat (first | refine blk_drewN ?_ _ | refine blk_drew ?_ | refine blk_alloc ?_ _)); exact BK195.out) hb); have n6_ := Aside0.mk (below_step (by repeat (first | (with_reducible first | exact HB.out | apply below_alloc | apply pw_below_drewN | apply below_drew1 | refine below_set ?_ GE195.out) | exact HB.out)) hb); clear HO_5; clear HO_7; clear HO_10; clear HO_50; clear BK195; clear HB; have HO_5 := n0_; have HO_7 := n1_; have HO_10 := n2_; have HO_50 := n3_; have HO219 := n4_; have BK195 := n5_; have HB := n6_; clear n0_ n1_ n2_ n3_ n4_ n5_ n6_; (try clear hb); (try clear hb2); (try clear hk); (try clear hi); (try clear ho0); obtain ⟨Ao46, co46, eo46⟩ := Kd.R_slice HO219.out; subst eo46) | ((with_reducible refine gate_builtin (b := .append) (xs := #[.tmp 80, .tmp 81]) rfl ?_); at_builtin; refine Kd.R_append_rows (Kd.int .u8) (w0 := w) w.heap.size rfl (.tmp 80) (.tmp 81) 33 5 (.int .u8 0) 1 rfl Try.underlying33 info5 rfl (by decide) (by omega) u7 x7_2 t217 _ _ _ (fun k_ => some k_ ≠ (v201 : Value).ownBlock ∧ some k_ ≠ (.slice Ao46 t217.length co46 : Value).ownBlock) (fun _ => False) rfl rfl ?aO ?aR (fun _ _ h => h) (fun _ h => h.elim) ?aF ?aB ?aS ?aL ?_; (case aR => repeat (first | exact (Kd.R_reads' HO219.out).2.2 | (with_reducible refine Kd.C_alloc ?_ _) | (with_reducible refine Kd.C_drewN ?_ _) | (with_reducible refine Kd.C_drew ?_))); (case aB => exact (by repeat (first | (with_reducible first | exact HB.out | apply below_alloc | apply pw_below_drewN | apply below_drew1 | refine below_set ?_ GE195.out) | exact HB.out))); (case aF => exact (fun k_ hk => ⟨Kd.fresh' (Kd.R_lt (by (with_reducible repeat (first | apply Kd.R_alloc | apply Kd.R_drewN | apply Kd.R_drew)); exact HO_5.out)) k_ hk, Kd.fresh' (Kd.R_lt (by (with_reducible repeat (first | apply Kd.R_alloc | apply Kd.R_drewN | apply Kd.R_drew)); exact HO219.out)) k_ hk⟩)); (case aO => exact (by (with_reducible repeat (first | apply Kd.R_alloc | apply Kd.R_drewN | apply Kd.R_drew)); exact HO_7.out)); (case aS => exact (below_size (by repeat (first | (with_reducible first | exact HB.out | apply below_alloc | apply pw_below_drewN | apply below_drew1 | refine below_set ?_ GE195.out) | exact HB.out)))); (case aL => have := LMc41.out; omega); intro v222 w45 ho hb hg hat; rw [← Ny221.out] at ho; have n0_ := Aside0.mk (Kd.R_after (ok := (fun k_ => some k_ ≠ (.slice Ao46 t217.length co46 : Value).ownBlock)) (by (with_reducible repeat (first | apply Kd.R_alloc | apply Kd.R_drewN | apply Kd.R_drew)); exact Kd.R_mono HO_5.out (fun _ hk => ⟨hk.2, hk.1⟩)) hg hat); have n1_ := Aside0.mk (Kd.S_over' (by (with_reducible repeat (first | apply Kd.S_alloc | apply Kd.S_drewN | apply Kd.S_drew)); exact HO_10.out) (Kd.R_typed (by (with_reducible repeat (first | apply Kd.R_alloc | apply Kd.R_drewN | apply Kd.R_drew)); exact HO_7.out)) (by decide) hg); have n2_ := Aside0.mk (Kd.R_over' (by (with_reducible repeat (first | apply Kd.R_alloc | apply Kd.R_drewN | apply Kd.R_drew)); exact HO_50.out) (Kd.R_typed (by (with_reducible repeat (first | apply Kd.R_alloc | apply Kd.R_drewN | apply Kd.R_drew)); exact HO_7.out)) (by decide) hg); have n3_ := Aside0.mk (blk_grown (g := gb195) (o := .cells #[.int .i64 a0_0, .bool a0_1] 23 (0, 0)) (by (with_reducible repeat (first | refine blk_drewN ?_ _ | refine blk_drew ?_ | refine blk_alloc ?_ _)); exact BK195.out) hg (Kd.R_ne HO_7.out BK195.out (by decide))); have n4_ := Aside0.mk (Kd.R_after (ok := (fun k_ => some k_ ≠ (v201 : Value).ownBlock)) (by (with_reducible repeat (first | apply Kd.R_alloc | apply Kd.R_drewN | apply Kd.R_drew)); exact Kd.R_mono HO219.out (fun _ hk => ⟨hk.1.2, hk.2⟩)) hg hat); have n5_ := Aside0.mk (hb); have n6_ := Aside0.mk (ho); clear HO_5; clear HO_10; clear HO_50; clear BK195; clear HO219; clear HB; clear HO_7; have HO_5 := n0_; have HO_10 := n1_; have HO_50 := n2_; have BK195 := n3_; have HO219 := n4_; have HB := n5_; have HO223 := n6_; clear n0_ n1_ n2_ n3_ n4_ n5_ n6_; clear ho hb hg hat))
                            go_roundg k3
                            case measure => have := HJ2.out; have := HK2.out; have := HK3.out; omega
                            case rel => exact ⟨(y221), (wrap64 (x39_2 + 1)), (by first | rfl | (simp; done) | (simp [*]; done)), H', ⟨by have := HJ2.out; have := HK2.out; have := HK3.out; omega⟩, ⟨by (with_reducible repeat (first | apply Kd.R_alloc | apply Kd.R_drewN | apply Kd.R_drew)); exact Kd.R_mono HO_5.out (fun _ hk => hk.2)⟩, ⟨by (with_reducible repeat (first | apply Kd.R_alloc | apply Kd.R_drewN | apply Kd.R_drew)); exact Kd.R_mono HO223.out (fun _ hk => hk.1)⟩, ⟨by (with_reducible repeat (first | refine blk_drewN ?_ _ | refine blk_drew ?_ | refine blk_alloc ?_ _)); exact BK195.out⟩, ⟨by repeat (first | (with_reducible first | exact HB.out | apply below_alloc | apply pw_below_drewN | apply below_drew1 | refine below_set ?_ GE195.out) | exact HB.out)⟩⟩
                          · rw [if_neg c41] at H
                            exact absurd H (by simp)
                        · rw [if_neg c40] at H
                          have c40b0 : (t220 == 0) = false := beq_eq_false_iff_ne.mpr c40
                          have c40b1 : (t220 != 0) = true := bne_iff_ne.mpr c40
                          obtain rfl := Option.some.inj H
                          have hcz47_0 : wr.cell? ⟨gb195, 0, none⟩ = some (.int .i64 a0_0) := (blk_cell BK195.out 0).trans rfl
                          have hcz47_1 : wr.cell? ⟨gb195, 1, none⟩ = some (.bool a0_1) := (blk_cell BK195.out 1).trans rfl
                          have hfz47_0 := blk_frozen BK195.out 0
                          have hfz47_1 := blk_frozen BK195.out 1
                          obtain ⟨Ao48, co48, eo48⟩ := Kd.S_slice HO_10.out
                          subst eo48
                          go_wp2_with (first | ((with_reducible refine gate_callee (f := 15) rfl ?_); refine goesL_ (some 75) rfl rfl Try.func15 (by kernel_rfl) rfl #[.agg #[.int .i64 a0_0, .bool a0_1], .slice Ao48 x10_3.length co48] rfl (by (try simp only [List.map_toArray, List.map_cons, List.map_nil]); first | done | rfl | (simp only [List.length_drop, List.length_take]; rfl)) ?_; (with_reducible refine (pack_Pack.calls k3 a0_0 a0_1 _ _ x10_3 t217 t220 _ ?side1 ?side2 A39.out).mono ?_); (case side1 => repeat (first | exact (Kd.S_reads' HO_10.out).2.2 | (with_reducible refine Kd.C_alloc ?_ _) | (with_reducible refine Kd.C_drewN ?_ _) | (with_reducible refine Kd.C_drew ?_))); (case side2 => exact (Kd.S_reads' HO_10.out).2.1); rintro e w49 ⟨v218, rfl, ho0, hb⟩; refine ⟨_, rfl, ?_⟩; have n0_ := Aside0.mk (Kd.R_elder' (by (with_reducible repeat (first | apply Kd.R_alloc | apply Kd.R_drewN | apply Kd.R_drew)); exact HO_5.out) (Kd.R_base ho0) hb); have n1_ := Aside0.mk (Kd.R_elder' (by (with_reducible repeat (first | apply Kd.R_alloc | apply Kd.R_drewN | apply Kd.R_drew)); exact HO_7.out) (Kd.R_base ho0) hb); have n2_ := Aside0.mk (Kd.S_below (by (with_reducible repeat (first | apply Kd.S_alloc | apply Kd.S_drewN | apply Kd.S_drew)); exact HO_10.out) hb); have n3_ := Aside0.mk (Kd.R_below (by (with_reducible repeat (first | apply Kd.R_alloc | apply Kd.R_drewN | apply Kd.R_drew)); exact HO_50.out) hb); have n4_ := Aside0.mk (Kd.R_lower (Kd.R_new' (Kd.R_new' ho0 (Kd.R_lt (by (with_reducible repeat (first | apply Kd.R_alloc | apply Kd.R_drewN | apply Kd.R_drew)); exact HO_5.out))) (Kd.R_lt (by (with_reducible repeat (first | apply Kd.R_alloc | apply Kd.R_drewN | apply Kd.R_drew)); exact HO_7.out))) (below_size (by repeat (first | (with_reducible first | exact HB.out | apply below_alloc | apply pw_below_drewN | apply below_drew1 | refine below_set ?_ GE195.out) | exact HB.out)))); have n5_ := Aside0.mk (blk_below (g := gb195) (o := .cells #[.int .i64 a0_0, .bool a0_1] 23 (0, 0)) (by (with_reducible repeat (first | refine blk_drewN ?_ _ | refine blk_drew ?_ | refine blk_alloc ?_ _)); exact BK195.out) hb); have n6_ := Aside0.mk (below_step (by repeat (first | (with_reducible first | exact HB.out | apply below_alloc | apply pw_below_drewN | apply below_drew1 | refine below_set ?_ GE195.out) | exact HB.out)) hb); clear HO_5; clear HO_7; clear HO_10; clear HO_50; clear BK195; clear HB; have HO_5 := n0_; have HO_7 := n1_; have HO_10 := n2_; have HO_50 := n3_; have HO219 := n4_; have BK195 := n5_; have HB := n6_; clear n0_ n1_ n2_ n3_ n4_ n5_ n6_; (try clear hb); (try clear hb2); (try clear hk); (try clear hi); (try clear ho0)))
                          go_ret
                          exact ⟨by first | rfl | (simp [errW_none, errW_some] <;> rfl) | (simp [*, errW_none, errW_some] <;> rfl), by repeat (first | (with_reducible first | exact HB.out | apply below_alloc | apply pw_below_drewN | apply below_drew1 | refine below_set ?_ GE195.out) | exact HB.out)⟩
                · rw [if_neg c24] at H
                  have c24b0 : ((t205.length : Int) == (l1.length : Int)) = false := beq_eq_false_iff_ne.mpr c24
                  have c24b1 : ((t205.length : Int) != (l1.length : Int)) = true := bne_iff_ne.mpr c24
                  have c24b2 : (t205.length == l1.length) = false := by first | simpa using c24 | (simp at c24 ⊢; omega)
                  obtain rfl := Option.some.inj H
                  go_wp2_with (first | ((with_reducible refine gate_callee (f := 17) rfl ?_); refine goesL_ (some 44) rfl rfl Try.func17 (by kernel_rfl) rfl #[.slice (some ad204) l1.length c1, .int .i64 x39_2] rfl (by (try simp only [List.map_toArray, List.map_cons, List.map_nil]); first | done | rfl | (simp only [List.length_drop, List.length_take]; rfl)) ?_; (with_reducible refine (pack_Row.calls k2 _ _ l1 x39_2 t205 _ ?side1 ?side2 A23.out).mono ?_); (case side1 => repeat (first | exact (Kd.C_below HR1.out HB.out) | (with_reducible refine Kd.C_alloc ?_ _) | (with_reducible refine Kd.C_drewN ?_ _) | (with_reducible refine Kd.C_drew ?_))); (case side2 => exact HC1.out); rintro e w50 ⟨v206, rfl, ho0, hb⟩; refine ⟨_, rfl, ?_⟩; have n0_ := Aside0.mk (Kd.R_below (by (with_reducible repeat (first | apply Kd.R_alloc | apply Kd.R_drewN | apply Kd.R_drew)); exact HO_5.out) hb); have n1_ := Aside0.mk (Kd.R_below (by (with_reducible repeat (first | apply Kd.R_alloc | apply Kd.R_drewN | apply Kd.R_drew)); exact HO_7.out) hb); have n2_ := Aside0.mk (Kd.R_lower ho0 (below_size (by repeat (first | (with_reducible first | exact HB.out | apply below_alloc | apply pw_below_drewN | apply below_drew1 | refine below_set ?_ GE195.out) | exact HB.out)))); have n3_ := Aside0.mk (blk_below (g := gb195) (o := .cells #[.int .i64 a0_0, .bool a0_1] 23 (0, 0)) (by (with_reducible repeat (first | refine blk_drewN ?_ _ | refine blk_drew ?_ | refine blk_alloc ?_ _)); exact BK195.out) hb); have n4_ := Aside0.mk (below_step (by repeat (first | (with_reducible first | exact HB.out | apply below_alloc | apply pw_below_drewN | apply below_drew1 | refine below_set ?_ GE195.out) | exact HB.out)) hb); clear HO_5; clear HO_7; clear BK195; clear HB; have HO_5 := n0_; have HO_7 := n1_; have HO207 := n2_; have BK195 := n3_; have HB := n4_; clear n0_ n1_ n2_ n3_ n4_; (try clear hb); (try clear hb2); (try clear hk); (try clear hi); (try clear ho0); obtain ⟨Ao51, co51, eo51⟩ := Kd.R_slice HO207.out; subst eo51))
                  go_ret
                  exact ⟨by first | rfl | (simp [errW_none, errW_some] <;> rfl) | (simp [*, errW_none, errW_some] <;> rfl), by repeat (first | (with_reducible first | exact HB.out | apply below_alloc | apply pw_below_drewN | apply below_drew1 | refine below_set ?_ GE195.out) | exact HB.out)⟩
              · rw [if_neg c22] at H
                have c22b0 : decide (x39_2 < ((rd_L1 l1 0).length : Int)) = false := decide_eq_false c22
                clear c22
                by_cases c52 : t203 = 0
                · rw [if_pos c52] at H
                  have c52b0 : (t203 == 0) = true := beq_iff_eq.mpr c52
                  have c52b1 : (t203 != 0) = false := bne_eq_false_iff_eq.mpr c52
                  clear c52
                  obtain rfl := Option.some.inj H
                  have hcv53 := own_string (P := Try.prog) Try.underlying33 Try.underlying5 Try.underlying9 (Kd.own_of_R HO_7.out)
                  have hcv54 := own_string (P := Try.prog) Try.underlying33 Try.underlying5 Try.underlying9 (Kd.own_of_R HO_5.out)
                  go_wp2
                  go_ret
                  exact ⟨by first | rfl | (simp [errW_none, errW_some] <;> rfl) | (simp [*, errW_none, errW_some] <;> rfl), by repeat (first | (with_reducible first | exact HB.out | apply below_alloc | apply pw_below_drewN | apply below_drew1 | refine below_set ?_ GE195.out) | exact HB.out)⟩
                · rw [if_neg c52] at H
                  have c52b0 : (t203 == 0) = false := beq_eq_false_iff_ne.mpr c52
                  have c52b1 : (t203 != 0) = true := bne_iff_ne.mpr c52
                  obtain rfl := Option.some.inj H
                  go_wp2
                  go_ret
                  exact ⟨by first | rfl | (simp [errW_none, errW_some] <;> rfl) | (simp [*, errW_none, errW_some] <;> rfl), by repeat (first | (with_reducible first | exact HB.out | apply below_alloc | apply pw_below_drewN | apply below_drew1 | refine below_set ?_ GE195.out) | exact HB.out)⟩
        · rw [if_neg c19] at H
          exact absurd H (by simp)

end Go.Proofs.Ytmpaecdgcflalaa.HK
