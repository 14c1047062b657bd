/- What the Go functions come to, as plain Lean functions, and that their calls do just that: written by this project's own program (hp.sh); conditions: those of each theorem. -/
import Derived.Test.YtmpaecdgcflalaaHKx0
import Derived.Test.YtmpaecdgcflalaaHKx7
import Derived.Test.YtmpaecdgcflalaaHKx10
import Derived.Test.YtmpaecdgcflalaaHKx11
import Derived.Test.YtmpaecdgcflalaaHKx12
namespace Go.Proofs.Ytmpaecdgcflalaa.HK
open Go.RowKit Go.Proofs.YtmpaecdgcflalaaW.PrintWords Go.Proofs.YtmpaecdgcflalaaW.PrintLast Go.Proofs.YtmpaecdgcflalaaW.PrintMore
attribute [local go_sem] max2_int min2_int max_two min_two max_three min_three max_four min_four   -- for this text's walks alone
set_option linter.unusedVariables false
set_option linter.unusedSimpArgs false

/-! ### sackbutlaw05_PackTurns: function 4 -/
mutual
def sackbutlaw05_PackTurns.j0 : Nat → List (List Int) → Bool → Int → Bool → Option (Bool)
  | 0, _, _, _, _ => none
  | k + 1, x1, x30, x168000, x168001 => if x30 = true then ((sackbutlaw05_awake.f k).bind fun t171 => (some t171)) else ((pack_Pack.f k x168000 x168001 x1).bind fun bt172 => ((pack_Pack.f k x168000 true x1).bind fun bt176 => (if bt172.2 = 0 then (if bt176.2 = 0 then (sackbutlaw05_PackTurns.j1 k x1 bt172.1 bt176.1 ((bt172.1.length : Int) != (bt176.1.length : Int)) x168000 x168001) else (sackbutlaw05_PackTurns.j1 k x1 bt172.1 bt176.1 true x168000 x168001)) else (sackbutlaw05_PackTurns.j1 k x1 bt172.1 bt176.1 true x168000 x168001))))
def sackbutlaw05_PackTurns.j1 : Nat → List (List Int) → List Int → List Int → Bool → Int → Bool → Option (Bool)
  | 0, _, _, _, _, _, _ => none
  | k + 1, x1, x6, x8, x58, x168000, x168001 => if x58 = true then (some false) else (sackbutlaw05_PackTurns.l0 k x1 x6 x8 (wrap64 (Int.tdiv x168000 8)) (x6.length : Int) 0)
def sackbutlaw05_PackTurns.l0 : Nat → List (List Int) → List Int → List Int → Int → Int → Int → Option (Bool)
  | 0, _, _, _, _, _, _ => none
  | k + 1, x1, x6, x8, x10, x63, x64 => if x64 < x63 then (if 0 ≤ x64 then (if x64 < (x6.length : Int) then (if x10 = 0 then (none) else (if 0 ≤ (wrap64 ((wrap64 ((wrap64 ((wrap64 ((wrap64 (Int.tdiv x64 x10)) * x10)) + x10)) - 1)) - (Int.tmod x64 x10))) then (if (wrap64 ((wrap64 ((wrap64 ((wrap64 ((wrap64 (Int.tdiv x64 x10)) * x10)) + x10)) - 1)) - (Int.tmod x64 x10))) < (x8.length : Int) then (if (rd x6 x64) = (rd x8 (wrap64 ((wrap64 ((wrap64 ((wrap64 ((wrap64 (Int.tdiv x64 x10)) * x10)) + x10)) - 1)) - (Int.tmod x64 x10)))) then (sackbutlaw05_PackTurns.l0 k x1 x6 x8 x10 x63 (wrap64 (x64 + 1))) else (some false)) else (none)) else (none))) else (none)) else (none)) else (if 0 < (x1.length : Int) then ((sackbutref01_Same.f k (([(x6.length : Int)] : List Int)) (([wrap64 ((wrap64 ((x1.length : Int) * ((rd_L1 x1 0).length : Int))) * x10)] : List Int))).bind fun t189 => (some t189)) else (none))
end
def sackbutlaw05_PackTurns.f (k : Nat) (a0 : Int) (l1 : List (List Int)) : Option (Bool) := (sackbutlaw05_awake.f k).bind fun t168 => (if t168 = true then ((sackbutlaw05_Few.f k l1).bind fun t169 => (if t169 = true then ((sackbutref05_Check.f k (wrap64 (8 * (wrap64 (1 + (wrap64 (Int.tmod a0 3)))))) false l1).bind fun t170 => (sackbutlaw05_PackTurns.j0 k l1 (t170 != 0) (wrap64 (8 * (wrap64 (1 + (wrap64 (Int.tmod a0 3)))))) false)) else (sackbutlaw05_PackTurns.j0 k l1 true (wrap64 (8 * (wrap64 (1 + (wrap64 (Int.tmod a0 3)))))) false))) else (sackbutlaw05_PackTurns.j0 k l1 true (wrap64 (8 * (wrap64 (1 + (wrap64 (Int.tmod a0 3)))))) false))
theorem sackbutlaw05_PackTurns.mono_l : ∀ k, (∀ y0 y1 y2 y3, LeO (sackbutlaw05_PackTurns.j0 k y0 y1 y2 y3) (sackbutlaw05_PackTurns.j0 (k + 1) y0 y1 y2 y3)) ∧ (∀ y0 y1 y2 y3 y4 y5, LeO (sackbutlaw05_PackTurns.j1 k y0 y1 y2 y3 y4 y5) (sackbutlaw05_PackTurns.j1 (k + 1) y0 y1 y2 y3 y4 y5)) ∧ (∀ y0 y1 y2 y3 y4 y5, LeO (sackbutlaw05_PackTurns.l0 k y0 y1 y2 y3 y4 y5) (sackbutlaw05_PackTurns.l0 (k + 1) y0 y1 y2 y3 y4 y5))
  | 0 => ⟨fun _ _ _ _ r h => by simp [sackbutlaw05_PackTurns.j0] at h, fun _ _ _ _ _ _ r h => by simp [sackbutlaw05_PackTurns.j1] at h, fun _ _ _ _ _ _ r h => by simp [sackbutlaw05_PackTurns.l0] at h⟩
  | k + 1 => by
    obtain ⟨ih0, ih1, ih2⟩ := sackbutlaw05_PackTurns.mono_l k
    refine ⟨?_, ?_, ?_⟩
    · intro y0 y1 y2 y3
      unfold sackbutlaw05_PackTurns.j0
      repeat' first
      | (with_reducible exact ih0 _ _ _ _)
      | (with_reducible exact ih1 _ _ _ _ _ _)
      | (with_reducible exact ih2 _ _ _ _ _ _)
      | (with_reducible exact pack_Pack.mono _ _ _ _)
      | (with_reducible exact sackbutlaw05_Few.mono _ _)
      | (with_reducible exact sackbutlaw05_awake.mono _)
      | (with_reducible exact sackbutref01_Same.mono _ _ _)
      | (with_reducible exact sackbutref05_Check.mono _ _ _ _)
      | (with_reducible exact LeO.refl _)
      | (with_reducible exact LeO.none _)
      | (with_reducible refine LeO.ite ?_ ?_)
      | (with_reducible refine LeO.bind ?_ (fun _ => ?_))
      | exact ih0 _ _ _ _
      | exact ih1 _ _ _ _ _ _
      | exact ih2 _ _ _ _ _ _
      | exact pack_Pack.mono _ _ _ _
      | exact sackbutlaw05_Few.mono _ _
      | exact sackbutlaw05_awake.mono _
      | exact sackbutref01_Same.mono _ _ _
      | exact sackbutref05_Check.mono _ _ _ _
      | exact LeO.none _
      | refine LeO.ite ?_ ?_
      | refine LeO.bind ?_ (fun _ => ?_)
    · intro y0 y1 y2 y3 y4 y5
      unfold sackbutlaw05_PackTurns.j1
      repeat' first
      | (with_reducible exact ih0 _ _ _ _)
      | (with_reducible exact ih1 _ _ _ _ _ _)
      | (with_reducible exact ih2 _ _ _ _ _ _)
      | (with_reducible exact pack_Pack.mono _ _ _ _)
      | (with_reducible exact sackbutlaw05_Few.mono _ _)
      | (with_reducible exact sackbutlaw05_awake.mono _)
      | (with_reducible exact sackbutref01_Same.mono _ _ _)
      | (with_reducible exact sackbutref05_Check.mono _ _ _ _)
      | (with_reducible exact LeO.refl _)
      | (with_reducible exact LeO.none _)
      | (with_reducible refine LeO.ite ?_ ?_)
      | (with_reducible refine LeO.bind ?_ (fun _ => ?_))
      | exact ih0 _ _ _ _
      | exact ih1 _ _ _ _ _ _
      | exact ih2 _ _ _ _ _ _
      | exact pack_Pack.mono _ _ _ _
      | exact sackbutlaw05_Few.mono _ _
      | exact sackbutlaw05_awake.mono _
      | exact sackbutref01_Same.mono _ _ _
      | exact sackbutref05_Check.mono _ _ _ _
      | exact LeO.none _
      | refine LeO.ite ?_ ?_
      | refine LeO.bind ?_ (fun _ => ?_)
    · intro y0 y1 y2 y3 y4 y5
      unfold sackbutlaw05_PackTurns.l0
      repeat' first
      | (with_reducible exact ih0 _ _ _ _)
      | (with_reducible exact ih1 _ _ _ _ _ _)
      | (with_reducible exact ih2 _ _ _ _ _ _)
      | (with_reducible exact pack_Pack.mono _ _ _ _)
      | (with_reducible exact sackbutlaw05_Few.mono _ _)
      | (with_reducible exact sackbutlaw05_awake.mono _)
      | (with_reducible exact sackbutref01_Same.mono _ _ _)
      | (with_reducible exact sackbutref05_Check.mono _ _ _ _)
      | (with_reducible exact LeO.refl _)
      | (with_reducible exact LeO.none _)
      | (with_reducible refine LeO.ite ?_ ?_)
      | (with_reducible refine LeO.bind ?_ (fun _ => ?_))
      | exact ih0 _ _ _ _
      | exact ih1 _ _ _ _ _ _
      | exact ih2 _ _ _ _ _ _
      | exact pack_Pack.mono _ _ _ _
      | exact sackbutlaw05_Few.mono _ _
      | exact sackbutlaw05_awake.mono _
      | exact sackbutref01_Same.mono _ _ _
      | exact sackbutref05_Check.mono _ _ _ _
      | exact LeO.none _
      | refine LeO.ite ?_ ?_
      | refine LeO.bind ?_ (fun _ => ?_)
theorem sackbutlaw05_PackTurns.mono : ∀ a0 a1 k, LeO (sackbutlaw05_PackTurns.f k a0 a1) (sackbutlaw05_PackTurns.f (k + 1) a0 a1) := by
  intro a0 a1 k
  obtain ⟨ih0, ih1, ih2⟩ := sackbutlaw05_PackTurns.mono_l k
  unfold sackbutlaw05_PackTurns.f
  repeat' first
      | (with_reducible exact ih0 _ _ _ _)
      | (with_reducible exact ih1 _ _ _ _ _ _)
      | (with_reducible exact ih2 _ _ _ _ _ _)
      | (with_reducible exact pack_Pack.mono _ _ _ _)
      | (with_reducible exact sackbutlaw05_Few.mono _ _)
      | (with_reducible exact sackbutlaw05_awake.mono _)
      | (with_reducible exact sackbutref01_Same.mono _ _ _)
      | (with_reducible exact sackbutref05_Check.mono _ _ _ _)
      | (with_reducible exact LeO.refl _)
      | (with_reducible exact LeO.none _)
      | (with_reducible refine LeO.ite ?_ ?_)
      | (with_reducible refine LeO.bind ?_ (fun _ => ?_))
      | exact ih0 _ _ _ _
      | exact ih1 _ _ _ _ _ _
      | exact ih2 _ _ _ _ _ _
      | exact pack_Pack.mono _ _ _ _
      | exact sackbutlaw05_Few.mono _ _
      | exact sackbutlaw05_awake.mono _
      | exact sackbutref01_Same.mono _ _ _
      | exact sackbutref05_Check.mono _ _ _ _
      | exact LeO.none _
      | refine LeO.ite ?_ ?_
      | refine LeO.bind ?_ (fun _ => ?_)
set_option maxHeartbeats 8000000 in
set_option maxRecDepth 100000 in
theorem sackbutlaw05_PackTurns.calls (k : Nat) (a0 : Int) (A1 : Option Addr) (c1 : Nat) (l1 : List (List Int)) (r : Bool) (w : World) (hr1 : Kd.C (Kd.slice 3 (Kd.int .i64)) w A1 l1.length l1) (hc1 : l1.length ≤ c1) (h : sackbutlaw05_PackTurns.f k a0 l1 = some r) :
    Calls Try.prog 4 #[.int .u8 a0, .slice A1 l1.length c1] w fun e w' => e = .returned (.bool r) ∧ Below w.heap.size w w' := by
  have hu23 := Try.underlying23
  have HR1 := Aside0.mk hr1
  have HC1 := Aside0.mk hc1
  clear hr1 hc1
  have HB := Aside0.mk (Below.refl w.heap.size w)
  have H : ((sackbutlaw05_awake.f k).bind fun t168 => (if t168 = true then ((sackbutlaw05_Few.f k l1).bind fun t169 => (if t169 = true then ((sackbutref05_Check.f k (wrap64 (8 * (wrap64 (1 + (wrap64 (Int.tmod a0 3)))))) false l1).bind fun t170 => (sackbutlaw05_PackTurns.j0 k l1 (t170 != 0) (wrap64 (8 * (wrap64 (1 + (wrap64 (Int.tmod a0 3)))))) false)) else (sackbutlaw05_PackTurns.j0 k l1 true (wrap64 (8 * (wrap64 (1 + (wrap64 (Int.tmod a0 3)))))) false))) else (sackbutlaw05_PackTurns.j0 k l1 true (wrap64 (8 * (wrap64 (1 + (wrap64 (Int.tmod a0 3)))))) false))) = some r := h
  clear h
  have HC3 := Aside0.mk H
  clear H
  go_enter Try.func4, Try.ntmps4
  go_upto_region 2 with (first | ((with_reducible refine gate_dst (N := 5) rfl ?_); (try (refine gate_guard (by rfl) ?_; dsimp only)); refine box_event ?hg (N := 5) ?hd (cs := #[.int .i64 0, .bool false]) (t := 23) ?hr ?_; (case hd => rfl); (case hg => rfl); (case hr => first | (go_simp; done) | (go_simp; rfl)); intro gb167 hg w4 hbox hb; have n0_ := Aside0.mk (below_step (by repeat (first | (with_reducible first | exact HB.out | apply below_alloc | apply pw_below_drewN | apply below_drew1) | exact HB.out)) hb); have n1_ := Aside0.mk (hbox); have n2_ := Aside0.mk ((by rw [hg]; exact (below_size (by repeat (first | (with_reducible first | exact HB.out | apply below_alloc | apply pw_below_drewN | apply below_drew1) | exact HB.out))) : w.heap.size ≤ gb167)); have n3_ := Aside0.mk ((by rw [hg]; exact (below_size (by repeat (first | (with_reducible first | exact HB.out | apply below_alloc | apply pw_below_drewN | apply below_drew1) | exact HB.out))) : w.heap.size ≤ gb167)); clear HB; have HB := n0_; have BK167 := n1_; have GW167 := n2_; have GE167 := n3_; clear n0_ n1_ n2_ n3_; clear hb hbox hg; have hcz5_0 : w4.cell? ⟨gb167, 0, none⟩ = some (.int .i64 0) := (blk_cell BK167.out 0).trans rfl; have hcz5_1 : w4.cell? ⟨gb167, 1, none⟩ = some (.bool false) := (blk_cell BK167.out 1).trans rfl; have hfz5_0 := blk_frozen BK167.out 0; have hfz5_1 := blk_frozen BK167.out 1))
  repeat (go_quiet (first | ((with_reducible refine gate_dst (N := 5) rfl ?_); (try (refine gate_guard (by rfl) ?_; dsimp only)); refine box_event ?hg (N := 5) ?hd (cs := #[.int .i64 0, .bool false]) (t := 23) ?hr ?_; (case hd => rfl); (case hg => rfl); (case hr => first | (go_simp; done) | (go_simp; rfl)); intro gb167 hg w4 hbox hb; have n0_ := Aside0.mk (below_step (by repeat (first | (with_reducible first | exact HB.out | apply below_alloc | apply pw_below_drewN | apply below_drew1) | exact HB.out)) hb); have n1_ := Aside0.mk (hbox); have n2_ := Aside0.mk ((by rw [hg]; exact (below_size (by repeat (first | (with_reducible first | exact HB.out | apply below_alloc | apply pw_below_drewN | apply below_drew1) | exact HB.out))) : w.heap.size ≤ gb167)); have n3_ := Aside0.mk ((by rw [hg]; exact (below_size (by repeat (first | (with_reducible first | exact HB.out | apply below_alloc | apply pw_below_drewN | apply below_drew1) | exact HB.out))) : w.heap.size ≤ gb167)); clear HB; have HB := n0_; have BK167 := n1_; have GW167 := n2_; have GE167 := n3_; clear n0_ n1_ n2_ n3_; clear hb hbox hg; have hcz5_0 : w4.cell? ⟨gb167, 0, none⟩ = some (.int .i64 0) := (blk_cell BK167.out 0).trans rfl; have hcz5_1 : w4.cell? ⟨gb167, 1, none⟩ = some (.bool false) := (blk_cell BK167.out 1).trans rfl; have hfz5_0 := blk_frozen BK167.out 0; have hfz5_1 := blk_frozen BK167.out 1)); go_upto_region 2 with (first | ((with_reducible refine gate_dst (N := 5) rfl ?_); (try (refine gate_guard (by rfl) ?_; dsimp only)); refine box_event ?hg (N := 5) ?hd (cs := #[.int .i64 0, .bool false]) (t := 23) ?hr ?_; (case hd => rfl); (case hg => rfl); (case hr => first | (go_simp; done) | (go_simp; rfl)); intro gb167 hg w4 hbox hb; have n0_ := Aside0.mk (below_step (by repeat (first | (with_reducible first | exact HB.out | apply below_alloc | apply pw_below_drewN | apply below_drew1) | exact HB.out)) hb); have n1_ := Aside0.mk (hbox); have n2_ := Aside0.mk ((by rw [hg]; exact (below_size (by repeat (first | (with_reducible first | exact HB.out | apply below_alloc | apply pw_below_drewN | apply below_drew1) | exact HB.out))) : w.heap.size ≤ gb167)); have n3_ := Aside0.mk ((by rw [hg]; exact (below_size (by repeat (first | (with_reducible first | exact HB.out | apply below_alloc | apply pw_below_drewN | apply below_drew1) | exact HB.out))) : w.heap.size ≤ gb167)); clear HB; have HB := n0_; have BK167 := n1_; have GW167 := n2_; have GE167 := n3_; clear n0_ n1_ n2_ n3_; clear hb hbox hg; have hcz5_0 : w4.cell? ⟨gb167, 0, none⟩ = some (.int .i64 0) := (blk_cell BK167.out 0).trans rfl; have hcz5_1 : w4.cell? ⟨gb167, 1, none⟩ = some (.bool false) := (blk_cell BK167.out 1).trans rfl; have hfz5_0 := blk_frozen BK167.out 0; have hfz5_1 := blk_frozen BK167.out 1)))
  (try simp only [Act.put, List.setIfInBounds_toArray, List.set_cons_zero, List.set_cons_succ])
  go_cut [30] (fun v30 wc => ∃ (kq : Nat) (x30_2 : Bool), v30 = .bool x30_2 ∧ Aside0 (sackbutlaw05_PackTurns.j0 kq l1 x30_2 (wrap64 (8 * (wrap64 (1 + (wrap64 (Int.tmod a0 3)))))) false = some r) ∧ Aside0 (kq ≤ k) ∧ Aside0 (wc.heap[gb167]? = some (.cells #[.int .i64 (wrap64 (8 * (wrap64 (1 + (wrap64 (Int.tmod a0 3)))))), .bool false] 23 (0, 0))) ∧ Aside0 (Below w.heap.size w wc))
  case first =>
    have H := HC3.out
    clear HC3
    replace H := Option.bind_eq_some_iff.mp H
    obtain ⟨t168, A60, H⟩ := H
    replace H : (if t168 = true then ((sackbutlaw05_Few.f k l1).bind fun t169 => (if t169 = true then ((sackbutref05_Check.f k (wrap64 (8 * (wrap64 (1 + (wrap64 (Int.tmod a0 3)))))) false l1).bind fun t170 => (sackbutlaw05_PackTurns.j0 k l1 (t170 != 0) (wrap64 (8 * (wrap64 (1 + (wrap64 (Int.tmod a0 3)))))) false)) else (sackbutlaw05_PackTurns.j0 k l1 true (wrap64 (8 * (wrap64 (1 + (wrap64 (Int.tmod a0 3)))))) false))) else (sackbutlaw05_PackTurns.j0 k l1 true (wrap64 (8 * (wrap64 (1 + (wrap64 (Int.tmod a0 3)))))) false)) = some r := H
    have A6 := Aside0.mk A60
    clear A60
    by_cases c7 : t168 = true
    · subst c7
      have H1 : ((sackbutlaw05_Few.f k l1).bind fun t169 => (if t169 = true then ((sackbutref05_Check.f k (wrap64 (8 * (wrap64 (1 + (wrap64 (Int.tmod a0 3)))))) false l1).bind fun t170 => (sackbutlaw05_PackTurns.j0 k l1 (t170 != 0) (wrap64 (8 * (wrap64 (1 + (wrap64 (Int.tmod a0 3)))))) false)) else (sackbutlaw05_PackTurns.j0 k l1 true (wrap64 (8 * (wrap64 (1 + (wrap64 (Int.tmod a0 3)))))) false))) = some r := by rw [if_pos rfl] at H; exact H
      clear H
      have H := H1
      clear H1
      replace H := Option.bind_eq_some_iff.mp H
      obtain ⟨t169, A80, H⟩ := H
      replace H : (if t169 = true then ((sackbutref05_Check.f k (wrap64 (8 * (wrap64 (1 + (wrap64 (Int.tmod a0 3)))))) false l1).bind fun t170 => (sackbutlaw05_PackTurns.j0 k l1 (t170 != 0) (wrap64 (8 * (wrap64 (1 + (wrap64 (Int.tmod a0 3)))))) false)) else (sackbutlaw05_PackTurns.j0 k l1 true (wrap64 (8 * (wrap64 (1 + (wrap64 (Int.tmod a0 3)))))) false)) = some r := H
      have A8 := Aside0.mk A80
      clear A80
      by_cases c9 : t169 = true
      · subst c9
        have H1 : ((sackbutref05_Check.f k (wrap64 (8 * (wrap64 (1 + (wrap64 (Int.tmod a0 3)))))) false l1).bind fun t170 => (sackbutlaw05_PackTurns.j0 k l1 (t170 != 0) (wrap64 (8 * (wrap64 (1 + (wrap64 (Int.tmod a0 3)))))) false)) = some r := by rw [if_pos rfl] at H; exact H
        clear H
        have H := H1
        clear H1
        replace H := Option.bind_eq_some_iff.mp H
        obtain ⟨t170, A100, H⟩ := H
        replace H : (sackbutlaw05_PackTurns.j0 k l1 (t170 != 0) (wrap64 (8 * (wrap64 (1 + (wrap64 (Int.tmod a0 3)))))) false) = some r := H
        have A10 := Aside0.mk A100
        clear A100
        have H' := Aside0.mk H
        clear H
        go_wp2_with (first | (go_at_call 8; (with_reducible refine (sackbutlaw05_awake.calls k  true _ A6.out).mono ?_); rintro e w11 ⟨rfl, hb⟩; have n0_ := Aside0.mk (blk_below (g := gb167) (o := .cells #[.int .i64 (wrap64 (8 * (wrap64 (1 + (wrap64 (Int.tmod a0 3)))))), .bool false] 23 (0, 0)) (by (with_reducible repeat (first | refine blk_drewN ?_ _ | refine blk_drew ?_ | refine blk_alloc ?_ _)); refine blk_put (cs := #[.int .i64 (wrap64 (8 * (wrap64 (1 + (wrap64 (Int.tmod a0 3)))))), .bool false]) ?_ 1 _ rfl; (with_reducible repeat (first | refine blk_drewN ?_ _ | refine blk_drew ?_ | refine blk_alloc ?_ _)); refine blk_put (cs := #[.int .i64 0, .bool false]) ?_ 0 _ rfl; (with_reducible repeat (first | refine blk_drewN ?_ _ | refine blk_drew ?_ | refine blk_alloc ?_ _)); exact BK167.out) hb); have n1_ := Aside0.mk (below_step (by repeat (first | (with_reducible first | exact HB.out | apply below_alloc | apply pw_below_drewN | apply below_drew1 | refine below_set ?_ GE167.out) | exact HB.out)) hb); clear BK167; clear HB; have BK167 := n0_; have HB := n1_; clear n0_ n1_; (try clear hb); (try clear hb2); (try clear hk); (try clear hi)) | (go_at_call 13; (with_reducible refine (sackbutlaw05_Few.calls k _ _ l1 true _ ?side1 ?side2 A8.out).mono ?_); (case side1 => repeat (first | exact (Kd.C_below HR1.out HB.out) | (with_reducible refine Kd.C_alloc ?_ _) | (with_reducible refine Kd.C_drewN ?_ _) | (with_reducible refine Kd.C_drew ?_))); (case side2 => exact HC1.out); rintro e w' ⟨rfl, ⟨nd, rfl⟩⟩; (try first | exact ⟨rfl, _, World.drewN_drewN _ _ _⟩ | exact ⟨rfl, _, Eq.trans (World.drewN_drewN _ _ _) (congrArg (World.drewN _) (Nat.add_assoc _ _ _))⟩); have hcz12_0 : w11.cell? ⟨gb167, 0, none⟩ = some (.int .i64 (wrap64 (8 * (wrap64 (1 + (wrap64 (Int.tmod a0 3))))))) := (blk_cell BK167.out 0).trans rfl; have hcz12_1 : w11.cell? ⟨gb167, 1, none⟩ = some (.bool false) := (blk_cell BK167.out 1).trans rfl; have hfz12_0 := blk_frozen BK167.out 0; have hfz12_1 := blk_frozen BK167.out 1) | (go_at_call 14; (with_reducible refine (sackbutref05_Check.calls k (wrap64 (8 * (wrap64 (1 + (wrap64 (Int.tmod a0 3)))))) false _ _ l1 t170 _ ?side1 ?side2 A10.out).mono ?_); (case side1 => repeat (first | exact (Kd.C_below HR1.out (by repeat (first | (with_reducible first | exact HB.out | apply below_alloc | apply pw_below_drewN | apply below_drew1 | refine below_set ?_ GE167.out) | exact HB.out))) | (with_reducible refine Kd.C_alloc ?_ _) | (with_reducible refine Kd.C_drewN ?_ _) | (with_reducible refine Kd.C_drew ?_))); (case side2 => exact HC1.out); rintro e w13 ⟨rfl, hb⟩; have n0_ := Aside0.mk (blk_below (g := gb167) (o := .cells #[.int .i64 (wrap64 (8 * (wrap64 (1 + (wrap64 (Int.tmod a0 3)))))), .bool false] 23 (0, 0)) (by (with_reducible repeat (first | refine blk_drewN ?_ _ | refine blk_drew ?_ | refine blk_alloc ?_ _)); exact BK167.out) hb); have n1_ := Aside0.mk (below_step (by repeat (first | (with_reducible first | exact HB.out | apply below_alloc | apply pw_below_drewN | apply below_drew1 | refine below_set ?_ GE167.out) | exact HB.out)) hb); clear BK167; clear HB; have BK167 := n0_; have HB := n1_; clear n0_ n1_; (try clear hb); (try clear hb2); (try clear hk); (try clear hi)))
        repeat (go_quiet (first | (go_at_call 8; (with_reducible refine (sackbutlaw05_awake.calls k  true _ A6.out).mono ?_); rintro e w11 ⟨rfl, hb⟩; have n0_ := Aside0.mk (blk_below (g := gb167) (o := .cells #[.int .i64 (wrap64 (8 * (wrap64 (1 + (wrap64 (Int.tmod a0 3)))))), .bool false] 23 (0, 0)) (by (with_reducible repeat (first | refine blk_drewN ?_ _ | refine blk_drew ?_ | refine blk_alloc ?_ _)); refine blk_put (cs := #[.int .i64 (wrap64 (8 * (wrap64 (1 + (wrap64 (Int.tmod a0 3)))))), .bool false]) ?_ 1 _ rfl; (with_reducible repeat (first | refine blk_drewN ?_ _ | refine blk_drew ?_ | refine blk_alloc ?_ _)); refine blk_put (cs := #[.int .i64 0, .bool false]) ?_ 0 _ rfl; (with_reducible repeat (first | refine blk_drewN ?_ _ | refine blk_drew ?_ | refine blk_alloc ?_ _)); exact BK167.out) hb); have n1_ := Aside0.mk (below_step (by repeat (first | (with_reducible first | exact HB.out | apply below_alloc | apply pw_below_drewN | apply below_drew1 | refine below_set ?_ GE167.out) | exact HB.out)) hb); clear BK167; clear HB; have BK167 := n0_; have HB := n1_; clear n0_ n1_; (try clear hb); (try clear hb2); (try clear hk); (try clear hi)) | (go_at_call 13; (with_reducible refine (sackbutlaw05_Few.calls k _ _ l1 true _ ?side1 ?side2 A8.out).mono ?_); (case side1 => repeat (first | exact (Kd.C_below HR1.out HB.out) | (with_reducible refine Kd.C_alloc ?_ _) | (with_reducible refine Kd.C_drewN ?_ _) | (with_reducible refine Kd.C_drew ?_))); (case side2 => exact HC1.out); rintro e w' ⟨rfl, ⟨nd, rfl⟩⟩; (try first | exact ⟨rfl, _, World.drewN_drewN _ _ _⟩ | exact ⟨rfl, _, Eq.trans (World.drewN_drewN _ _ _) (congrArg (World.drewN _) (Nat.add_assoc _ _ _))⟩); have hcz12_0 : w11.cell? ⟨gb167, 0, none⟩ = some (.int .i64 (wrap64 (8 * (wrap64 (1 + (wrap64 (Int.tmod a0 3))))))) := (blk_cell BK167.out 0).trans rfl; have hcz12_1 : w11.cell? ⟨gb167, 1, none⟩ = some (.bool false) := (blk_cell BK167.out 1).trans rfl; have hfz12_0 := blk_frozen BK167.out 0; have hfz12_1 := blk_frozen BK167.out 1) | (go_at_call 14; (with_reducible refine (sackbutref05_Check.calls k (wrap64 (8 * (wrap64 (1 + (wrap64 (Int.tmod a0 3)))))) false _ _ l1 t170 _ ?side1 ?side2 A10.out).mono ?_); (case side1 => repeat (first | exact (Kd.C_below HR1.out (by repeat (first | (with_reducible first | exact HB.out | apply below_alloc | apply pw_below_drewN | apply below_drew1 | refine below_set ?_ GE167.out) | exact HB.out))) | (with_reducible refine Kd.C_alloc ?_ _) | (with_reducible refine Kd.C_drewN ?_ _) | (with_reducible refine Kd.C_drew ?_))); (case side2 => exact HC1.out); rintro e w13 ⟨rfl, hb⟩; have n0_ := Aside0.mk (blk_below (g := gb167) (o := .cells #[.int .i64 (wrap64 (8 * (wrap64 (1 + (wrap64 (Int.tmod a0 3)))))), .bool false] 23 (0, 0)) (by (with_reducible repeat (first | refine blk_drewN ?_ _ | refine blk_drew ?_ | refine blk_alloc ?_ _)); exact BK167.out) hb); have n1_ := Aside0.mk (below_step (by repeat (first | (with_reducible first | exact HB.out | apply below_alloc | apply pw_below_drewN | apply below_drew1 | refine below_set ?_ GE167.out) | exact HB.out)) hb); clear BK167; clear HB; have BK167 := n0_; have HB := n1_; clear n0_ n1_; (try clear hb); (try clear hb2); (try clear hk); (try clear hi))); try go_wp2_with (first | (go_at_call 8; (with_reducible refine (sackbutlaw05_awake.calls k  true _ A6.out).mono ?_); rintro e w11 ⟨rfl, hb⟩; have n0_ := Aside0.mk (blk_below (g := gb167) (o := .cells #[.int .i64 (wrap64 (8 * (wrap64 (1 + (wrap64 (Int.tmod a0 3)))))), .bool false] 23 (0, 0)) (by (with_reducible repeat (first | refine blk_drewN ?_ _ | refine blk_drew ?_ | refine blk_alloc ?_ _)); refine blk_put (cs := #[.int .i64 (wrap64 (8 * (wrap64 (1 + (wrap64 (Int.tmod a0 3)))))), .bool false]) ?_ 1 _ rfl; (with_reducible repeat (first | refine blk_drewN ?_ _ | refine blk_drew ?_ | refine blk_alloc ?_ _)); refine blk_put (cs := #[.int .i64 0, .bool false]) ?_ 0 _ rfl; (with_reducible repeat (first | refine blk_drewN ?_ _ | refine blk_drew ?_ | refine blk_alloc ?_ _)); exact BK167.out) hb); have n1_ := Aside0.mk (below_step (by repeat (first | (with_reducible first | exact HB.out | apply below_alloc | apply pw_below_drewN | apply below_drew1 | refine below_set ?_ GE167.out) | exact HB.out)) hb); clear BK167; clear HB; have BK167 := n0_; have HB := n1_; clear n0_ n1_; (try clear hb); (try clear hb2); (try clear hk); (try clear hi)) | (go_at_call 13; (with_reducible refine (sackbutlaw05_Few.calls k _ _ l1 true _ ?side1 ?side2 A8.out).mono ?_); (case side1 => repeat (first | exact (Kd.C_below HR1.out HB.out) | (with_reducible refine Kd.C_alloc ?_ _) | (with_reducible refine Kd.C_drewN ?_ _) | (with_reducible refine Kd.C_drew ?_))); (case side2 => exact HC1.out); rintro e w' ⟨rfl, ⟨nd, rfl⟩⟩; (try first | exact ⟨rfl, _, World.drewN_drewN _ _ _⟩ | exact ⟨rfl, _, Eq.trans (World.drewN_drewN _ _ _) (congrArg (World.drewN _) (Nat.add_assoc _ _ _))⟩); have hcz12_0 : w11.cell? ⟨gb167, 0, none⟩ = some (.int .i64 (wrap64 (8 * (wrap64 (1 + (wrap64 (Int.tmod a0 3))))))) := (blk_cell BK167.out 0).trans rfl; have hcz12_1 : w11.cell? ⟨gb167, 1, none⟩ = some (.bool false) := (blk_cell BK167.out 1).trans rfl; have hfz12_0 := blk_frozen BK167.out 0; have hfz12_1 := blk_frozen BK167.out 1) | (go_at_call 14; (with_reducible refine (sackbutref05_Check.calls k (wrap64 (8 * (wrap64 (1 + (wrap64 (Int.tmod a0 3)))))) false _ _ l1 t170 _ ?side1 ?side2 A10.out).mono ?_); (case side1 => repeat (first | exact (Kd.C_below HR1.out (by repeat (first | (with_reducible first | exact HB.out | apply below_alloc | apply pw_below_drewN | apply below_drew1 | refine below_set ?_ GE167.out) | exact HB.out))) | (with_reducible refine Kd.C_alloc ?_ _) | (with_reducible refine Kd.C_drewN ?_ _) | (with_reducible refine Kd.C_drew ?_))); (case side2 => exact HC1.out); rintro e w13 ⟨rfl, hb⟩; have n0_ := Aside0.mk (blk_below (g := gb167) (o := .cells #[.int .i64 (wrap64 (8 * (wrap64 (1 + (wrap64 (Int.tmod a0 3)))))), .bool false] 23 (0, 0)) (by (with_reducible repeat (first | refine blk_drewN ?_ _ | refine blk_drew ?_ | refine blk_alloc ?_ _)); exact BK167.out) hb); have n1_ := Aside0.mk (below_step (by repeat (first | (with_reducible first | exact HB.out | apply below_alloc | apply pw_below_drewN | apply below_drew1 | refine below_set ?_ GE167.out) | exact HB.out)) hb); clear BK167; clear HB; have BK167 := n0_; have HB := n1_; clear n0_ n1_; (try clear hb); (try clear hb2); (try clear hk); (try clear hi))))
        go_meet
        case rel => exact ⟨_, ((t170 != 0)), (by first | rfl | (simp; done) | (simp [*]; done)), H', ⟨by first | omega | exact Nat.le_refl _⟩, ⟨by (with_reducible repeat (first | refine blk_drewN ?_ _ | refine blk_drew ?_ | refine blk_alloc ?_ _)); exact BK167.out⟩, ⟨by repeat (first | (with_reducible first | exact HB.out | apply below_alloc | apply pw_below_drewN | apply below_drew1 | refine below_set ?_ GE167.out) | exact HB.out)⟩⟩
      · replace c9 := Bool.eq_false_iff.mpr c9
        subst c9
        have H1 : (sackbutlaw05_PackTurns.j0 k l1 true (wrap64 (8 * (wrap64 (1 + (wrap64 (Int.tmod a0 3)))))) false) = some r := by rw [if_neg (show ¬ (false = true) by decide)] at H; exact H
        clear H
        have H := H1
        clear H1
        have H' := Aside0.mk H
        clear H
        go_wp2_with (first | (go_at_call 8; (with_reducible refine (sackbutlaw05_awake.calls k  true _ A6.out).mono ?_); rintro e w14 ⟨rfl, hb⟩; have n0_ := Aside0.mk (blk_below (g := gb167) (o := .cells #[.int .i64 (wrap64 (8 * (wrap64 (1 + (wrap64 (Int.tmod a0 3)))))), .bool false] 23 (0, 0)) (by (with_reducible repeat (first | refine blk_drewN ?_ _ | refine blk_drew ?_ | refine blk_alloc ?_ _)); refine blk_put (cs := #[.int .i64 (wrap64 (8 * (wrap64 (1 + (wrap64 (Int.tmod a0 3)))))), .bool false]) ?_ 1 _ rfl; (with_reducible repeat (first | refine blk_drewN ?_ _ | refine blk_drew ?_ | refine blk_alloc ?_ _)); refine blk_put (cs := #[.int .i64 0, .bool false]) ?_ 0 _ rfl; (with_reducible repeat (first | refine blk_drewN ?_ _ | refine blk_drew ?_ | refine blk_alloc ?_ _)); exact BK167.out) hb); have n1_ := Aside0.mk (below_step (by repeat (first | (with_reducible first | exact HB.out | apply below_alloc | apply pw_below_drewN | apply below_drew1 | refine below_set ?_ GE167.out) | exact HB.out)) hb); clear BK167; clear HB; have BK167 := n0_; have HB := n1_; clear n0_ n1_; (try clear hb); (try clear hb2); (try clear hk); (try clear hi)) | (go_at_call 13; (with_reducible refine (sackbutlaw05_Few.calls k _ _ l1 false _ ?side1 ?side2 A8.out).mono ?_); (case side1 => repeat (first | exact (Kd.C_below HR1.out HB.out) | (with_reducible refine Kd.C_alloc ?_ _) | (with_reducible refine Kd.C_drewN ?_ _) | (with_reducible refine Kd.C_drew ?_))); (case side2 => exact HC1.out); rintro e w' ⟨rfl, ⟨nd, rfl⟩⟩; (try first | exact ⟨rfl, _, World.drewN_drewN _ _ _⟩ | exact ⟨rfl, _, Eq.trans (World.drewN_drewN _ _ _) (congrArg (World.drewN _) (Nat.add_assoc _ _ _))⟩)))
        repeat (go_quiet (first | (go_at_call 8; (with_reducible refine (sackbutlaw05_awake.calls k  true _ A6.out).mono ?_); rintro e w14 ⟨rfl, hb⟩; have n0_ := Aside0.mk (blk_below (g := gb167) (o := .cells #[.int .i64 (wrap64 (8 * (wrap64 (1 + (wrap64 (Int.tmod a0 3)))))), .bool false] 23 (0, 0)) (by (with_reducible repeat (first | refine blk_drewN ?_ _ | refine blk_drew ?_ | refine blk_alloc ?_ _)); refine blk_put (cs := #[.int .i64 (wrap64 (8 * (wrap64 (1 + (wrap64 (Int.tmod a0 3)))))), .bool false]) ?_ 1 _ rfl; (with_reducible repeat (first | refine blk_drewN ?_ _ | refine blk_drew ?_ | refine blk_alloc ?_ _)); refine blk_put (cs := #[.int .i64 0, .bool false]) ?_ 0 _ rfl; (with_reducible repeat (first | refine blk_drewN ?_ _ | refine blk_drew ?_ | refine blk_alloc ?_ _)); exact BK167.out) hb); have n1_ := Aside0.mk (below_step (by repeat (first | (with_reducible first | exact HB.out | apply below_alloc | apply pw_below_drewN | apply below_drew1 | refine below_set ?_ GE167.out) | exact HB.out)) hb); clear BK167; clear HB; have BK167 := n0_; have HB := n1_; clear n0_ n1_; (try clear hb); (try clear hb2); (try clear hk); (try clear hi)) | (go_at_call 13; (with_reducible refine (sackbutlaw05_Few.calls k _ _ l1 false _ ?side1 ?side2 A8.out).mono ?_); (case side1 => repeat (first | exact (Kd.C_below HR1.out HB.out) | (with_reducible refine Kd.C_alloc ?_ _) | (with_reducible refine Kd.C_drewN ?_ _) | (with_reducible refine Kd.C_drew ?_))); (case side2 => exact HC1.out); rintro e w' ⟨rfl, ⟨nd, rfl⟩⟩; (try first | exact ⟨rfl, _, World.drewN_drewN _ _ _⟩ | exact ⟨rfl, _, Eq.trans (World.drewN_drewN _ _ _) (congrArg (World.drewN _) (Nat.add_assoc _ _ _))⟩))); try go_wp2_with (first | (go_at_call 8; (with_reducible refine (sackbutlaw05_awake.calls k  true _ A6.out).mono ?_); rintro e w14 ⟨rfl, hb⟩; have n0_ := Aside0.mk (blk_below (g := gb167) (o := .cells #[.int .i64 (wrap64 (8 * (wrap64 (1 + (wrap64 (Int.tmod a0 3)))))), .bool false] 23 (0, 0)) (by (with_reducible repeat (first | refine blk_drewN ?_ _ | refine blk_drew ?_ | refine blk_alloc ?_ _)); refine blk_put (cs := #[.int .i64 (wrap64 (8 * (wrap64 (1 + (wrap64 (Int.tmod a0 3)))))), .bool false]) ?_ 1 _ rfl; (with_reducible repeat (first | refine blk_drewN ?_ _ | refine blk_drew ?_ | refine blk_alloc ?_ _)); refine blk_put (cs := #[.int .i64 0, .bool false]) ?_ 0 _ rfl; (with_reducible repeat (first | refine blk_drewN ?_ _ | refine blk_drew ?_ | refine blk_alloc ?_ _)); exact BK167.out) hb); have n1_ := Aside0.mk (below_step (by repeat (first | (with_reducible first | exact HB.out | apply below_alloc | apply pw_below_drewN | apply below_drew1 | refine below_set ?_ GE167.out) | exact HB.out)) hb); clear BK167; clear HB; have BK167 := n0_; have HB := n1_; clear n0_ n1_; (try clear hb); (try clear hb2); (try clear hk); (try clear hi)) | (go_at_call 13; (with_reducible refine (sackbutlaw05_Few.calls k _ _ l1 false _ ?side1 ?side2 A8.out).mono ?_); (case side1 => repeat (first | exact (Kd.C_below HR1.out HB.out) | (with_reducible refine Kd.C_alloc ?_ _) | (with_reducible refine Kd.C_drewN ?_ _) | (with_reducible refine Kd.C_drew ?_))); (case side2 => exact HC1.out); rintro e w' ⟨rfl, ⟨nd, rfl⟩⟩; (try first | exact ⟨rfl, _, World.drewN_drewN _ _ _⟩ | exact ⟨rfl, _, Eq.trans (World.drewN_drewN _ _ _) (congrArg (World.drewN _) (Nat.add_assoc _ _ _))⟩))))
        go_meet
        case rel => exact ⟨_, (true), (by first | rfl | (simp; done) | (simp [*]; done)), H', ⟨by first | omega | exact Nat.le_refl _⟩, ⟨by (with_reducible repeat (first | refine blk_drewN ?_ _ | refine blk_drew ?_ | refine blk_alloc ?_ _)); exact BK167.out⟩, ⟨by repeat (first | (with_reducible first | exact HB.out | apply below_alloc | apply pw_below_drewN | apply below_drew1 | refine below_set ?_ GE167.out) | exact HB.out)⟩⟩
    · replace c7 := Bool.eq_false_iff.mpr c7
      subst c7
      have H1 : (sackbutlaw05_PackTurns.j0 k l1 true (wrap64 (8 * (wrap64 (1 + (wrap64 (Int.tmod a0 3)))))) false) = some r := by rw [if_neg (show ¬ (false = true) by decide)] at H; exact H
      clear H
      have H := H1
      clear H1
      have H' := Aside0.mk H
      clear H
      go_wp2_with (first | (go_at_call 8; (with_reducible refine (sackbutlaw05_awake.calls k  false _ A6.out).mono ?_); rintro e w15 ⟨rfl, hb⟩; have n0_ := Aside0.mk (blk_below (g := gb167) (o := .cells #[.int .i64 (wrap64 (8 * (wrap64 (1 + (wrap64 (Int.tmod a0 3)))))), .bool false] 23 (0, 0)) (by (with_reducible repeat (first | refine blk_drewN ?_ _ | refine blk_drew ?_ | refine blk_alloc ?_ _)); refine blk_put (cs := #[.int .i64 (wrap64 (8 * (wrap64 (1 + (wrap64 (Int.tmod a0 3)))))), .bool false]) ?_ 1 _ rfl; (with_reducible repeat (first | refine blk_drewN ?_ _ | refine blk_drew ?_ | refine blk_alloc ?_ _)); refine blk_put (cs := #[.int .i64 0, .bool false]) ?_ 0 _ rfl; (with_reducible repeat (first | refine blk_drewN ?_ _ | refine blk_drew ?_ | refine blk_alloc ?_ _)); exact BK167.out) hb); have n1_ := Aside0.mk (below_step (by repeat (first | (with_reducible first | exact HB.out | apply below_alloc | apply pw_below_drewN | apply below_drew1 | refine below_set ?_ GE167.out) | exact HB.out)) hb); clear BK167; clear HB; have BK167 := n0_; have HB := n1_; clear n0_ n1_; (try clear hb); (try clear hb2); (try clear hk); (try clear hi)))
      repeat (go_quiet (first | (go_at_call 8; (with_reducible refine (sackbutlaw05_awake.calls k  false _ A6.out).mono ?_); rintro e w15 ⟨rfl, hb⟩; have n0_ := Aside0.mk (blk_below (g := gb167) (o := .cells #[.int .i64 (wrap64 (8 * (wrap64 (1 + (wrap64 (Int.tmod a0 3)))))), .bool false] 23 (0, 0)) (by (with_reducible repeat (first | refine blk_drewN ?_ _ | refine blk_drew ?_ | refine blk_alloc ?_ _)); refine blk_put (cs := #[.int .i64 (wrap64 (8 * (wrap64 (1 + (wrap64 (Int.tmod a0 3)))))), .bool false]) ?_ 1 _ rfl; (with_reducible repeat (first | refine blk_drewN ?_ _ | refine blk_drew ?_ | refine blk_alloc ?_ _)); refine blk_put (cs := #[.int .i64 0, .bool false]) ?_ 0 _ rfl; (with_reducible repeat (first | refine blk_drewN ?_ _ | refine blk_drew ?_ | refine blk_alloc ?_ _)); exact BK167.out) hb); have n1_ := Aside0.mk (below_step (by repeat (first | (with_reducible first | exact HB.out | apply below_alloc | apply pw_below_drewN | apply below_drew1 | refine below_set ?_ GE167.out) | exact HB.out)) hb); clear BK167; clear HB; have BK167 := n0_; have HB := n1_; clear n0_ n1_; (try clear hb); (try clear hb2); (try clear hk); (try clear hi))); try go_wp2_with (first | (go_at_call 8; (with_reducible refine (sackbutlaw05_awake.calls k  false _ A6.out).mono ?_); rintro e w15 ⟨rfl, hb⟩; have n0_ := Aside0.mk (blk_below (g := gb167) (o := .cells #[.int .i64 (wrap64 (8 * (wrap64 (1 + (wrap64 (Int.tmod a0 3)))))), .bool false] 23 (0, 0)) (by (with_reducible repeat (first | refine blk_drewN ?_ _ | refine blk_drew ?_ | refine blk_alloc ?_ _)); refine blk_put (cs := #[.int .i64 (wrap64 (8 * (wrap64 (1 + (wrap64 (Int.tmod a0 3)))))), .bool false]) ?_ 1 _ rfl; (with_reducible repeat (first | refine blk_drewN ?_ _ | refine blk_drew ?_ | refine blk_alloc ?_ _)); refine blk_put (cs := #[.int .i64 0, .bool false]) ?_ 0 _ rfl; (with_reducible repeat (first | refine blk_drewN ?_ _ | refine blk_drew ?_ | refine blk_alloc ?_ _)); exact BK167.out) hb); have n1_ := Aside0.mk (below_step (by repeat (first | (with_reducible first | exact HB.out | apply below_alloc | apply pw_below_drewN | apply below_drew1 | refine below_set ?_ GE167.out) | exact HB.out)) hb); clear BK167; clear HB; have BK167 := n0_; have HB := n1_; clear n0_ n1_; (try clear hb); (try clear hb2); (try clear hk); (try clear hi))))
      go_meet
      case rel => exact ⟨_, (true), (by first | rfl | (simp; done) | (simp [*]; done)), H', ⟨by first | omega | exact Nat.le_refl _⟩, ⟨by (with_reducible repeat (first | refine blk_drewN ?_ _ | refine blk_drew ?_ | refine blk_alloc ?_ _)); exact BK167.out⟩, ⟨by repeat (first | (with_reducible first | exact HB.out | apply below_alloc | apply pw_below_drewN | apply below_drew1 | refine below_set ?_ GE167.out) | exact HB.out)⟩⟩
  case rest =>
    clear HC3
    try clear c1
    try clear p2
    try clear c4
    try clear p6
    try clear c7
    try clear c9
    try clear hcz12_0
    try clear hcz12_1
    try clear hcz5_0
    try clear hcz5_1
    try clear hfz12_0
    try clear hfz12_1
    try clear hfz5_0
    try clear hfz5_1
    obtain ⟨kq, x30_2, rfl, HA, HJ2, BK167, HB⟩ := hcut
    cases kq with
    | zero => exact absurd HA.out (by simp [sackbutlaw05_PackTurns.j0])
    | succ kj2 =>
      have H := HA.out
      clear HA
      simp only [sackbutlaw05_PackTurns.j0] at H
      by_cases c16 : x30_2 = true
      · subst c16
        have H1 : ((sackbutlaw05_awake.f kj2).bind fun t171 => (some t171)) = some r := by rw [if_pos rfl] at H; exact H
        clear H
        have H := H1
        clear H1
        replace H := Option.bind_eq_some_iff.mp H
        obtain ⟨t171, A170, H⟩ := H
        replace H : (some t171) = some r := H
        have A17 := Aside0.mk A170
        clear A170
        obtain rfl := Option.some.inj H
        go_wp2_with (first | (go_at_call 8; (with_reducible refine (sackbutlaw05_awake.calls kj2  t171 _ A17.out).mono ?_); rintro e w18 ⟨rfl, hb⟩; have n0_ := Aside0.mk (blk_below (g := gb167) (o := .cells #[.int .i64 (wrap64 (8 * (wrap64 (1 + (wrap64 (Int.tmod a0 3)))))), .bool false] 23 (0, 0)) (by (with_reducible repeat (first | refine blk_drewN ?_ _ | refine blk_drew ?_ | refine blk_alloc ?_ _)); exact BK167.out) hb); have n1_ := Aside0.mk (below_step (by repeat (first | (with_reducible first | exact HB.out | apply below_alloc | apply pw_below_drewN | apply below_drew1 | refine below_set ?_ GE167.out) | exact HB.out)) hb); clear BK167; clear HB; have BK167 := n0_; have HB := n1_; clear n0_ n1_; (try clear hb); (try clear hb2); (try clear hk); (try clear hi)))
        repeat (go_quiet (first | (go_at_call 8; (with_reducible refine (sackbutlaw05_awake.calls kj2  t171 _ A17.out).mono ?_); rintro e w18 ⟨rfl, hb⟩; have n0_ := Aside0.mk (blk_below (g := gb167) (o := .cells #[.int .i64 (wrap64 (8 * (wrap64 (1 + (wrap64 (Int.tmod a0 3)))))), .bool false] 23 (0, 0)) (by (with_reducible repeat (first | refine blk_drewN ?_ _ | refine blk_drew ?_ | refine blk_alloc ?_ _)); exact BK167.out) hb); have n1_ := Aside0.mk (below_step (by repeat (first | (with_reducible first | exact HB.out | apply below_alloc | apply pw_below_drewN | apply below_drew1 | refine below_set ?_ GE167.out) | exact HB.out)) hb); clear BK167; clear HB; have BK167 := n0_; have HB := n1_; clear n0_ n1_; (try clear hb); (try clear hb2); (try clear hk); (try clear hi))); try go_wp2_with (first | (go_at_call 8; (with_reducible refine (sackbutlaw05_awake.calls kj2  t171 _ A17.out).mono ?_); rintro e w18 ⟨rfl, hb⟩; have n0_ := Aside0.mk (blk_below (g := gb167) (o := .cells #[.int .i64 (wrap64 (8 * (wrap64 (1 + (wrap64 (Int.tmod a0 3)))))), .bool false] 23 (0, 0)) (by (with_reducible repeat (first | refine blk_drewN ?_ _ | refine blk_drew ?_ | refine blk_alloc ?_ _)); exact BK167.out) hb); have n1_ := Aside0.mk (below_step (by repeat (first | (with_reducible first | exact HB.out | apply below_alloc | apply pw_below_drewN | apply below_drew1 | refine below_set ?_ GE167.out) | exact HB.out)) hb); clear BK167; clear HB; have BK167 := n0_; have HB := n1_; clear n0_ n1_; (try clear hb); (try clear hb2); (try clear hk); (try clear hi))))
        go_ret
        exact ⟨by first | rfl | (simp [errW_none, errW_some] <;> rfl) | (simp [*, errW_none, errW_some] <;> rfl), by repeat (first | (with_reducible first | exact HB.out | apply below_alloc | apply pw_below_drewN | apply below_drew1 | refine below_set ?_ GE167.out) | exact HB.out)⟩
      · replace c16 := Bool.eq_false_iff.mpr c16
        subst c16
        have H1 : ((pack_Pack.f kj2 (wrap64 (8 * (wrap64 (1 + (wrap64 (Int.tmod a0 3)))))) false l1).bind fun bt172 => ((pack_Pack.f kj2 (wrap64 (8 * (wrap64 (1 + (wrap64 (Int.tmod a0 3)))))) true l1).bind fun bt176 => (if bt172.2 = 0 then (if bt176.2 = 0 then (sackbutlaw05_PackTurns.j1 kj2 l1 bt172.1 bt176.1 ((bt172.1.length : Int) != (bt176.1.length : Int)) (wrap64 (8 * (wrap64 (1 + (wrap64 (Int.tmod a0 3)))))) false) else (sackbutlaw05_PackTurns.j1 kj2 l1 bt172.1 bt176.1 true (wrap64 (8 * (wrap64 (1 + (wrap64 (Int.tmod a0 3)))))) false)) else (sackbutlaw05_PackTurns.j1 kj2 l1 bt172.1 bt176.1 true (wrap64 (8 * (wrap64 (1 + (wrap64 (Int.tmod a0 3)))))) false)))) = some r := by rw [if_neg (show ¬ (false = true) by decide)] at H; exact H
        clear H
        have H := H1
        clear H1
        replace H := Option.bind_eq_some_iff.mp H
        obtain ⟨⟨t172, t175⟩, A190, H⟩ := H
        replace H : ((pack_Pack.f kj2 (wrap64 (8 * (wrap64 (1 + (wrap64 (Int.tmod a0 3)))))) true l1).bind fun bt176 => (if t175 = 0 then (if bt176.2 = 0 then (sackbutlaw05_PackTurns.j1 kj2 l1 t172 bt176.1 ((t172.length : Int) != (bt176.1.length : Int)) (wrap64 (8 * (wrap64 (1 + (wrap64 (Int.tmod a0 3)))))) false) else (sackbutlaw05_PackTurns.j1 kj2 l1 t172 bt176.1 true (wrap64 (8 * (wrap64 (1 + (wrap64 (Int.tmod a0 3)))))) false)) else (sackbutlaw05_PackTurns.j1 kj2 l1 t172 bt176.1 true (wrap64 (8 * (wrap64 (1 + (wrap64 (Int.tmod a0 3)))))) false))) = some r := H
        have A19 := Aside0.mk A190
        clear A190
        replace H := Option.bind_eq_some_iff.mp H
        obtain ⟨⟨t176, t179⟩, A200, H⟩ := H
        replace H : (if t175 = 0 then (if t179 = 0 then (sackbutlaw05_PackTurns.j1 kj2 l1 t172 t176 ((t172.length : Int) != (t176.length : Int)) (wrap64 (8 * (wrap64 (1 + (wrap64 (Int.tmod a0 3)))))) false) else (sackbutlaw05_PackTurns.j1 kj2 l1 t172 t176 true (wrap64 (8 * (wrap64 (1 + (wrap64 (Int.tmod a0 3)))))) false)) else (sackbutlaw05_PackTurns.j1 kj2 l1 t172 t176 true (wrap64 (8 * (wrap64 (1 + (wrap64 (Int.tmod a0 3)))))) false)) = some r := H
        have A20 := Aside0.mk A200
        clear A200
        have HC21 := Aside0.mk H
        clear H
        have hcz22_0 : wc.cell? ⟨gb167, 0, none⟩ = some (.int .i64 (wrap64 (8 * (wrap64 (1 + (wrap64 (Int.tmod a0 3))))))) := (blk_cell BK167.out 0).trans rfl
        have hcz22_1 : wc.cell? ⟨gb167, 1, none⟩ = some (.bool false) := (blk_cell BK167.out 1).trans rfl
        have hfz22_0 := blk_frozen BK167.out 0
        have hfz22_1 := blk_frozen BK167.out 1
        go_upto_region 6 with (first | (go_at_call 15; (with_reducible refine (pack_Pack.calls kj2 (wrap64 (8 * (wrap64 (1 + (wrap64 (Int.tmod a0 3)))))) false _ _ l1 t172 t175 _ ?side1 ?side2 A19.out).mono ?_); (case side1 => repeat (first | exact (Kd.C_below HR1.out HB.out) | (with_reducible refine Kd.C_alloc ?_ _) | (with_reducible refine Kd.C_drewN ?_ _) | (with_reducible refine Kd.C_drew ?_))); (case side2 => exact HC1.out); rintro e w23 ⟨v173, rfl, ho0, hb⟩; have n0_ := Aside0.mk (Kd.R_lower ho0 (below_size (by repeat (first | (with_reducible first | exact HB.out | apply below_alloc | apply pw_below_drewN | apply below_drew1 | refine below_set ?_ GE167.out) | exact HB.out)))); have n1_ := Aside0.mk (blk_below (g := gb167) (o := .cells #[.int .i64 (wrap64 (8 * (wrap64 (1 + (wrap64 (Int.tmod a0 3)))))), .bool false] 23 (0, 0)) (by (with_reducible repeat (first | refine blk_drewN ?_ _ | refine blk_drew ?_ | refine blk_alloc ?_ _)); exact BK167.out) hb); have n2_ := Aside0.mk (below_step (by repeat (first | (with_reducible first | exact HB.out | apply below_alloc | apply pw_below_drewN | apply below_drew1 | refine below_set ?_ GE167.out) | exact HB.out)) hb); clear BK167; clear HB; have HO174 := n0_; have BK167 := n1_; have HB := n2_; clear n0_ n1_ n2_; (try clear hb); (try clear hb2); (try clear hk); (try clear hi); (try clear ho0); have hcz24_0 : w23.cell? ⟨gb167, 0, none⟩ = some (.int .i64 (wrap64 (8 * (wrap64 (1 + (wrap64 (Int.tmod a0 3))))))) := (blk_cell BK167.out 0).trans rfl; have hcz24_1 : w23.cell? ⟨gb167, 1, none⟩ = some (.bool false) := (blk_cell BK167.out 1).trans rfl; have hfz24_0 := blk_frozen BK167.out 0; have hfz24_1 := blk_frozen BK167.out 1) | (go_at_call 15; (with_reducible refine (pack_Pack.calls kj2 (wrap64 (8 * (wrap64 (1 + (wrap64 (Int.tmod a0 3)))))) true _ _ l1 t176 t179 _ ?side1 ?side2 A20.out).mono ?_); (case side1 => repeat (first | exact (Kd.C_below HR1.out HB.out) | (with_reducible refine Kd.C_alloc ?_ _) | (with_reducible refine Kd.C_drewN ?_ _) | (with_reducible refine Kd.C_drew ?_))); (case side2 => exact HC1.out); rintro e w25 ⟨v177, rfl, ho0, hb⟩; have n0_ := Aside0.mk (Kd.R_elder' (by (with_reducible repeat (first | apply Kd.R_alloc | apply Kd.R_drewN | apply Kd.R_drew)); exact HO174.out) (Kd.R_base ho0) hb); have n1_ := Aside0.mk (Kd.R_lower (Kd.R_new' ho0 (Kd.R_lt (by (with_reducible repeat (first | apply Kd.R_alloc | apply Kd.R_drewN | apply Kd.R_drew)); exact HO174.out))) (below_size (by repeat (first | (with_reducible first | exact HB.out | apply below_alloc | apply pw_below_drewN | apply below_drew1 | refine below_set ?_ GE167.out) | exact HB.out)))); have n2_ := Aside0.mk (blk_below (g := gb167) (o := .cells #[.int .i64 (wrap64 (8 * (wrap64 (1 + (wrap64 (Int.tmod a0 3)))))), .bool false] 23 (0, 0)) (by (with_reducible repeat (first | refine blk_drewN ?_ _ | refine blk_drew ?_ | refine blk_alloc ?_ _)); exact BK167.out) hb); have n3_ := Aside0.mk (below_step (by repeat (first | (with_reducible first | exact HB.out | apply below_alloc | apply pw_below_drewN | apply below_drew1 | refine below_set ?_ GE167.out) | exact HB.out)) hb); clear HO174; clear BK167; clear HB; have HO174 := n0_; have HO178 := n1_; have BK167 := n2_; have HB := n3_; clear n0_ n1_ n2_ n3_; (try clear hb); (try clear hb2); (try clear hk); (try clear hi); (try clear ho0)))
        repeat (go_quiet (first | (go_at_call 15; (with_reducible refine (pack_Pack.calls kj2 (wrap64 (8 * (wrap64 (1 + (wrap64 (Int.tmod a0 3)))))) false _ _ l1 t172 t175 _ ?side1 ?side2 A19.out).mono ?_); (case side1 => repeat (first | exact (Kd.C_below HR1.out HB.out) | (with_reducible refine Kd.C_alloc ?_ _) | (with_reducible refine Kd.C_drewN ?_ _) | (with_reducible refine Kd.C_drew ?_))); (case side2 => exact HC1.out); rintro e w23 ⟨v173, rfl, ho0, hb⟩; have n0_ := Aside0.mk (Kd.R_lower ho0 (below_size (by repeat (first | (with_reducible first | exact HB.out | apply below_alloc | apply pw_below_drewN | apply below_drew1 | refine below_set ?_ GE167.out) | exact HB.out)))); have n1_ := Aside0.mk (blk_below (g := gb167) (o := .cells #[.int .i64 (wrap64 (8 * (wrap64 (1 + (wrap64 (Int.tmod a0 3)))))), .bool false] 23 (0, 0)) (by (with_reducible repeat (first | refine blk_drewN ?_ _ | refine blk_drew ?_ | refine blk_alloc ?_ _)); exact BK167.out) hb); have n2_ := Aside0.mk (below_step (by repeat (first | (with_reducible first | exact HB.out | apply below_alloc | apply pw_below_drewN | apply below_drew1 | refine below_set ?_ GE167.out) | exact HB.out)) hb); clear BK167; clear HB; have HO174 := n0_; have BK167 := n1_; have HB := n2_; clear n0_ n1_ n2_; (try clear hb); (try clear hb2); (try clear hk); (try clear hi); (try clear ho0); have hcz24_0 : w23.cell? ⟨gb167, 0, none⟩ = some (.int .i64 (wrap64 (8 * (wrap64 (1 + (wrap64 (Int.tmod a0 3))))))) := (blk_cell BK167.out 0).trans rfl; have hcz24_1 : w23.cell? ⟨gb167, 1, none⟩ = some (.bool false) := (blk_cell BK167.out 1).trans rfl; have hfz24_0 := blk_frozen BK167.out 0; have hfz24_1 := blk_frozen BK167.out 1) | (go_at_call 15; (with_reducible refine (pack_Pack.calls kj2 (wrap64 (8 * (wrap64 (1 + (wrap64 (Int.tmod a0 3)))))) true _ _ l1 t176 t179 _ ?side1 ?side2 A20.out).mono ?_); (case side1 => repeat (first | exact (Kd.C_below HR1.out HB.out) | (with_reducible refine Kd.C_alloc ?_ _) | (with_reducible refine Kd.C_drewN ?_ _) | (with_reducible refine Kd.C_drew ?_))); (case side2 => exact HC1.out); rintro e w25 ⟨v177, rfl, ho0, hb⟩; have n0_ := Aside0.mk (Kd.R_elder' (by (with_reducible repeat (first | apply Kd.R_alloc | apply Kd.R_drewN | apply Kd.R_drew)); exact HO174.out) (Kd.R_base ho0) hb); have n1_ := Aside0.mk (Kd.R_lower (Kd.R_new' ho0 (Kd.R_lt (by (with_reducible repeat (first | apply Kd.R_alloc | apply Kd.R_drewN | apply Kd.R_drew)); exact HO174.out))) (below_size (by repeat (first | (with_reducible first | exact HB.out | apply below_alloc | apply pw_below_drewN | apply below_drew1 | refine below_set ?_ GE167.out) | exact HB.out)))); have n2_ := Aside0.mk (blk_below (g := gb167) (o := .cells #[.int .i64 (wrap64 (8 * (wrap64 (1 + (wrap64 (Int.tmod a0 3)))))), .bool false] 23 (0, 0)) (by (with_reducible repeat (first | refine blk_drewN ?_ _ | refine blk_drew ?_ | refine blk_alloc ?_ _)); exact BK167.out) hb); have n3_ := Aside0.mk (below_step (by repeat (first | (with_reducible first | exact HB.out | apply below_alloc | apply pw_below_drewN | apply below_drew1 | refine below_set ?_ GE167.out) | exact HB.out)) hb); clear HO174; clear BK167; clear HB; have HO174 := n0_; have HO178 := n1_; have BK167 := n2_; have HB := n3_; clear n0_ n1_ n2_ n3_; (try clear hb); (try clear hb2); (try clear hk); (try clear hi); (try clear ho0))); go_upto_region 6 with (first | (go_at_call 15; (with_reducible refine (pack_Pack.calls kj2 (wrap64 (8 * (wrap64 (1 + (wrap64 (Int.tmod a0 3)))))) false _ _ l1 t172 t175 _ ?side1 ?side2 A19.out).mono ?_); (case side1 => repeat (first | exact (Kd.C_below HR1.out HB.out) | (with_reducible refine Kd.C_alloc ?_ _) | (with_reducible refine Kd.C_drewN ?_ _) | (with_reducible refine Kd.C_drew ?_))); (case side2 => exact HC1.out); rintro e w23 ⟨v173, rfl, ho0, hb⟩; have n0_ := Aside0.mk (Kd.R_lower ho0 (below_size (by repeat (first | (with_reducible first | exact HB.out | apply below_alloc | apply pw_below_drewN | apply below_drew1 | refine below_set ?_ GE167.out) | exact HB.out)))); have n1_ := Aside0.mk (blk_below (g := gb167) (o := .cells #[.int .i64 (wrap64 (8 * (wrap64 (1 + (wrap64 (Int.tmod a0 3)))))), .bool false] 23 (0, 0)) (by (with_reducible repeat (first | refine blk_drewN ?_ _ | refine blk_drew ?_ | refine blk_alloc ?_ _)); exact BK167.out) hb); have n2_ := Aside0.mk (below_step (by repeat (first | (with_reducible first | exact HB.out | apply below_alloc | apply pw_below_drewN | apply below_drew1 | refine below_set ?_ GE167.out) | exact HB.out)) hb); clear BK167; clear HB; have HO174 := n0_; have BK167 := n1_; have HB := n2_; clear n0_ n1_ n2_; (try clear hb); (try clear hb2); (try clear hk); (try clear hi); (try clear ho0); have hcz24_0 : w23.cell? ⟨gb167, 0, none⟩ = some (.int .i64 (wrap64 (8 * (wrap64 (1 + (wrap64 (Int.tmod a0 3))))))) := (blk_cell BK167.out 0).trans rfl; have hcz24_1 : w23.cell? ⟨gb167, 1, none⟩ = some (.bool false) := (blk_cell BK167.out 1).trans rfl; have hfz24_0 := blk_frozen BK167.out 0; have hfz24_1 := blk_frozen BK167.out 1) | (go_at_call 15; (with_reducible refine (pack_Pack.calls kj2 (wrap64 (8 * (wrap64 (1 + (wrap64 (Int.tmod a0 3)))))) true _ _ l1 t176 t179 _ ?side1 ?side2 A20.out).mono ?_); (case side1 => repeat (first | exact (Kd.C_below HR1.out HB.out) | (with_reducible refine Kd.C_alloc ?_ _) | (with_reducible refine Kd.C_drewN ?_ _) | (with_reducible refine Kd.C_drew ?_))); (case side2 => exact HC1.out); rintro e w25 ⟨v177, rfl, ho0, hb⟩; have n0_ := Aside0.mk (Kd.R_elder' (by (with_reducible repeat (first | apply Kd.R_alloc | apply Kd.R_drewN | apply Kd.R_drew)); exact HO174.out) (Kd.R_base ho0) hb); have n1_ := Aside0.mk (Kd.R_lower (Kd.R_new' ho0 (Kd.R_lt (by (with_reducible repeat (first | apply Kd.R_alloc | apply Kd.R_drewN | apply Kd.R_drew)); exact HO174.out))) (below_size (by repeat (first | (with_reducible first | exact HB.out | apply below_alloc | apply pw_below_drewN | apply below_drew1 | refine below_set ?_ GE167.out) | exact HB.out)))); have n2_ := Aside0.mk (blk_below (g := gb167) (o := .cells #[.int .i64 (wrap64 (8 * (wrap64 (1 + (wrap64 (Int.tmod a0 3)))))), .bool false] 23 (0, 0)) (by (with_reducible repeat (first | refine blk_drewN ?_ _ | refine blk_drew ?_ | refine blk_alloc ?_ _)); exact BK167.out) hb); have n3_ := Aside0.mk (below_step (by repeat (first | (with_reducible first | exact HB.out | apply below_alloc | apply pw_below_drewN | apply below_drew1 | refine below_set ?_ GE167.out) | exact HB.out)) hb); clear HO174; clear BK167; clear HB; have HO174 := n0_; have HO178 := n1_; have BK167 := n2_; have HB := n3_; clear n0_ n1_ n2_ n3_; (try clear hb); (try clear hb2); (try clear hk); (try clear hi); (try clear ho0))))
        (try simp only [Act.put, List.setIfInBounds_toArray, List.set_cons_zero, List.set_cons_succ])
        go_cut [58] (fun v58 wc => ∃ (kq : Nat) (x58_20 : Bool), v58 = .bool x58_20 ∧ Aside0 (sackbutlaw05_PackTurns.j1 kq l1 t172 t176 x58_20 (wrap64 (8 * (wrap64 (1 + (wrap64 (Int.tmod a0 3)))))) false = some r) ∧ Aside0 (kq ≤ kj2) ∧ Aside0 (Kd.R (Kd.int .u8) 5 wc w.heap.size (fun k_ => some k_ ≠ (v177 : Value).ownBlock) v173 t172) ∧ Aside0 (Kd.R (Kd.int .u8) 5 wc w.heap.size (fun k_ => some k_ ≠ (v173 : Value).ownBlock) v177 t176) ∧ Aside0 (wc.heap[gb167]? = some (.cells #[.int .i64 (wrap64 (8 * (wrap64 (1 + (wrap64 (Int.tmod a0 3)))))), .bool false] 23 (0, 0))) ∧ Aside0 (Below w.heap.size w wc))
        case first =>
          have H := HC21.out
          clear HC21
          by_cases c26 : t175 = 0
          · rw [if_pos c26] at H
            have c26b0 : (t175 == 0) = true := beq_iff_eq.mpr c26
            have c26b1 : (t175 != 0) = false := bne_eq_false_iff_eq.mpr c26
            clear c26
            (first | rw [c26b0] | (simp only [i64_w, i32_w]; rw [c26b0]) | skip)
            by_cases c27 : t179 = 0
            · rw [if_pos c27] at H
              have c27b0 : (t179 == 0) = true := beq_iff_eq.mpr c27
              have c27b1 : (t179 != 0) = false := bne_eq_false_iff_eq.mpr c27
              clear c27
              have H' := Aside0.mk H
              clear H
              obtain ⟨Ao28, co28, eo28⟩ := Kd.R_slice HO174.out
              subst eo28
              obtain ⟨Ao29, co29, eo29⟩ := Kd.R_slice HO178.out
              subst eo29
              go_wp2
              repeat (go_quiet (fail); try go_wp2)
              go_meet
              case rel => exact ⟨_, (((t172.length : Int) != (t176.length : Int))), (by first | rfl | (simp; done) | (simp [*]; done)), H', ⟨by have := HJ2.out; first | omega | exact Nat.le_refl _⟩, ⟨by (with_reducible repeat (first | apply Kd.R_alloc | apply Kd.R_drewN | apply Kd.R_drew)); exact Kd.R_mono HO174.out (fun _ hk => hk.2)⟩, ⟨by (with_reducible repeat (first | apply Kd.R_alloc | apply Kd.R_drewN | apply Kd.R_drew)); exact Kd.R_mono HO178.out (fun _ hk => hk.2)⟩, ⟨by (with_reducible repeat (first | refine blk_drewN ?_ _ | refine blk_drew ?_ | refine blk_alloc ?_ _)); exact BK167.out⟩, ⟨by repeat (first | (with_reducible first | exact HB.out | apply below_alloc | apply pw_below_drewN | apply below_drew1 | refine below_set ?_ GE167.out) | exact HB.out)⟩⟩
            · rw [if_neg c27] at H
              have c27b0 : (t179 == 0) = false := beq_eq_false_iff_ne.mpr c27
              have c27b1 : (t179 != 0) = true := bne_iff_ne.mpr c27
              have H' := Aside0.mk H
              clear H
              go_wp2
              repeat (go_quiet (fail); try go_wp2)
              go_meet
              case rel => exact ⟨_, (true), (by first | rfl | (simp; done) | (simp [*]; done)), H', ⟨by have := HJ2.out; first | omega | exact Nat.le_refl _⟩, ⟨by (with_reducible repeat (first | apply Kd.R_alloc | apply Kd.R_drewN | apply Kd.R_drew)); exact Kd.R_mono HO174.out (fun _ hk => hk.2)⟩, ⟨by (with_reducible repeat (first | apply Kd.R_alloc | apply Kd.R_drewN | apply Kd.R_drew)); exact Kd.R_mono HO178.out (fun _ hk => hk.2)⟩, ⟨by (with_reducible repeat (first | refine blk_drewN ?_ _ | refine blk_drew ?_ | refine blk_alloc ?_ _)); exact BK167.out⟩, ⟨by repeat (first | (with_reducible first | exact HB.out | apply below_alloc | apply pw_below_drewN | apply below_drew1 | refine below_set ?_ GE167.out) | exact HB.out)⟩⟩
          · rw [if_neg c26] at H
            have c26b0 : (t175 == 0) = false := beq_eq_false_iff_ne.mpr c26
            have c26b1 : (t175 != 0) = true := bne_iff_ne.mpr c26
            (first | rw [c26b0] | (simp only [i64_w, i32_w]; rw [c26b0]) | skip)
            have H' := Aside0.mk H
            clear H
            go_wp2
            repeat (go_quiet (fail); try go_wp2)
            go_meet
            case rel => exact ⟨_, (true), (by first | rfl | (simp; done) | (simp [*]; done)), H', ⟨by have := HJ2.out; first | omega | exact Nat.le_refl _⟩, ⟨by (with_reducible repeat (first | apply Kd.R_alloc | apply Kd.R_drewN | apply Kd.R_drew)); exact Kd.R_mono HO174.out (fun _ hk => hk.2)⟩, ⟨by (with_reducible repeat (first | apply Kd.R_alloc | apply Kd.R_drewN | apply Kd.R_drew)); exact Kd.R_mono HO178.out (fun _ hk => hk.2)⟩, ⟨by (with_reducible repeat (first | refine blk_drewN ?_ _ | refine blk_drew ?_ | refine blk_alloc ?_ _)); exact BK167.out⟩, ⟨by repeat (first | (with_reducible first | exact HB.out | apply below_alloc | apply pw_below_drewN | apply below_drew1 | refine below_set ?_ GE167.out) | exact HB.out)⟩⟩
        case rest =>
          clear HC21
          try clear c1
          try clear c2
          try clear p2
          try clear c4
          try clear p6
          try clear c7
          try clear c9
          try clear c16
          try clear c26
          try clear c26b0
          try clear c26b1
          try clear c27
          try clear c27b0
          try clear c27b1
          try clear hcz12_0
          try clear hcz12_1
          try clear hcz22_0
          try clear hcz22_1
          try clear hcz24_0
          try clear hcz24_1
          try clear hcz5_0
          try clear hcz5_1
          try clear hfz12_0
          try clear hfz12_1
          try clear hfz22_0
          try clear hfz22_1
          try clear hfz24_0
          try clear hfz24_1
          try clear hfz5_0
          try clear hfz5_1
          try clear p2
          try clear p6
          obtain ⟨kq, x58_20, rfl, HA, HJ20, HO_6, HO_8, BK167, HB⟩ := hcut
          cases kq with
          | zero => exact absurd HA.out (by simp [sackbutlaw05_PackTurns.j1])
          | succ kj20 =>
            have H := HA.out
            clear HA
            simp only [sackbutlaw05_PackTurns.j1] at H
            by_cases c30 : x58_20 = true
            · subst c30
              have H1 : (some false) = some r := by rw [if_pos rfl] at H; exact H
              clear H
              have H := H1
              clear H1
              obtain rfl := Option.some.inj H
              go_wp2
              repeat (go_quiet (fail); try go_wp2)
              go_ret
              exact ⟨by first | rfl | (simp [errW_none, errW_some] <;> rfl) | (simp [*, errW_none, errW_some] <;> rfl), by repeat (first | (with_reducible first | exact HB.out | apply below_alloc | apply pw_below_drewN | apply below_drew1 | refine below_set ?_ GE167.out) | exact HB.out)⟩
            · replace c30 := Bool.eq_false_iff.mpr c30
              subst c30
              have H1 : (sackbutlaw05_PackTurns.l0 kj20 l1 t172 t176 (wrap64 (Int.tdiv (wrap64 (8 * (wrap64 (1 + (wrap64 (Int.tmod a0 3)))))) 8)) (t172.length : Int) 0) = some r := by rw [if_neg (show ¬ (false = true) by decide)] at H; exact H
              clear H
              have H := H1
              clear H1
              have H' := Aside0.mk H
              clear H
              have hcz31_0 : wc.cell? ⟨gb167, 0, none⟩ = some (.int .i64 (wrap64 (8 * (wrap64 (1 + (wrap64 (Int.tmod a0 3))))))) := (blk_cell BK167.out 0).trans rfl
              have hcz31_1 : wc.cell? ⟨gb167, 1, none⟩ = some (.bool false) := (blk_cell BK167.out 1).trans rfl
              have hfz31_0 := blk_frozen BK167.out 0
              have hfz31_1 := blk_frozen BK167.out 1
              obtain ⟨Ao32, co32, eo32⟩ := Kd.R_slice HO_6.out
              subst eo32
              go_wp2
              repeat (go_quiet (fail); try go_wp2)
              go_loopg [64] kj20 (fun kq v64 w' => ∃ (x64_3 : Int), v64 = .int .i64 x64_3 ∧ Aside0 (sackbutlaw05_PackTurns.l0 kq l1 t172 t176 (wrap64 (Int.tdiv (wrap64 (8 * (wrap64 (1 + (wrap64 (Int.tmod a0 3)))))) 8)) (t172.length : Int) x64_3 = some r) ∧ Aside0 (kq ≤ kj20) ∧ Aside0 (Kd.R (Kd.int .u8) 5 w' w.heap.size (fun k_ => some k_ ≠ (v177 : Value).ownBlock) (.slice Ao32 t172.length co32) t172) ∧ Aside0 (Kd.R (Kd.int .u8) 5 w' w.heap.size (fun k_ => some k_ ≠ ((.slice Ao32 t172.length co32) : Value).ownBlock) v177 t176) ∧ Aside0 (w'.heap[gb167]? = some (.cells #[.int .i64 (wrap64 (8 * (wrap64 (1 + (wrap64 (Int.tmod a0 3)))))), .bool false] 23 (0, 0))) ∧ Aside0 (Below w.heap.size w w'))
              case atStart => exact ⟨(0), (by first | rfl | (simp; done) | (simp [*]; done)), H', ⟨Nat.le_refl _⟩, ⟨by (with_reducible repeat (first | apply Kd.R_alloc | apply Kd.R_drewN | apply Kd.R_drew)); exact HO_6.out⟩, ⟨by (with_reducible repeat (first | apply Kd.R_alloc | apply Kd.R_drewN | apply Kd.R_drew)); exact HO_8.out⟩, ⟨by (with_reducible repeat (first | refine blk_drewN ?_ _ | refine blk_drew ?_ | refine blk_alloc ?_ _)); exact BK167.out⟩, ⟨by repeat (first | (with_reducible first | exact HB.out | apply below_alloc | apply pw_below_drewN | apply below_drew1 | refine below_set ?_ GE167.out) | exact HB.out)⟩⟩
              case round =>
                clear H'
                try clear c1
                try clear c2
                try clear p2
                try clear c3
                try clear c4
                try clear p6
                try clear c7
                try clear c9
                try clear c16
                try clear c26
                try clear c26b0
                try clear c26b1
                try clear c27
                try clear c27b0
                try clear c27b1
                try clear c30
                try clear hcz12_0
                try clear hcz12_1
                try clear hcz22_0
                try clear hcz22_1
                try clear hcz24_0
                try clear hcz24_1
                try clear hcz31_0
                try clear hcz31_1
                try clear hcz5_0
                try clear hcz5_1
                try clear hfz12_0
                try clear hfz12_1
                try clear hfz22_0
                try clear hfz22_1
                try clear hfz24_0
                try clear hfz24_1
                try clear hfz31_0
                try clear hfz31_1
                try clear hfz5_0
                try clear hfz5_1
                try clear p2
                try clear p6
                obtain ⟨x64_3, rfl, HA, HK3, HO_6, HO_8, BK167, HB⟩ := hrel
                cases gk with
                | zero => exact absurd HA.out (by simp [sackbutlaw05_PackTurns.l0])
                | succ k3 =>
                  have H := HA.out
                  clear HA
                  simp only [sackbutlaw05_PackTurns.l0] at H
                  by_cases c33 : x64_3 < (t172.length : Int)
                  · rw [if_pos c33] at H
                    have c33b0 : decide (x64_3 < (t172.length : Int)) = true := decide_eq_true c33
                    clear c33
                    by_cases c34 : 0 ≤ x64_3
                    · rw [if_pos c34] at H
                      have c34b0 : decide (0 ≤ x64_3) = true := decide_eq_true c34
                      clear c34
                      by_cases c35 : x64_3 < (t172.length : Int)
                      · rw [if_pos c35] at H
                        have c35b0 : decide (x64_3 < (t172.length : Int)) = true := decide_eq_true c35
                        clear c35
                        by_cases c36 : (wrap64 (Int.tdiv (wrap64 (8 * (wrap64 (1 + (wrap64 (Int.tmod a0 3)))))) 8)) = 0
                        · rw [if_pos c36] at H
                          exact absurd H (by simp)
                        · rw [if_neg c36] at H
                          have c36b0 : ((wrap64 (Int.tdiv (wrap64 (8 * (wrap64 (1 + (wrap64 (Int.tmod a0 3)))))) 8)) == 0) = false := beq_eq_false_iff_ne.mpr c36
                          have c36b1 : ((wrap64 (Int.tdiv (wrap64 (8 * (wrap64 (1 + (wrap64 (Int.tmod a0 3)))))) 8)) != 0) = true := bne_iff_ne.mpr c36
                          obtain ⟨ji37, hji37⟩ : ∃ j_ : Int, (wrap64 ((wrap64 ((wrap64 ((wrap64 ((wrap64 (Int.tdiv x64_3 (wrap64 (Int.tdiv (wrap64 (8 * (wrap64 (1 + (wrap64 (Int.tmod a0 3)))))) 8)))) * (wrap64 (Int.tdiv (wrap64 (8 * (wrap64 (1 + (wrap64 (Int.tmod a0 3)))))) 8)))) + (wrap64 (Int.tdiv (wrap64 (8 * (wrap64 (1 + (wrap64 (Int.tmod a0 3)))))) 8)))) - 1)) - (Int.tmod x64_3 (wrap64 (Int.tdiv (wrap64 (8 * (wrap64 (1 + (wrap64 (Int.tmod a0 3)))))) 8))))) = j_ := ⟨_, rfl⟩
                          replace H : (if 0 ≤ (ji37) then (if (ji37) < (t176.length : Int) then (if (rd t172 x64_3) = (rd t176 (ji37)) then (sackbutlaw05_PackTurns.l0 k3 l1 t172 t176 (wrap64 (Int.tdiv (wrap64 (8 * (wrap64 (1 + (wrap64 (Int.tmod a0 3)))))) 8)) (t172.length : Int) (wrap64 (x64_3 + 1))) else (some false)) else (none)) else (none)) = some r := by first | (rw [hji37] at H; exact H) | (simp only [hji37] at H ⊢; exact H)
                          have hji37w : (IntKind.i64.wrap ((wrap64 ((wrap64 ((wrap64 ((wrap64 (Int.tdiv x64_3 (wrap64 (Int.tdiv (wrap64 (8 * (wrap64 (1 + (wrap64 (Int.tmod a0 3)))))) 8)))) * (wrap64 (Int.tdiv (wrap64 (8 * (wrap64 (1 + (wrap64 (Int.tmod a0 3)))))) 8)))) + (wrap64 (Int.tdiv (wrap64 (8 * (wrap64 (1 + (wrap64 (Int.tmod a0 3)))))) 8)))) - 1)) - (Int.tmod x64_3 (wrap64 (Int.tdiv (wrap64 (8 * (wrap64 (1 + (wrap64 (Int.tmod a0 3)))))) 8))))) = ji37 := (i64_w _).trans hji37
                          by_cases c38 : 0 ≤ (ji37)
                          · rw [if_pos c38] at H
                            have c38b0 : decide (0 ≤ (ji37)) = true := decide_eq_true c38
                            clear c38
                            by_cases c39 : (ji37) < (t176.length : Int)
                            · rw [if_pos c39] at H
                              have c39b0 : decide ((ji37) < (t176.length : Int)) = true := decide_eq_true c39
                              clear c39
                              by_cases c40 : (rd t172 x64_3) = (rd t176 (ji37))
                              · rw [if_pos c40] at H
                                have c40b0 : ((rd t172 x64_3) == (rd t176 (ji37))) = true := beq_iff_eq.mpr c40
                                have c40b1 : ((rd t172 x64_3) != (rd t176 (ji37))) = false := bne_eq_false_iff_eq.mpr c40
                                clear c40
                                have H' := Aside0.mk H
                                clear H
                                have p180 : 0 ≤ (x64_3 : Int) := of_decide_eq_true (by first | (with_reducible assumption) | assumption)
                                have q180 : x64_3 < (t172.length : Int) := of_decide_eq_true (by first | (with_reducible assumption) | assumption)
                                obtain ⟨ad180, e180, hx180_0⟩ := Kd.at_int (Kd.R_reads' HO_6.out).2.2 x64_3 p180 q180
                                cases e180
                                replace p180 := eq_true p180
                                replace q180 := eq_true q180
                                obtain ⟨Ao41, co41, eo41⟩ := Kd.R_slice HO_8.out
                                subst eo41
                                have p181 : 0 ≤ ((ji37) : Int) := of_decide_eq_true (by first | (with_reducible assumption) | assumption)
                                have q181 : (ji37) < (t176.length : Int) := of_decide_eq_true (by first | (with_reducible assumption) | assumption)
                                obtain ⟨ad181, e181, hx181_0⟩ := Kd.at_int (Kd.R_reads' HO_8.out).2.2 (ji37) p181 q181
                                cases e181
                                replace p181 := eq_true p181
                                replace q181 := eq_true q181
                                go_wp2
                                repeat (go_quiet (fail); try go_wp2)
                                go_roundg k3
                                case measure => have := HJ2.out; have := HJ20.out; have := HK3.out; omega
                                case rel => exact ⟨(wrap64 (x64_3 + 1)), (by first | rfl | (simp; done) | (simp [*]; done)), H', ⟨by have := HJ2.out; have := HJ20.out; have := HK3.out; omega⟩, ⟨by (with_reducible repeat (first | apply Kd.R_alloc | apply Kd.R_drewN | apply Kd.R_drew)); exact HO_6.out⟩, ⟨by (with_reducible repeat (first | apply Kd.R_alloc | apply Kd.R_drewN | apply Kd.R_drew)); exact HO_8.out⟩, ⟨by (with_reducible repeat (first | refine blk_drewN ?_ _ | refine blk_drew ?_ | refine blk_alloc ?_ _)); exact BK167.out⟩, ⟨by repeat (first | (with_reducible first | exact HB.out | apply below_alloc | apply pw_below_drewN | apply below_drew1 | refine below_set ?_ GE167.out) | exact HB.out)⟩⟩
                              · rw [if_neg c40] at H
                                have c40b0 : ((rd t172 x64_3) == (rd t176 (ji37))) = false := beq_eq_false_iff_ne.mpr c40
                                have c40b1 : ((rd t172 x64_3) != (rd t176 (ji37))) = true := bne_iff_ne.mpr c40
                                obtain rfl := Option.some.inj H
                                have p180 : 0 ≤ (x64_3 : Int) := of_decide_eq_true (by first | (with_reducible assumption) | assumption)
                                have q180 : x64_3 < (t172.length : Int) := of_decide_eq_true (by first | (with_reducible assumption) | assumption)
                                obtain ⟨ad180, e180, hx180_0⟩ := Kd.at_int (Kd.R_reads' HO_6.out).2.2 x64_3 p180 q180
                                cases e180
                                replace p180 := eq_true p180
                                replace q180 := eq_true q180
                                obtain ⟨Ao42, co42, eo42⟩ := Kd.R_slice HO_8.out
                                subst eo42
                                have p181 : 0 ≤ ((ji37) : Int) := of_decide_eq_true (by first | (with_reducible assumption) | assumption)
                                have q181 : (ji37) < (t176.length : Int) := of_decide_eq_true (by first | (with_reducible assumption) | assumption)
                                obtain ⟨ad181, e181, hx181_0⟩ := Kd.at_int (Kd.R_reads' HO_8.out).2.2 (ji37) p181 q181
                                cases e181
                                replace p181 := eq_true p181
                                replace q181 := eq_true q181
                                go_wp2
                                repeat (go_quiet (fail); try go_wp2)
                                go_ret
                                exact ⟨by first | rfl | (simp [errW_none, errW_some] <;> rfl) | (simp only [← hji37]; first | rfl | (simp [errW_none, errW_some] <;> rfl)) | (simp [*, errW_none, errW_some] <;> rfl), by repeat (first | (with_reducible first | exact HB.out | apply below_alloc | apply pw_below_drewN | apply below_drew1 | refine below_set ?_ GE167.out) | exact HB.out)⟩
                            · rw [if_neg c39] at H
                              exact absurd H (by simp)
                          · rw [if_neg c38] at H
                            exact absurd H (by simp)
                      · rw [if_neg c35] at H
                        exact absurd H (by simp)
                    · rw [if_neg c34] at H
                      exact absurd H (by simp)
                  · rw [if_neg c33] at H
                    have c33b0 : decide (x64_3 < (t172.length : Int)) = false := decide_eq_false c33
                    clear c33
                    obtain ⟨y182, hy182⟩ : ∃ y_ : List Int, y_ = (([(t172.length : Int)] : List Int)) := ⟨_, rfl⟩
                    replace H : (if 0 < (l1.length : Int) then ((sackbutref01_Same.f k3 y182 (([wrap64 ((wrap64 ((l1.length : Int) * ((rd_L1 l1 0).length : Int))) * (wrap64 (Int.tdiv (wrap64 (8 * (wrap64 (1 + (wrap64 (Int.tmod a0 3)))))) 8)))] : List Int))).bind fun t189 => (some t189)) else (none)) = some r := by first | (rw [hy182]; with_reducible exact H) | (have H2_ := (Option.bind_some _ _).symm.trans H; rw [hy182]; with_reducible exact H2_) | (have H2_ := (Option.bind_some _ _).symm.trans H; with_reducible exact H2_) | with_reducible exact H | (rw [hy182]; exact H) | exact H
                    have Ny182 := Aside0.mk hy182
                    clear hy182
                    by_cases c43 : 0 < (l1.length : Int)
                    · rw [if_pos c43] at H
                      have c43b0 : decide (0 < (l1.length : Int)) = true := decide_eq_true c43
                      have c43b1 : decide (0 < l1.length) = true := decide_eq_true (by omega)
                      clear c43
                      obtain ⟨y186, hy186⟩ : ∃ y_ : List Int, y_ = (([wrap64 ((wrap64 ((l1.length : Int) * ((rd_L1 l1 0).length : Int))) * (wrap64 (Int.tdiv (wrap64 (8 * (wrap64 (1 + (wrap64 (Int.tmod a0 3)))))) 8)))] : List Int)) := ⟨_, rfl⟩
                      replace H : ((sackbutref01_Same.f k3 y182 y186).bind fun t189 => (some t189)) = some r := by first | (rw [hy186]; with_reducible exact H) | (have H2_ := (Option.bind_some _ _).symm.trans H; rw [hy186]; with_reducible exact H2_) | (have H2_ := (Option.bind_some _ _).symm.trans H; with_reducible exact H2_) | with_reducible exact H | (rw [hy186]; exact H) | exact H
                      have Ny186 := Aside0.mk hy186
                      clear hy186
                      replace H := Option.bind_eq_some_iff.mp H
                      obtain ⟨t189, A440, H⟩ := H
                      replace H : (some t189) = some r := H
                      have A44 := Aside0.mk A440
                      clear A440
                      obtain rfl := Option.some.inj H
                      go_wp2_with (first | ((with_reducible refine gate_dst (N := 90) rfl ?_); (try (refine gate_guard (by rfl) ?_; dsimp only)); refine Kd.R_lit (Kd.int .i64) _ 3 ?hg (N := 90) ?hd (xs := ([(t172.length : Int)] : List Int)) (inner := [.int .i64 (t172.length : Int)]) (ok := fun _ => True) (okp := fun _ => True) ?hr ?hp (fun _ hk => hk) trivial (Below.refl _ _) (Nat.le_refl _) (by simp) ?_; (case hd => rfl); (case hg => rfl); (case hr => first | (go_simp; done) | (go_simp; rfl)); (case hp => exact (Reps.one (show Kd.M (Kd.int .i64) _ _ _ (t172.length : Int) [.int .i64 (t172.length : Int)] from rfl) (Reps.none _ _))); intro v183 w45 ho46 hb hg_ hnew_; clear hg_ hnew_; (first | rw [← Ny182.out] at ho46 | (simp only [Int.reduceToNat] at ho46; rw [← Ny182.out] at ho46)); have n0_ := Aside0.mk (Kd.R_below (by (with_reducible repeat (first | apply Kd.R_alloc | apply Kd.R_drewN | apply Kd.R_drew)); exact HO_6.out) hb); have n1_ := Aside0.mk (Kd.R_below (by (with_reducible repeat (first | apply Kd.R_alloc | apply Kd.R_drewN | apply Kd.R_drew)); exact HO_8.out) hb); have n2_ := Aside0.mk (Kd.R_lower ho46 (below_size (by repeat (first | (with_reducible first | exact HB.out | apply below_alloc | apply pw_below_drewN | apply below_drew1 | refine below_set ?_ GE167.out) | exact HB.out)))); have n3_ := Aside0.mk (blk_below (g := gb167) (o := .cells #[.int .i64 (wrap64 (8 * (wrap64 (1 + (wrap64 (Int.tmod a0 3)))))), .bool false] 23 (0, 0)) (by (with_reducible repeat (first | refine blk_drewN ?_ _ | refine blk_drew ?_ | refine blk_alloc ?_ _)); exact BK167.out) hb); have n4_ := Aside0.mk (below_step (by repeat (first | (with_reducible first | exact HB.out | apply below_alloc | apply pw_below_drewN | apply below_drew1 | refine below_set ?_ GE167.out) | exact HB.out)) hb); clear HO_6; clear HO_8; clear BK167; clear HB; have HO_6 := n0_; have HO_8 := n1_; have HO184 := n2_; have BK167 := n3_; have HB := n4_; clear n0_ n1_ n2_ n3_ n4_; clear hb ho46; have p185 : 0 ≤ (0 : Int) := (by omega); have q185 : 0 < (l1.length : Int) := of_decide_eq_true (by first | (with_reducible assumption) | assumption); obtain ⟨ad185, A185_0, c185_0, e185, hx185_0, hl185_0, hi185_0⟩ := at_L1 HR1.out 0 p185 q185; cases e185; have qi185 : (0 < l1.length) = True := eq_true (by omega); (try rw [show ((0 : Int)).toNat = 0 from rfl] at hx185_0); (try rw [Addr.add_zero'] at hx185_0); replace hx185_0 := (HB.out.cell (World.block_lt_of_cell? w _ hx185_0)).trans hx185_0; have HR185_0 := Aside0.mk hi185_0; have HC185_0 := Aside0.mk hl185_0; clear hi185_0 hl185_0; replace p185 := eq_true p185; replace q185 := eq_true q185) | ((with_reducible refine gate_dst (N := 100) rfl ?_); (try (refine gate_guard (by rfl) ?_; dsimp only)); refine Kd.R_lit (Kd.int .i64) _ 3 ?hg (N := 100) ?hd (xs := ([wrap64 ((wrap64 ((l1.length : Int) * ((rd_L1 l1 0).length : Int))) * (wrap64 (Int.tdiv (wrap64 (8 * (wrap64 (1 + (wrap64 (Int.tmod a0 3)))))) 8)))] : List Int)) (inner := [.int .i64 (wrap64 ((wrap64 ((l1.length : Int) * ((rd_L1 l1 0).length : Int))) * (wrap64 (Int.tdiv (wrap64 (8 * (wrap64 (1 + (wrap64 (Int.tmod a0 3)))))) 8))))]) (ok := fun _ => True) (okp := fun _ => True) ?hr ?hp (fun _ hk => hk) trivial (Below.refl _ _) (Nat.le_refl _) (by simp) ?_; (case hd => rfl); (case hg => rfl); (case hr => first | (go_simp; done) | (go_simp; rfl)); (case hp => exact (Reps.one (show Kd.M (Kd.int .i64) _ _ _ (wrap64 ((wrap64 ((l1.length : Int) * ((rd_L1 l1 0).length : Int))) * (wrap64 (Int.tdiv (wrap64 (8 * (wrap64 (1 + (wrap64 (Int.tmod a0 3)))))) 8)))) [.int .i64 (wrap64 ((wrap64 ((l1.length : Int) * ((rd_L1 l1 0).length : Int))) * (wrap64 (Int.tdiv (wrap64 (8 * (wrap64 (1 + (wrap64 (Int.tmod a0 3)))))) 8))))] from rfl) (Reps.none _ _))); intro v187 w47 ho48 hb hg_ hnew_; clear hg_ hnew_; (first | rw [← Ny186.out] at ho48 | (simp only [Int.reduceToNat] at ho48; rw [← Ny186.out] at ho48)); have n0_ := Aside0.mk (Kd.R_below (by (with_reducible repeat (first | apply Kd.R_alloc | apply Kd.R_drewN | apply Kd.R_drew)); exact HO_6.out) hb); have n1_ := Aside0.mk (Kd.R_below (by (with_reducible repeat (first | apply Kd.R_alloc | apply Kd.R_drewN | apply Kd.R_drew)); exact HO_8.out) hb); have n2_ := Aside0.mk (Kd.R_elder' (by (with_reducible repeat (first | apply Kd.R_alloc | apply Kd.R_drewN | apply Kd.R_drew)); exact HO184.out) (Kd.R_base ho48) hb); have n3_ := Aside0.mk (Kd.R_lower (Kd.R_new' ho48 (Kd.R_lt (by (with_reducible repeat (first | apply Kd.R_alloc | apply Kd.R_drewN | apply Kd.R_drew)); exact HO184.out))) (below_size (by repeat (first | (with_reducible first | exact HB.out | apply below_alloc | apply pw_below_drewN | apply below_drew1 | refine below_set ?_ GE167.out) | exact HB.out)))); have n4_ := Aside0.mk (blk_below (g := gb167) (o := .cells #[.int .i64 (wrap64 (8 * (wrap64 (1 + (wrap64 (Int.tmod a0 3)))))), .bool false] 23 (0, 0)) (by (with_reducible repeat (first | refine blk_drewN ?_ _ | refine blk_drew ?_ | refine blk_alloc ?_ _)); exact BK167.out) hb); have n5_ := Aside0.mk (below_step (by repeat (first | (with_reducible first | exact HB.out | apply below_alloc | apply pw_below_drewN | apply below_drew1 | refine below_set ?_ GE167.out) | exact HB.out)) hb); clear HO_6; clear HO_8; clear HO184; clear BK167; clear HB; have HO_6 := n0_; have HO_8 := n1_; have HO184 := n2_; have HO188 := n3_; have BK167 := n4_; have HB := n5_; clear n0_ n1_ n2_ n3_ n4_ n5_; clear hb ho48; obtain ⟨Ao49, co49, eo49⟩ := Kd.R_slice HO184.out; subst eo49; obtain ⟨Ao50, co50, eo50⟩ := Kd.R_slice HO188.out; subst eo50) | (go_at_call 16; (with_reducible refine (sackbutref01_Same.calls k3 _ _ y182 _ _ y186 t189 _ ?side1 ?side2 ?side3 ?side4 A44.out).mono ?_); (case side1 => repeat (first | exact (Kd.R_reads' HO184.out).2.2 | (with_reducible refine Kd.C_alloc ?_ _) | (with_reducible refine Kd.C_drewN ?_ _) | (with_reducible refine Kd.C_drew ?_))); (case side2 => exact (Kd.R_reads' HO184.out).2.1); (case side3 => repeat (first | exact (Kd.R_reads' HO188.out).2.2 | (with_reducible refine Kd.C_alloc ?_ _) | (with_reducible refine Kd.C_drewN ?_ _) | (with_reducible refine Kd.C_drew ?_))); (case side4 => exact (Kd.R_reads' HO188.out).2.1); rintro e w' ⟨rfl, ⟨nd, rfl⟩⟩; (try first | exact ⟨rfl, _, World.drewN_drewN _ _ _⟩ | exact ⟨rfl, _, Eq.trans (World.drewN_drewN _ _ _) (congrArg (World.drewN _) (Nat.add_assoc _ _ _))⟩)))
                      repeat (go_quiet (first | ((with_reducible refine gate_dst (N := 90) rfl ?_); (try (refine gate_guard (by rfl) ?_; dsimp only)); refine Kd.R_lit (Kd.int .i64) _ 3 ?hg (N := 90) ?hd (xs := ([(t172.length : Int)] : List Int)) (inner := [.int .i64 (t172.length : Int)]) (ok := fun _ => True) (okp := fun _ => True) ?hr ?hp (fun _ hk => hk) trivial (Below.refl _ _) (Nat.le_refl _) (by simp) ?_; (case hd => rfl); (case hg => rfl); (case hr => first | (go_simp; done) | (go_simp; rfl)); (case hp => exact (Reps.one (show Kd.M (Kd.int .i64) _ _ _ (t172.length : Int) [.int .i64 (t172.length : Int)] from rfl) (Reps.none _ _))); intro v183 w45 ho46 hb hg_ hnew_; clear hg_ hnew_; (first | rw [← Ny182.out] at ho46 | (simp only [Int.reduceToNat] at ho46; rw [← Ny182.out] at ho46)); have n0_ := Aside0.mk (Kd.R_below (by (with_reducible repeat (first | apply Kd.R_alloc | apply Kd.R_drewN | apply Kd.R_drew)); exact HO_6.out) hb); have n1_ := Aside0.mk (Kd.R_below (by (with_reducible repeat (first | apply Kd.R_alloc | apply Kd.R_drewN | apply Kd.R_drew)); exact HO_8.out) hb); have n2_ := Aside0.mk (Kd.R_lower ho46 (below_size (by repeat (first | (with_reducible first | exact HB.out | apply below_alloc | apply pw_below_drewN | apply below_drew1 | refine below_set ?_ GE167.out) | exact HB.out)))); have n3_ := Aside0.mk (blk_below (g := gb167) (o := .cells #[.int .i64 (wrap64 (8 * (wrap64 (1 + (wrap64 (Int.tmod a0 3)))))), .bool false] 23 (0, 0)) (by (with_reducible repeat (first | refine blk_drewN ?_ _ | refine blk_drew ?_ | refine blk_alloc ?_ _)); exact BK167.out) hb); have n4_ := Aside0.mk (below_step (by repeat (first | (with_reducible first | exact HB.out | apply below_alloc | apply pw_below_drewN | apply below_drew1 | refine below_set ?_ GE167.out) | exact HB.out)) hb); clear HO_6; clear HO_8; clear BK167; clear HB; have HO_6 := n0_; have HO_8 := n1_; have HO184 := n2_; have BK167 := n3_; have HB := n4_; clear n0_ n1_ n2_ n3_ n4_; clear hb ho46; have p185 : 0 ≤ (0 : Int) := (by omega); have q185 : 0 < (l1.length : Int) := of_decide_eq_true (by first | (with_reducible assumption) | assumption); obtain ⟨ad185, A185_0, c185_0, e185, hx185_0, hl185_0, hi185_0⟩ := at_L1 HR1.out 0 p185 q185; cases e185; have qi185 : (0 < l1.length) = True := eq_true (by omega); (try rw [show ((0 : Int)).toNat = 0 from rfl] at hx185_0); (try rw [Addr.add_zero'] at hx185_0); replace hx185_0 := (HB.out.cell (World.block_lt_of_cell? w _ hx185_0)).trans hx185_0; have HR185_0 := Aside0.mk hi185_0; have HC185_0 := Aside0.mk hl185_0; clear hi185_0 hl185_0; replace p185 := eq_true p185; replace q185 := eq_true q185) | ((with_reducible refine gate_dst (N := 100) rfl ?_); (try (refine gate_guard (by rfl) ?_; dsimp only)); refine Kd.R_lit (Kd.int .i64) _ 3 ?hg (N := 100) ?hd (xs := ([wrap64 ((wrap64 ((l1.length : Int) * ((rd_L1 l1 0).length : Int))) * (wrap64 (Int.tdiv (wrap64 (8 * (wrap64 (1 + (wrap64 (Int.tmod a0 3)))))) 8)))] : List Int)) (inner := [.int .i64 (wrap64 ((wrap64 ((l1.length : Int) * ((rd_L1 l1 0).length : Int))) * (wrap64 (Int.tdiv (wrap64 (8 * (wrap64 (1 + (wrap64 (Int.tmod a0 3)))))) 8))))]) (ok := fun _ => True) (okp := fun _ => True) ?hr ?hp (fun _ hk => hk) trivial (Below.refl _ _) (Nat.le_refl _) (by simp) ?_; (case hd => rfl); (case hg => rfl); (case hr => first | (go_simp; done) | (go_simp; rfl)); (case hp => exact (Reps.one (show Kd.M (Kd.int .i64) _ _ _ (wrap64 ((wrap64 ((l1.length : Int) * ((rd_L1 l1 0).length : Int))) * (wrap64 (Int.tdiv (wrap64 (8 * (wrap64 (1 + (wrap64 (Int.tmod a0 3)))))) 8)))) [.int .i64 (wrap64 ((wrap64 ((l1.length : Int) * ((rd_L1 l1 0).length : Int))) * (wrap64 (Int.tdiv (wrap64 (8 * (wrap64 (1 + (wrap64 (Int.tmod a0 3)))))) 8))))] from rfl) (Reps.none _ _))); intro v187 w47 ho48 hb hg_ hnew_; clear hg_ hnew_; (first | rw [← Ny186.out] at ho48 | (simp only [Int.reduceToNat] at ho48; rw [← Ny186.out] at ho48)); have n0_ := Aside0.mk (Kd.R_below (by (with_reducible repeat (first | apply Kd.R_alloc | apply Kd.R_drewN | apply Kd.R_drew)); exact HO_6.out) hb); have n1_ := Aside0.mk (Kd.R_below (by (with_reducible repeat (first | apply Kd.R_alloc | apply Kd.R_drewN | apply Kd.R_drew)); exact HO_8.out) hb); have n2_ := Aside0.mk (Kd.R_elder' (by (with_reducible repeat (first | apply Kd.R_alloc | apply Kd.R_drewN | apply Kd.R_drew)); exact HO184.out) (Kd.R_base ho48) hb); have n3_ := Aside0.mk (Kd.R_lower (Kd.R_new' ho48 (Kd.R_lt (by (with_reducible repeat (first | apply Kd.R_alloc | apply Kd.R_drewN | apply Kd.R_drew)); exact HO184.out))) (below_size (by repeat (first | (with_reducible first | exact HB.out | apply below_alloc | apply pw_below_drewN | apply below_drew1 | refine below_set ?_ GE167.out) | exact HB.out)))); have n4_ := Aside0.mk (blk_below (g := gb167) (o := .cells #[.int .i64 (wrap64 (8 * (wrap64 (1 + (wrap64 (Int.tmod a0 3)))))), .bool false] 23 (0, 0)) (by (with_reducible repeat (first | refine blk_drewN ?_ _ | refine blk_drew ?_ | refine blk_alloc ?_ _)); exact BK167.out) hb); have n5_ := Aside0.mk (below_step (by repeat (first | (with_reducible first | exact HB.out | apply below_alloc | apply pw_below_drewN | apply below_drew1 | refine below_set ?_ GE167.out) | exact HB.out)) hb); clear HO_6; clear HO_8; clear HO184; clear BK167; clear HB; have HO_6 := n0_; have HO_8 := n1_; have HO184 := n2_; have HO188 := n3_; have BK167 := n4_; have HB := n5_; clear n0_ n1_ n2_ n3_ n4_ n5_; clear hb ho48; obtain ⟨Ao49, co49, eo49⟩ := Kd.R_slice HO184.out; subst eo49; obtain ⟨Ao50, co50, eo50⟩ := Kd.R_slice HO188.out; subst eo50) | (go_at_call 16; (with_reducible refine (sackbutref01_Same.calls k3 _ _ y182 _ _ y186 t189 _ ?side1 ?side2 ?side3 ?side4 A44.out).mono ?_); (case side1 => repeat (first | exact (Kd.R_reads' HO184.out).2.2 | (with_reducible refine Kd.C_alloc ?_ _) | (with_reducible refine Kd.C_drewN ?_ _) | (with_reducible refine Kd.C_drew ?_))); (case side2 => exact (Kd.R_reads' HO184.out).2.1); (case side3 => repeat (first | exact (Kd.R_reads' HO188.out).2.2 | (with_reducible refine Kd.C_alloc ?_ _) | (with_reducible refine Kd.C_drewN ?_ _) | (with_reducible refine Kd.C_drew ?_))); (case side4 => exact (Kd.R_reads' HO188.out).2.1); rintro e w' ⟨rfl, ⟨nd, rfl⟩⟩; (try first | exact ⟨rfl, _, World.drewN_drewN _ _ _⟩ | exact ⟨rfl, _, Eq.trans (World.drewN_drewN _ _ _) (congrArg (World.drewN _) (Nat.add_assoc _ _ _))⟩))); try go_wp2_with (first | ((with_reducible refine gate_dst (N := 90) rfl ?_); (try (refine gate_guard (by rfl) ?_; dsimp only)); refine Kd.R_lit (Kd.int .i64) _ 3 ?hg (N := 90) ?hd (xs := ([(t172.length : Int)] : List Int)) (inner := [.int .i64 (t172.length : Int)]) (ok := fun _ => True) (okp := fun _ => True) ?hr ?hp (fun _ hk => hk) trivial (Below.refl _ _) (Nat.le_refl _) (by simp) ?_; (case hd => rfl); (case hg => rfl); (case hr => first | (go_simp; done) | (go_simp; rfl)); (case hp => exact (Reps.one (show Kd.M (Kd.int .i64) _ _ _ (t172.length : Int) [.int .i64 (t172.length : Int)] from rfl) (Reps.none _ _))); intro v183 w45 ho46 hb hg_ hnew_; clear hg_ hnew_; (first | rw [← Ny182.out] at ho46 | (simp only [Int.reduceToNat] at ho46; rw [← Ny182.out] at ho46)); have n0_ := Aside0.mk (Kd.R_below (by (with_reducible repeat (first | apply Kd.R_alloc | apply Kd.R_drewN | apply Kd.R_drew)); exact HO_6.out) hb); have n1_ := Aside0.mk (Kd.R_below (by (with_reducible repeat (first | apply Kd.R_alloc | apply Kd.R_drewN | apply Kd.R_drew)); exact HO_8.out) hb); have n2_ := Aside0.mk (Kd.R_lower ho46 (below_size (by repeat (first | (with_reducible first | exact HB.out | apply below_alloc | apply pw_below_drewN | apply below_drew1 | refine below_set ?_ GE167.out) | exact HB.out)))); have n3_ := Aside0.mk (blk_below (g := gb167) (o := .cells #[.int .i64 (wrap64 (8 * (wrap64 (1 + (wrap64 (Int.tmod a0 3)))))), .bool false] 23 (0, 0)) (by (with_reducible repeat (first | refine blk_drewN ?_ _ | refine blk_drew ?_ | refine blk_alloc ?_ _)); exact BK167.out) hb); have n4_ := Aside0.mk (below_step (by repeat (first | (with_reducible first | exact HB.out | apply below_alloc | apply pw_below_drewN | apply below_drew1 | refine below_set ?_ GE167.out) | exact HB.out)) hb); clear HO_6; clear HO_8; clear BK167; clear HB; have HO_6 := n0_; have HO_8 := n1_; have HO184 := n2_; have BK167 := n3_; have HB := n4_; clear n0_ n1_ n2_ n3_ n4_; clear hb ho46; have p185 : 0 ≤ (0 : Int) := (by omega); have q185 : 0 < (l1.length : Int) := of_decide_eq_true (by first | (with_reducible assumption) | assumption); obtain ⟨ad185, A185_0, c185_0, e185, hx185_0, hl185_0, hi185_0⟩ := at_L1 HR1.out 0 p185 q185; cases e185; have qi185 : (0 < l1.length) = True := eq_true (by omega); (try rw [show ((0 : Int)).toNat = 0 from rfl] at hx185_0); (try rw [Addr.add_zero'] at hx185_0); replace hx185_0 := (HB.out.cell (World.block_lt_of_cell? w _ hx185_0)).trans hx185_0; have HR185_0 := Aside0.mk hi185_0; have HC185_0 := Aside0.mk hl185_0; clear hi185_0 hl185_0; replace p185 := eq_true p185; replace q185 := eq_true q185) | ((with_reducible refine gate_dst (N := 100) rfl ?_); (try (refine gate_guard (by rfl) ?_; dsimp only)); refine Kd.R_lit (Kd.int .i64) _ 3 ?hg (N := 100) ?hd (xs := ([wrap64 ((wrap64 ((l1.length : Int) * ((rd_L1 l1 0).length : Int))) * (wrap64 (Int.tdiv (wrap64 (8 * (wrap64 (1 + (wrap64 (Int.tmod a0 3)))))) 8)))] : List Int)) (inner := [.int .i64 (wrap64 ((wrap64 ((l1.length : Int) * ((rd_L1 l1 0).length : Int))) * (wrap64 (Int.tdiv (wrap64 (8 * (wrap64 (1 + (wrap64 (Int.tmod a0 3)))))) 8))))]) (ok := fun _ => True) (okp := fun _ => True) ?hr ?hp (fun _ hk => hk) trivial (Below.refl _ _) (Nat.le_refl _) (by simp) ?_; (case hd => rfl); (case hg => rfl); (case hr => first | (go_simp; done) | (go_simp; rfl)); (case hp => exact (Reps.one (show Kd.M (Kd.int .i64) _ _ _ (wrap64 ((wrap64 ((l1.length : Int) * ((rd_L1 l1 0).length : Int))) * (wrap64 (Int.tdiv (wrap64 (8 * (wrap64 (1 + (wrap64 (Int.tmod a0 3)))))) 8)))) [.int .i64 (wrap64 ((wrap64 ((l1.length : Int) * ((rd_L1 l1 0).length : Int))) * (wrap64 (Int.tdiv (wrap64 (8 * (wrap64 (1 + (wrap64 (Int.tmod a0 3)))))) 8))))] from rfl) (Reps.none _ _))); intro v187 w47 ho48 hb hg_ hnew_; clear hg_ hnew_; (first | rw [← Ny186.out] at ho48 | (simp only [Int.reduceToNat] at ho48; rw [← Ny186.out] at ho48)); have n0_ := Aside0.mk (Kd.R_below (by (with_reducible repeat (first | apply Kd.R_alloc | apply Kd.R_drewN | apply Kd.R_drew)); exact HO_6.out) hb); have n1_ := Aside0.mk (Kd.R_below (by (with_reducible repeat (first | apply Kd.R_alloc | apply Kd.R_drewN | apply Kd.R_drew)); exact HO_8.out) hb); have n2_ := Aside0.mk (Kd.R_elder' (by (with_reducible repeat (first | apply Kd.R_alloc | apply Kd.R_drewN | apply Kd.R_drew)); exact HO184.out) (Kd.R_base ho48) hb); have n3_ := Aside0.mk (Kd.R_lower (Kd.R_new' ho48 (Kd.R_lt (by (with_reducible repeat (first | apply Kd.R_alloc | apply Kd.R_drewN | apply Kd.R_drew)); exact HO184.out))) (below_size (by repeat (first | (with_reducible first | exact HB.out | apply below_alloc | apply pw_below_drewN | apply below_drew1 | refine below_set ?_ GE167.out) | exact HB.out)))); have n4_ := Aside0.mk (blk_below (g := gb167) (o := .cells #[.int .i64 (wrap64 (8 * (wrap64 (1 + (wrap64 (Int.tmod a0 3)))))), .bool false] 23 (0, 0)) (by (with_reducible repeat (first | refine blk_drewN ?_ _ | refine blk_drew ?_ | refine blk_alloc ?_ _)); exact BK167.out) hb); have n5_ := Aside0.mk (below_step (by repeat (first | (with_reducible first | exact HB.out | apply below_alloc | apply pw_below_drewN | apply below_drew1 | refine below_set ?_ GE167.out) | exact HB.out)) hb); clear HO_6; clear HO_8; clear HO184; clear BK167; clear HB; have HO_6 := n0_; have HO_8 := n1_; have HO184 := n2_; have HO188 := n3_; have BK167 := n4_; have HB := n5_; clear n0_ n1_ n2_ n3_ n4_ n5_; clear hb ho48; obtain ⟨Ao49, co49, eo49⟩ := Kd.R_slice HO184.out; subst eo49; obtain ⟨Ao50, co50, eo50⟩ := Kd.R_slice HO188.out; subst eo50) | (go_at_call 16; (with_reducible refine (sackbutref01_Same.calls k3 _ _ y182 _ _ y186 t189 _ ?side1 ?side2 ?side3 ?side4 A44.out).mono ?_); (case side1 => repeat (first | exact (Kd.R_reads' HO184.out).2.2 | (with_reducible refine Kd.C_alloc ?_ _) | (with_reducible refine Kd.C_drewN ?_ _) | (with_reducible refine Kd.C_drew ?_))); (case side2 => exact (Kd.R_reads' HO184.out).2.1); (case side3 => repeat (first | exact (Kd.R_reads' HO188.out).2.2 | (with_reducible refine Kd.C_alloc ?_ _) | (with_reducible refine Kd.C_drewN ?_ _) | (with_reducible refine Kd.C_drew ?_))); (case side4 => exact (Kd.R_reads' HO188.out).2.1); rintro e w' ⟨rfl, ⟨nd, rfl⟩⟩; (try first | exact ⟨rfl, _, World.drewN_drewN _ _ _⟩ | exact ⟨rfl, _, Eq.trans (World.drewN_drewN _ _ _) (congrArg (World.drewN _) (Nat.add_assoc _ _ _))⟩))))
                      go_ret
                      exact ⟨by first | rfl | (simp [errW_none, errW_some] <;> rfl) | (simp [*, errW_none, errW_some] <;> rfl), by repeat (first | (with_reducible first | exact HB.out | apply below_alloc | apply pw_below_drewN | apply below_drew1 | refine below_set ?_ GE167.out) | exact HB.out)⟩
                    · rw [if_neg c43] at H
                      exact absurd H (by simp)

end Go.Proofs.Ytmpaecdgcflalaa.HK
