/- WaveWrites: what the claim's theorem reaches of this seat's texts, part 17, put together by this project's own program (bale.py); conditions: those of each theorem. -/
import Derived.Test.YtliidobbkfmndaaVWaveWrites5
import Derived.Test.YtliidobbkfmndaaVWaveWrites6
import Derived.Test.YtliidobbkfmndaaVWaveWrites10
import Derived.Test.YtliidobbkfmndaaVWaveWrites12
import Derived.Test.YtliidobbkfmndaaVWaveWrites15
import Derived.Test.YtliidobbkfmndaaVWaveWrites16
namespace Go.Proofs.Ytliidobbkfmndaa.HW2
open Go.RowKit Go.Proofs.YtliidobbkfmndaaW.PrintWords Go.Proofs.YtliidobbkfmndaaW.PrintLast Go.Proofs.YtliidobbkfmndaaW.PrintMore
attribute [local go_sem] max2_int min2_int max_two min_two max_three min_three max_four min_four   -- for this text's walks alone
set_option linter.unusedVariables false
set_option linter.unusedSimpArgs false

attribute [local go_sem high] eqA23
/-! ### sackbutlaw19_WaveWrites: function 3 -/
mutual
def sackbutlaw19_WaveWrites.j0 : Nat → List (List Int) → Bool → Int → Int → Bool → Int → Int → Int → Int → Option (Bool)
  | 0, _, _, _, _, _, _, _, _, _ => none
  | k + 1, x1, x19, x282000, x282001, x282002, x282003, x282004, x282005, x282006 => if x19 = true then ((sackbutlaw19_awake.f k).bind fun t284 => (some t284)) else ((wave_Write.f k x282000 x282001 x282002 x282003 x282004 x282005 x282006 x1).bind fun bt285 => ((sackbutref19_Write.f k x282000 x282001 x282002 x282003 x282004 x282005 x282006 x1).bind fun bt289 => (if bt285.2 = bt289.2 then (sackbutlaw19_WaveWrites.j1 k x1 bt285.1 bt289.2 ((strOfNums bt285.1).toList != (strOfNums bt289.1).toList) x282000 x282001 x282002 x282003 x282004 x282005 x282006) else (sackbutlaw19_WaveWrites.j1 k x1 bt285.1 bt289.2 true x282000 x282001 x282002 x282003 x282004 x282005 x282006))))
def sackbutlaw19_WaveWrites.j1 : Nat → List (List Int) → List Int → Int → Bool → Int → Int → Bool → Int → Int → Int → Int → Option (Bool)
  | 0, _, _, _, _, _, _, _, _, _, _, _ => none
  | k + 1, x1, x5, x8, x42, x282000, x282001, x282002, x282003, x282004, x282005, x282006 => if x42 = true then (some false) else (if x8 = 0 then ((wave_Read.f k x5).bind fun bt293 => (if bt293.2.2.2.2.2.2.2.2 = 0 then (if (bt293.1 == x282000 && (bt293.2.1 == x282001 && (!bt293.2.2.1 && (bt293.2.2.2.1 == x282003 && (bt293.2.2.2.2.1 == 16 && (bt293.2.2.2.2.2.1 == 0 && (bt293.2.2.2.2.2.2.1 == x282006))))))) = true then ((sackbutref05_Same.f k bt293.2.2.2.2.2.2.2.1 x1).bind fun t306 => (if t306 = true then ((wave_Row.f x282000 x282001 x282002 x282003 x282004 x282005 x282006).bind fun t307 => (some (t307 == (wrap64 (Int.tdiv (wrap64 (x282000 * x282001)) 8))))) else (some false))) else (some false)) else (some false))) else (some true))
end
def sackbutlaw19_WaveWrites.f (k : Nat) (a0_0 : Int) (a0_1 : Int) (a0_2 : Bool) (a0_3 : Int) (a0_4 : Int) (a0_5 : Int) (a0_6 : Int) (l1 : List (List Int)) : Option (Bool) := (sackbutlaw19_awake.f k).bind fun t282 => (if t282 = true then ((sackbutlaw19_few.f k l1).bind fun t283 => (sackbutlaw19_WaveWrites.j0 k l1 (!t283) a0_0 a0_1 a0_2 a0_3 a0_4 a0_5 a0_6)) else (sackbutlaw19_WaveWrites.j0 k l1 true a0_0 a0_1 a0_2 a0_3 a0_4 a0_5 a0_6))
def sackbutlaw19_WaveWrites.T11 : Bool × List (List Nat × List Nat) := (true, [([], []), ([0], [0]), ([1], [1]), ([2], [2]), ([2], [2]), ([3, 4, 2], [2, 3, 4]), ([2, 5], [2, 5]), ([6, 2], [6]), ([7], [7]), ([7], [7]), ([8, 9, 7, 7], [7, 8, 9]), ([7, 10], [7, 10]), ([11, 10], [11]), ([12], [12]), ([13, 12, 12], [12, 13]), ([12], [12]), ([15, 12], [12, 15]), ([12], [12]), ([17, 12], [12, 17]), ([16, 18, 12], [12, 16, 18]), ([19, 12], [12, 19]), ([14, 20, 12], [12, 14, 20]), ([12, 21], [12, 21]), ([22, 14, 0, 1, 2, 3, 4, 5, 6, 7, 8, 9, 10, 11, 12, 13, 14, 15, 16, 17, 18, 19, 20, 21, 22], [22])])
def sackbutlaw19_WaveWrites.B11 : List Nat := [0, 1, 3, 7, 7, 31, 63, 127, 255, 255, 1023, 2047, 4095, 8191, 16383, 8191, 40959, 8191, 139263, 499711, 1023999, 2097151, 4194303, 8388607]
theorem sackbutlaw19_WaveWrites.tab11 : rtab .any (opsOf Try.f3 11) = sackbutlaw19_WaveWrites.T11 := by kernel_rfl
theorem sackbutlaw19_WaveWrites.bits11 : waitsOk sackbutlaw19_WaveWrites.T11.2 sackbutlaw19_WaveWrites.B11 = true := by kernel_rfl
set_option maxHeartbeats 8000000 in
set_option maxRecDepth 100000 in
theorem sackbutlaw19_WaveWrites.calls (k : Nat) (a0_0 : Int) (a0_1 : Int) (a0_2 : Bool) (a0_3 : Int) (a0_4 : Int) (a0_5 : Int) (a0_6 : Int) (A1 : Option Addr) (c1 : Nat) (l1 : List (List Int)) (_r : Bool) (w : World) (hr1 : Kd.C (Kd.slice 3 (Kd.int .i64)) w A1 l1.length l1) (hc1 : l1.length ≤ c1) (h : sackbutlaw19_WaveWrites.f k a0_0 a0_1 a0_2 a0_3 a0_4 a0_5 a0_6 l1 = some true) :
    Calls Try.prog 3 #[.agg #[.int .i64 a0_0, .int .i64 a0_1, .bool a0_2, .int .i64 a0_3, .int .i64 a0_4, .int .i64 a0_5, .int .i64 a0_6], .slice A1 l1.length c1] w fun e w' => e = .returned (.bool true) ∧ Below w.heap.size w w' := by
  obtain ⟨r, hrT⟩ : ∃ r : Bool, r = true := ⟨true, rfl⟩
  rw [← hrT] at h ⊢
  have HRT := Aside0.mk hrT
  clear hrT
  have hu23 := Try.underlying23
  have HR1 := Aside0.mk hr1
  have HC1 := Aside0.mk hc1
  clear hr1 hc1
  have HB := Aside0.mk (Below.refl w.heap.size w)
  have H : ((sackbutlaw19_awake.f k).bind fun t282 => (if t282 = true then ((sackbutlaw19_few.f k l1).bind fun t283 => (sackbutlaw19_WaveWrites.j0 k l1 (!t283) a0_0 a0_1 a0_2 a0_3 a0_4 a0_5 a0_6)) else (sackbutlaw19_WaveWrites.j0 k l1 true a0_0 a0_1 a0_2 a0_3 a0_4 a0_5 a0_6))) = some r := h
  clear h
  have HC3 := Aside0.mk H
  clear H
  go_enter Try.func3, Try.ntmps3
  go_upto_region 1 with (first | ((with_reducible refine gate_dst (N := 2) rfl ?_); refine box_event ?hg (N := 2) ?hd (cs := #[.int .i64 a0_0, .int .i64 a0_1, .bool a0_2, .int .i64 a0_3, .int .i64 a0_4, .int .i64 a0_5, .int .i64 a0_6]) (t := 23) ?hr ?_; (case hd => rfl); (case hg => rfl); (case hr => first | (go_simp; done) | (go_simp; rfl)); intro gb281 hg w4 hbox hb; have n0_ := Aside0.mk (below_step (by repeat (first | (with_reducible first | exact HB.out | apply below_alloc | apply pw_below_drewN | apply below_drew1) | exact HB.out)) hb); have n1_ := Aside0.mk (hbox); have n2_ := Aside0.mk ((by rw [hg]; exact (below_size (by repeat (first | (with_reducible first | exact HB.out | apply below_alloc | apply pw_below_drewN | apply below_drew1) | exact HB.out))) : w.heap.size ≤ gb281)); have n3_ := Aside0.mk ((by rw [hg]; exact (below_size (by repeat (first | (with_reducible first | exact HB.out | apply below_alloc | apply pw_below_drewN | apply below_drew1) | exact HB.out))) : w.heap.size ≤ gb281)); clear HB; have HB := n0_; have BK281 := n1_; have GW281 := n2_; have GE281 := n3_; clear n0_ n1_ n2_ n3_; clear hb hbox hg))
  (try simp only [Act.put, List.setIfInBounds_toArray, List.set_cons_zero, List.set_cons_succ])
  go_cut [19] (fun v19 wc => ∃ (kq : Nat) (x19_2 : Bool), v19 = .bool x19_2 ∧ Aside0 (sackbutlaw19_WaveWrites.j0 kq l1 x19_2 a0_0 a0_1 a0_2 a0_3 a0_4 a0_5 a0_6 = some r) ∧ Aside0 (kq ≤ k) ∧ Aside0 (wc.heap[gb281]? = some (.cells #[.int .i64 a0_0, .int .i64 a0_1, .bool a0_2, .int .i64 a0_3, .int .i64 a0_4, .int .i64 a0_5, .int .i64 a0_6] 23 (0, 0))) ∧ Aside0 (Below w.heap.size w wc))
  case first =>
    have H := HC3.out
    clear HC3
    replace H := Option.bind_eq_some_iff.mp H
    obtain ⟨t282, A50, H⟩ := H
    replace H : (if t282 = true then ((sackbutlaw19_few.f k l1).bind fun t283 => (sackbutlaw19_WaveWrites.j0 k l1 (!t283) a0_0 a0_1 a0_2 a0_3 a0_4 a0_5 a0_6)) else (sackbutlaw19_WaveWrites.j0 k l1 true a0_0 a0_1 a0_2 a0_3 a0_4 a0_5 a0_6)) = some r := H
    have A5 := Aside0.mk A50
    clear A50
    by_cases c6 : t282 = true
    · subst c6
      have H1 : ((sackbutlaw19_few.f k l1).bind fun t283 => (sackbutlaw19_WaveWrites.j0 k l1 (!t283) a0_0 a0_1 a0_2 a0_3 a0_4 a0_5 a0_6)) = some r := by rw [if_pos rfl] at H; exact H
      clear H
      have H := H1
      clear H1
      replace H := Option.bind_eq_some_iff.mp H
      obtain ⟨t283, A70, H⟩ := H
      replace H : (sackbutlaw19_WaveWrites.j0 k l1 (!t283) a0_0 a0_1 a0_2 a0_3 a0_4 a0_5 a0_6) = some r := H
      have A7 := Aside0.mk A70
      clear A70
      have H' := Aside0.mk H
      clear H
      go_wp2_with (first | ((with_reducible refine gate_callee (f := 5) rfl ?_); refine goesL_ (some 13) rfl rfl Try.func5 (by kernel_rfl) rfl #[] rfl (by (try simp only [List.map_toArray, List.map_cons, List.map_nil]); first | done | rfl | (simp only [List.length_drop, List.length_take]; rfl)) ?_; (with_reducible refine (sackbutlaw19_awake.calls k  true _ A5.out).mono ?_); rintro e w8 ⟨rfl, hb⟩; refine ⟨_, rfl, ?_⟩; have n0_ := Aside0.mk (blk_below (g := gb281) (o := .cells #[.int .i64 a0_0, .int .i64 a0_1, .bool a0_2, .int .i64 a0_3, .int .i64 a0_4, .int .i64 a0_5, .int .i64 a0_6] 23 (0, 0)) (by (with_reducible repeat (first | refine blk_drewN ?_ _ | refine blk_drew ?_ | refine blk_alloc ?_ _)); exact BK281.out) hb); have n1_ := Aside0.mk (below_step (by repeat (first | (with_reducible first | exact HB.out | apply below_alloc | apply pw_below_drewN | apply below_drew1 | refine below_set ?_ GE281.out) | exact HB.out)) hb); clear BK281; clear HB; have BK281 := n0_; have HB := n1_; clear n0_ n1_; (try clear hb); (try clear hb2); (try clear hk); (try clear hi)) | (go_at_call 6; (with_reducible refine (sackbutlaw19_few.calls k _ _ l1 t283 _ ?side1 ?side2 A7.out).mono ?_); (case side1 => repeat (first | exact (Kd.C_below HR1.out HB.out) | (with_reducible refine Kd.C_alloc ?_ _) | (with_reducible refine Kd.C_drewN ?_ _) | (with_reducible refine Kd.C_drew ?_))); (case side2 => exact HC1.out); rintro e w' ⟨rfl, ⟨nd, rfl⟩⟩))
      go_meet
      case rel => exact ⟨_, (!t283), (by first | rfl | (simp; done) | (simp [*]; done)), H', ⟨by first | omega | exact Nat.le_refl _⟩, ⟨by (with_reducible repeat (first | refine blk_drewN ?_ _ | refine blk_drew ?_ | refine blk_alloc ?_ _)); exact BK281.out⟩, ⟨by repeat (first | (with_reducible first | exact HB.out | apply below_alloc | apply pw_below_drewN | apply below_drew1 | refine below_set ?_ GE281.out) | exact HB.out)⟩⟩
    · replace c6 := Bool.eq_false_iff.mpr c6
      subst c6
      have H1 : (sackbutlaw19_WaveWrites.j0 k l1 true a0_0 a0_1 a0_2 a0_3 a0_4 a0_5 a0_6) = some r := by rw [if_neg (show ¬ (false = true) by decide)] at H; exact H
      clear H
      have H := H1
      clear H1
      have H' := Aside0.mk H
      clear H
      go_wp2_with (first | ((with_reducible refine gate_callee (f := 5) rfl ?_); refine goesL_ (some 13) rfl rfl Try.func5 (by kernel_rfl) rfl #[] rfl (by (try simp only [List.map_toArray, List.map_cons, List.map_nil]); first | done | rfl | (simp only [List.length_drop, List.length_take]; rfl)) ?_; (with_reducible refine (sackbutlaw19_awake.calls k  false _ A5.out).mono ?_); rintro e w9 ⟨rfl, hb⟩; refine ⟨_, rfl, ?_⟩; have n0_ := Aside0.mk (blk_below (g := gb281) (o := .cells #[.int .i64 a0_0, .int .i64 a0_1, .bool a0_2, .int .i64 a0_3, .int .i64 a0_4, .int .i64 a0_5, .int .i64 a0_6] 23 (0, 0)) (by (with_reducible repeat (first | refine blk_drewN ?_ _ | refine blk_drew ?_ | refine blk_alloc ?_ _)); exact BK281.out) hb); have n1_ := Aside0.mk (below_step (by repeat (first | (with_reducible first | exact HB.out | apply below_alloc | apply pw_below_drewN | apply below_drew1 | refine below_set ?_ GE281.out) | exact HB.out)) hb); clear BK281; clear HB; have BK281 := n0_; have HB := n1_; clear n0_ n1_; (try clear hb); (try clear hb2); (try clear hk); (try clear hi)))
      go_meet
      case rel => exact ⟨_, (true), (by first | rfl | (simp; done) | (simp [*]; done)), H', ⟨by first | omega | exact Nat.le_refl _⟩, ⟨by (with_reducible repeat (first | refine blk_drewN ?_ _ | refine blk_drew ?_ | refine blk_alloc ?_ _)); exact BK281.out⟩, ⟨by repeat (first | (with_reducible first | exact HB.out | apply below_alloc | apply pw_below_drewN | apply below_drew1 | refine below_set ?_ GE281.out) | exact HB.out)⟩⟩
  case rest =>
    clear HC3
    try clear c1
    try clear p2
    try clear c3
    try clear c5
    try clear c6
    obtain ⟨kq, x19_2, rfl, HA, HJ2, BK281, HB⟩ := hcut
    cases kq with
    | zero => exact absurd HA.out (by simp [sackbutlaw19_WaveWrites.j0])
    | succ kj2 =>
      have H := HA.out
      clear HA
      simp only [sackbutlaw19_WaveWrites.j0] at H
      by_cases c10 : x19_2 = true
      · subst c10
        have H1 : ((sackbutlaw19_awake.f kj2).bind fun t284 => (some t284)) = some r := by rw [if_pos rfl] at H; exact H
        clear H
        have H := H1
        clear H1
        replace H := Option.bind_eq_some_iff.mp H
        obtain ⟨t284, A110, H⟩ := H
        replace H : (some t284) = some r := H
        have A11 := Aside0.mk A110
        clear A110
        obtain rfl := Option.some.inj H
        go_wp2_with (first | ((with_reducible refine gate_callee (f := 5) rfl ?_); refine goesL_ (some 20) rfl rfl Try.func5 (by kernel_rfl) rfl #[] rfl (by (try simp only [List.map_toArray, List.map_cons, List.map_nil]); first | done | rfl | (simp only [List.length_drop, List.length_take]; rfl)) ?_; (with_reducible refine (sackbutlaw19_awake.calls kj2  t284 _ A11.out).mono ?_); rintro e w12 ⟨rfl, hb⟩; refine ⟨_, rfl, ?_⟩; have n0_ := Aside0.mk (blk_below (g := gb281) (o := .cells #[.int .i64 a0_0, .int .i64 a0_1, .bool a0_2, .int .i64 a0_3, .int .i64 a0_4, .int .i64 a0_5, .int .i64 a0_6] 23 (0, 0)) (by (with_reducible repeat (first | refine blk_drewN ?_ _ | refine blk_drew ?_ | refine blk_alloc ?_ _)); exact BK281.out) hb); have n1_ := Aside0.mk (below_step (by repeat (first | (with_reducible first | exact HB.out | apply below_alloc | apply pw_below_drewN | apply below_drew1 | refine below_set ?_ GE281.out) | exact HB.out)) hb); clear BK281; clear HB; have BK281 := n0_; have HB := n1_; clear n0_ n1_; (try clear hb); (try clear hb2); (try clear hk); (try clear hi)))
        go_ret
        exact ⟨by first | rfl | (simp [errW_none, errW_some] <;> rfl) | (simp [*, errW_none, errW_some] <;> rfl), by repeat (first | (with_reducible first | exact HB.out | apply below_alloc | apply pw_below_drewN | apply below_drew1 | refine below_set ?_ GE281.out) | exact HB.out)⟩
      · replace c10 := Bool.eq_false_iff.mpr c10
        subst c10
        have H1 : ((wave_Write.f kj2 a0_0 a0_1 a0_2 a0_3 a0_4 a0_5 a0_6 l1).bind fun bt285 => ((sackbutref19_Write.f kj2 a0_0 a0_1 a0_2 a0_3 a0_4 a0_5 a0_6 l1).bind fun bt289 => (if bt285.2 = bt289.2 then (sackbutlaw19_WaveWrites.j1 kj2 l1 bt285.1 bt289.2 ((strOfNums bt285.1).toList != (strOfNums bt289.1).toList) a0_0 a0_1 a0_2 a0_3 a0_4 a0_5 a0_6) else (sackbutlaw19_WaveWrites.j1 kj2 l1 bt285.1 bt289.2 true a0_0 a0_1 a0_2 a0_3 a0_4 a0_5 a0_6)))) = some r := by rw [if_neg (show ¬ (false = true) by decide)] at H; exact H
        clear H
        have H := H1
        clear H1
        replace H := Option.bind_eq_some_iff.mp H
        obtain ⟨⟨t285, t288⟩, A130, H⟩ := H
        replace H : ((sackbutref19_Write.f kj2 a0_0 a0_1 a0_2 a0_3 a0_4 a0_5 a0_6 l1).bind fun bt289 => (if t288 = bt289.2 then (sackbutlaw19_WaveWrites.j1 kj2 l1 t285 bt289.2 ((strOfNums t285).toList != (strOfNums bt289.1).toList) a0_0 a0_1 a0_2 a0_3 a0_4 a0_5 a0_6) else (sackbutlaw19_WaveWrites.j1 kj2 l1 t285 bt289.2 true a0_0 a0_1 a0_2 a0_3 a0_4 a0_5 a0_6))) = some r := H
        have A13 := Aside0.mk A130
        clear A130
        replace H := Option.bind_eq_some_iff.mp H
        obtain ⟨⟨t289, t292⟩, A140, H⟩ := H
        replace H : (if t288 = t292 then (sackbutlaw19_WaveWrites.j1 kj2 l1 t285 t292 ((strOfNums t285).toList != (strOfNums t289).toList) a0_0 a0_1 a0_2 a0_3 a0_4 a0_5 a0_6) else (sackbutlaw19_WaveWrites.j1 kj2 l1 t285 t292 true a0_0 a0_1 a0_2 a0_3 a0_4 a0_5 a0_6)) = some r := H
        have A14 := Aside0.mk A140
        clear A140
        have HC15 := Aside0.mk H
        clear H
        have hcz16_0 : wc.cell? ⟨gb281, 0, none⟩ = some (.int .i64 a0_0) := (blk_cell BK281.out 0).trans rfl
        have hcz16_1 : wc.cell? ⟨gb281, 1, none⟩ = some (.int .i64 a0_1) := (blk_cell BK281.out 1).trans rfl
        have hcz16_2 : wc.cell? ⟨gb281, 2, none⟩ = some (.bool a0_2) := (blk_cell BK281.out 2).trans rfl
        have hcz16_3 : wc.cell? ⟨gb281, 3, none⟩ = some (.int .i64 a0_3) := (blk_cell BK281.out 3).trans rfl
        have hcz16_4 : wc.cell? ⟨gb281, 4, none⟩ = some (.int .i64 a0_4) := (blk_cell BK281.out 4).trans rfl
        have hcz16_5 : wc.cell? ⟨gb281, 5, none⟩ = some (.int .i64 a0_5) := (blk_cell BK281.out 5).trans rfl
        have hcz16_6 : wc.cell? ⟨gb281, 6, none⟩ = some (.int .i64 a0_6) := (blk_cell BK281.out 6).trans rfl
        have hfz16_0 := blk_frozen BK281.out 0
        have hfz16_1 := blk_frozen BK281.out 1
        have hfz16_2 := blk_frozen BK281.out 2
        have hfz16_3 := blk_frozen BK281.out 3
        have hfz16_4 := blk_frozen BK281.out 4
        have hfz16_5 := blk_frozen BK281.out 5
        have hfz16_6 := blk_frozen BK281.out 6
        go_upto_region 5 with (first | ((with_reducible refine gate_callee (f := 7) rfl ?_); refine goesL_ (some 24) rfl rfl Try.func7 (by kernel_rfl) rfl #[.agg #[.int .i64 a0_0, .int .i64 a0_1, .bool a0_2, .int .i64 a0_3, .int .i64 a0_4, .int .i64 a0_5, .int .i64 a0_6], .slice A1 l1.length c1] rfl (by (try simp only [List.map_toArray, List.map_cons, List.map_nil]); first | done | rfl | (simp only [List.length_drop, List.length_take]; rfl)) ?_; (with_reducible refine (wave_Write.calls kj2 a0_0 a0_1 a0_2 a0_3 a0_4 a0_5 a0_6 _ _ l1 t285 t288 _ ?side1 ?side2 A13.out).mono ?_); (case side1 => repeat (first | exact (Kd.C_below HR1.out HB.out) | (with_reducible refine Kd.C_alloc ?_ _) | (with_reducible refine Kd.C_drewN ?_ _) | (with_reducible refine Kd.C_drew ?_))); (case side2 => exact HC1.out); rintro e w17 ⟨v286, rfl, ho0, hb⟩; refine ⟨_, rfl, ?_⟩; have n0_ := Aside0.mk (Kd.R_lower ho0 (below_size (by repeat (first | (with_reducible first | exact HB.out | apply below_alloc | apply pw_below_drewN | apply below_drew1 | refine below_set ?_ GE281.out) | exact HB.out)))); have n1_ := Aside0.mk (blk_below (g := gb281) (o := .cells #[.int .i64 a0_0, .int .i64 a0_1, .bool a0_2, .int .i64 a0_3, .int .i64 a0_4, .int .i64 a0_5, .int .i64 a0_6] 23 (0, 0)) (by (with_reducible repeat (first | refine blk_drewN ?_ _ | refine blk_drew ?_ | refine blk_alloc ?_ _)); exact BK281.out) hb); have n2_ := Aside0.mk (below_step (by repeat (first | (with_reducible first | exact HB.out | apply below_alloc | apply pw_below_drewN | apply below_drew1 | refine below_set ?_ GE281.out) | exact HB.out)) hb); clear BK281; clear HB; have HO287 := n0_; have BK281 := n1_; have HB := n2_; clear n0_ n1_ n2_; (try clear hb); (try clear hb2); (try clear hk); (try clear hi); (try clear ho0); have hcz18_0 : w17.cell? ⟨gb281, 0, none⟩ = some (.int .i64 a0_0) := (blk_cell BK281.out 0).trans rfl; have hcz18_1 : w17.cell? ⟨gb281, 1, none⟩ = some (.int .i64 a0_1) := (blk_cell BK281.out 1).trans rfl; have hcz18_2 : w17.cell? ⟨gb281, 2, none⟩ = some (.bool a0_2) := (blk_cell BK281.out 2).trans rfl; have hcz18_3 : w17.cell? ⟨gb281, 3, none⟩ = some (.int .i64 a0_3) := (blk_cell BK281.out 3).trans rfl; have hcz18_4 : w17.cell? ⟨gb281, 4, none⟩ = some (.int .i64 a0_4) := (blk_cell BK281.out 4).trans rfl; have hcz18_5 : w17.cell? ⟨gb281, 5, none⟩ = some (.int .i64 a0_5) := (blk_cell BK281.out 5).trans rfl; have hcz18_6 : w17.cell? ⟨gb281, 6, none⟩ = some (.int .i64 a0_6) := (blk_cell BK281.out 6).trans rfl; have hfz18_0 := blk_frozen BK281.out 0; have hfz18_1 := blk_frozen BK281.out 1; have hfz18_2 := blk_frozen BK281.out 2; have hfz18_3 := blk_frozen BK281.out 3; have hfz18_4 := blk_frozen BK281.out 4; have hfz18_5 := blk_frozen BK281.out 5; have hfz18_6 := blk_frozen BK281.out 6) | ((with_reducible refine gate_callee (f := 8) rfl ?_); refine goesL_ (some 30) rfl rfl Try.func8 (by kernel_rfl) rfl #[.agg #[.int .i64 a0_0, .int .i64 a0_1, .bool a0_2, .int .i64 a0_3, .int .i64 a0_4, .int .i64 a0_5, .int .i64 a0_6], .slice A1 l1.length c1] rfl (by (try simp only [List.map_toArray, List.map_cons, List.map_nil]); first | done | rfl | (simp only [List.length_drop, List.length_take]; rfl)) ?_; (with_reducible refine (sackbutref19_Write.calls kj2 a0_0 a0_1 a0_2 a0_3 a0_4 a0_5 a0_6 _ _ l1 t289 t292 _ ?side1 ?side2 A14.out).mono ?_); (case side1 => repeat (first | exact (Kd.C_below HR1.out HB.out) | (with_reducible refine Kd.C_alloc ?_ _) | (with_reducible refine Kd.C_drewN ?_ _) | (with_reducible refine Kd.C_drew ?_))); (case side2 => exact HC1.out); rintro e w19 ⟨v290, rfl, ho0, hb⟩; refine ⟨_, rfl, ?_⟩; have n0_ := Aside0.mk (Kd.R_elder' (by (with_reducible repeat (first | apply Kd.R_alloc | apply Kd.R_drewN | apply Kd.R_drew)); exact HO287.out) (Kd.R_base ho0) hb); have n1_ := Aside0.mk (Kd.R_lower (Kd.R_new' ho0 (Kd.R_lt (by (with_reducible repeat (first | apply Kd.R_alloc | apply Kd.R_drewN | apply Kd.R_drew)); exact HO287.out))) (below_size (by repeat (first | (with_reducible first | exact HB.out | apply below_alloc | apply pw_below_drewN | apply below_drew1 | refine below_set ?_ GE281.out) | exact HB.out)))); have n2_ := Aside0.mk (blk_below (g := gb281) (o := .cells #[.int .i64 a0_0, .int .i64 a0_1, .bool a0_2, .int .i64 a0_3, .int .i64 a0_4, .int .i64 a0_5, .int .i64 a0_6] 23 (0, 0)) (by (with_reducible repeat (first | refine blk_drewN ?_ _ | refine blk_drew ?_ | refine blk_alloc ?_ _)); exact BK281.out) hb); have n3_ := Aside0.mk (below_step (by repeat (first | (with_reducible first | exact HB.out | apply below_alloc | apply pw_below_drewN | apply below_drew1 | refine below_set ?_ GE281.out) | exact HB.out)) hb); clear HO287; clear BK281; clear HB; have HO287 := n0_; have HO291 := n1_; have BK281 := n2_; have HB := n3_; clear n0_ n1_ n2_ n3_; (try clear hb); (try clear hb2); (try clear hk); (try clear hi); (try clear ho0)))
        (try simp only [Act.put, List.setIfInBounds_toArray, List.set_cons_zero, List.set_cons_succ])
        go_cut [42] (fun v42 wc => ∃ (kq : Nat) (x42_14 : Bool), v42 = .bool x42_14 ∧ Aside0 (sackbutlaw19_WaveWrites.j1 kq l1 t285 t292 x42_14 a0_0 a0_1 a0_2 a0_3 a0_4 a0_5 a0_6 = some r) ∧ Aside0 (kq ≤ kj2) ∧ Aside0 (Kd.R (Kd.int .u8) 5 wc w.heap.size (fun _ => True) v286 t285) ∧ Aside0 (wc.heap[gb281]? = some (.cells #[.int .i64 a0_0, .int .i64 a0_1, .bool a0_2, .int .i64 a0_3, .int .i64 a0_4, .int .i64 a0_5, .int .i64 a0_6] 23 (0, 0))) ∧ Aside0 (Below w.heap.size w wc))
        case first =>
          have H := HC15.out
          clear HC15
          by_cases c20 : t288 = t292
          · rw [if_pos c20] at H
            have c20b0 : (t288 == t292) = true := beq_iff_eq.mpr c20
            have c20b1 : (t288 != t292) = false := bne_eq_false_iff_eq.mpr c20
            clear c20
            (first | rw [c20b0] | (simp only [i64_w, i32_w]; rw [c20b0]) | skip)
            have H' := Aside0.mk H
            clear H
            have hcv21 := own_string (P := Try.prog) Try.underlying27 Try.underlying5 Try.underlying9 (Kd.own_of_R HO287.out)
            have hcv22 := own_string (P := Try.prog) Try.underlying27 Try.underlying5 Try.underlying9 (Kd.own_of_R HO291.out)
            go_wp2
            go_meet
            case rel => exact ⟨_, (((strOfNums t285).toList != (strOfNums t289).toList)), (by first | rfl | (simp; done) | (simp [*]; done)), H', ⟨by have := HJ2.out; first | omega | exact Nat.le_refl _⟩, ⟨by (with_reducible repeat (first | apply Kd.R_alloc | apply Kd.R_drewN | apply Kd.R_drew)); exact Kd.R_mono HO287.out (fun _ hk => trivial)⟩, ⟨by (with_reducible repeat (first | refine blk_drewN ?_ _ | refine blk_drew ?_ | refine blk_alloc ?_ _)); exact BK281.out⟩, ⟨by repeat (first | (with_reducible first | exact HB.out | apply below_alloc | apply pw_below_drewN | apply below_drew1 | refine below_set ?_ GE281.out) | exact HB.out)⟩⟩
          · rw [if_neg c20] at H
            have c20b0 : (t288 == t292) = false := beq_eq_false_iff_ne.mpr c20
            have c20b1 : (t288 != t292) = true := bne_iff_ne.mpr c20
            (first | rw [c20b0] | (simp only [i64_w, i32_w]; rw [c20b0]) | skip)
            have H' := Aside0.mk H
            clear H
            go_wp2
            go_meet
            case rel => exact ⟨_, (true), (by first | rfl | (simp; done) | (simp [*]; done)), H', ⟨by have := HJ2.out; first | omega | exact Nat.le_refl _⟩, ⟨by (with_reducible repeat (first | apply Kd.R_alloc | apply Kd.R_drewN | apply Kd.R_drew)); exact Kd.R_mono HO287.out (fun _ hk => trivial)⟩, ⟨by (with_reducible repeat (first | refine blk_drewN ?_ _ | refine blk_drew ?_ | refine blk_alloc ?_ _)); exact BK281.out⟩, ⟨by repeat (first | (with_reducible first | exact HB.out | apply below_alloc | apply pw_below_drewN | apply below_drew1 | refine below_set ?_ GE281.out) | exact HB.out)⟩⟩
        case rest =>
          clear HC15
          try clear c1
          try clear c2
          try clear p2
          try clear hcv2
          try clear c3
          try clear c5
          try clear c6
          try clear c7
          try clear c8
          try clear c10
          try clear c20
          try clear c20b0
          try clear c20b1
          try clear hcv21
          try clear hcv22
          try clear hcz16_0
          try clear hcz16_1
          try clear hcz16_2
          try clear hcz16_3
          try clear hcz16_4
          try clear hcz16_5
          try clear hcz16_6
          try clear hcz18_0
          try clear hcz18_1
          try clear hcz18_2
          try clear hcz18_3
          try clear hcz18_4
          try clear hcz18_5
          try clear hcz18_6
          try clear hfz16_0
          try clear hfz16_1
          try clear hfz16_2
          try clear hfz16_3
          try clear hfz16_4
          try clear hfz16_5
          try clear hfz16_6
          try clear hfz18_0
          try clear hfz18_1
          try clear hfz18_2
          try clear hfz18_3
          try clear hfz18_4
          try clear hfz18_5
          try clear hfz18_6
          try clear p2
          obtain ⟨kq, x42_14, rfl, HA, HJ14, HO_5, BK281, HB⟩ := hcut
          cases kq with
          | zero => exact absurd HA.out (by simp [sackbutlaw19_WaveWrites.j1])
          | succ kj14 =>
            have H := HA.out
            clear HA
            simp only [sackbutlaw19_WaveWrites.j1] at H
            by_cases c23 : x42_14 = true
            · subst c23
              have H1 : (some false) = some r := by rw [if_pos rfl] at H; exact H
              clear H
              have H := H1
              clear H1
              exact absurd (Option.some.inj H) (by rw [HRT.out]; decide)
            · replace c23 := Bool.eq_false_iff.mpr c23
              subst c23
              have H1 : (if t292 = 0 then ((wave_Read.f kj14 t285).bind fun bt293 => (if bt293.2.2.2.2.2.2.2.2 = 0 then (if (bt293.1 == a0_0 && (bt293.2.1 == a0_1 && (!bt293.2.2.1 && (bt293.2.2.2.1 == a0_3 && (bt293.2.2.2.2.1 == 16 && (bt293.2.2.2.2.2.1 == 0 && (bt293.2.2.2.2.2.2.1 == a0_6))))))) = true then ((sackbutref05_Same.f kj14 bt293.2.2.2.2.2.2.2.1 l1).bind fun t306 => (if t306 = true then ((wave_Row.f a0_0 a0_1 a0_2 a0_3 a0_4 a0_5 a0_6).bind fun t307 => (some (t307 == (wrap64 (Int.tdiv (wrap64 (a0_0 * a0_1)) 8))))) else (some false))) else (some false)) else (some false))) else (some true)) = some r := by rw [if_neg (show ¬ (false = true) by decide)] at H; exact H
              clear H
              have H := H1
              clear H1
              by_cases c24 : t292 = 0
              · rw [if_pos c24] at H
                have c24b0 : (t292 == 0) = true := beq_iff_eq.mpr c24
                have c24b1 : (t292 != 0) = false := bne_eq_false_iff_eq.mpr c24
                clear c24
                replace H := Option.bind_eq_some_iff.mp H
                obtain ⟨⟨t293, t294, t295, t296, t297, t298, t299, t300, t303⟩, A250, H⟩ := H
                replace H : (if t303 = 0 then (if (t293 == a0_0 && (t294 == a0_1 && (!t295 && (t296 == a0_3 && (t297 == 16 && (t298 == 0 && (t299 == a0_6))))))) = true then ((sackbutref05_Same.f kj14 t300 l1).bind fun t306 => (if t306 = true then ((wave_Row.f a0_0 a0_1 a0_2 a0_3 a0_4 a0_5 a0_6).bind fun t307 => (some (t307 == (wrap64 (Int.tdiv (wrap64 (a0_0 * a0_1)) 8))))) else (some false))) else (some false)) else (some false)) = some r := H
                have A25 := Aside0.mk A250
                clear A250
                by_cases c26 : t303 = 0
                · rw [if_pos c26] at H
                  have c26b0 : (t303 == 0) = true := beq_iff_eq.mpr c26
                  have c26b1 : (t303 != 0) = false := bne_eq_false_iff_eq.mpr c26
                  clear c26
                  by_cases c27 : (t293 == a0_0 && (t294 == a0_1 && (!t295 && (t296 == a0_3 && (t297 == 16 && (t298 == 0 && (t299 == a0_6))))))) = true
                  · rw [if_pos c27] at H
                    have c27b0 : (t293 == a0_0 && (t294 == a0_1 && (!t295 && (t296 == a0_3 && (t297 == 16 && (t298 == 0 && (t299 == a0_6))))))) = true := c27
                    (try (have c27b1 : decide (t293 = a0_0 && (t294 == a0_1 && (!t295 && (t296 == a0_3 && (t297 == 16 && (t298 == 0 && (t299 == a0_6))))))) = true := by simpa using c27))
                    (try (have c27b2 : (t293 == a0_0 && (t294 == a0_1 && (!t295 && (t296 == a0_3 && (t297 == 16 && (t298 == 0 && (t299 == a0_6))))))) = true := by simpa using c27))
                    clear c27
                    replace H := Option.bind_eq_some_iff.mp H
                    obtain ⟨t306, A280, H⟩ := H
                    replace H : (if t306 = true then ((wave_Row.f a0_0 a0_1 a0_2 a0_3 a0_4 a0_5 a0_6).bind fun t307 => (some (t307 == (wrap64 (Int.tdiv (wrap64 (a0_0 * a0_1)) 8))))) else (some false)) = some r := H
                    have A28 := Aside0.mk A280
                    clear A280
                    by_cases c29 : t306 = true
                    · subst c29
                      have H1 : ((wave_Row.f a0_0 a0_1 a0_2 a0_3 a0_4 a0_5 a0_6).bind fun t307 => (some (t307 == (wrap64 (Int.tdiv (wrap64 (a0_0 * a0_1)) 8))))) = some r := by rw [if_pos rfl] at H; exact H
                      clear H
                      have H := H1
                      clear H1
                      replace H := Option.bind_eq_some_iff.mp H
                      obtain ⟨t307, A300, H⟩ := H
                      replace H : (some (t307 == (wrap64 (Int.tdiv (wrap64 (a0_0 * a0_1)) 8)))) = some r := H
                      have A30 := Aside0.mk A300
                      clear A300
                      obtain rfl := Option.some.inj H
                      obtain ⟨Ao31, co31, eo31⟩ := Kd.R_slice HO_5.out
                      subst eo31
                      try go_wp2_with (first | ((with_reducible refine gate_callee (f := 9) rfl ?_); refine goesL_ (some 47) rfl rfl Try.func9 (by kernel_rfl) rfl #[.slice Ao31 t285.length co31] rfl (by (try simp only [List.map_toArray, List.map_cons, List.map_nil]); first | done | rfl | (simp only [List.length_drop, List.length_take]; rfl)) ?_; (with_reducible refine (wave_Read.calls kj14 _ _ t285 t293 t294 t295 t296 t297 t298 t299 t300 t303 _ ?side1 ?side2 A25.out).mono ?_); (case side1 => repeat (first | exact (Kd.R_reads' HO_5.out).2.2 | (with_reducible refine Kd.C_alloc ?_ _) | (with_reducible refine Kd.C_drewN ?_ _) | (with_reducible refine Kd.C_drew ?_))); (case side2 => exact (Kd.R_reads' HO_5.out).2.1); rintro e w32 ⟨v301, rfl, ho0, hb⟩; refine ⟨_, rfl, ?_⟩; have n0_ := Aside0.mk (Kd.R_below (by (with_reducible repeat (first | apply Kd.R_alloc | apply Kd.R_drewN | apply Kd.R_drew)); exact HO_5.out) hb); have n1_ := Aside0.mk (Kd.S_lower ho0 (below_size (by repeat (first | (with_reducible first | exact HB.out | apply below_alloc | apply pw_below_drewN | apply below_drew1 | refine below_set ?_ GE281.out) | exact HB.out)))); have n2_ := Aside0.mk (blk_below (g := gb281) (o := .cells #[.int .i64 a0_0, .int .i64 a0_1, .bool a0_2, .int .i64 a0_3, .int .i64 a0_4, .int .i64 a0_5, .int .i64 a0_6] 23 (0, 0)) (by (with_reducible repeat (first | refine blk_drewN ?_ _ | refine blk_drew ?_ | refine blk_alloc ?_ _)); exact BK281.out) hb); have n3_ := Aside0.mk (below_step (by repeat (first | (with_reducible first | exact HB.out | apply below_alloc | apply pw_below_drewN | apply below_drew1 | refine below_set ?_ GE281.out) | exact HB.out)) hb); clear HO_5; clear BK281; clear HB; have HO_5 := n0_; have HO302 := n1_; have BK281 := n2_; have HB := n3_; clear n0_ n1_ n2_ n3_; (try clear hb); (try clear hb2); (try clear hk); (try clear hi); (try clear ho0)) | ((with_reducible refine gate_dst (N := 9) rfl ?_); refine box_event ?hg (N := 9) ?hd (cs := #[.int .i64 0, .int .i64 0, .bool false, .int .i64 0, .int .i64 0, .int .i64 0, .int .i64 0]) (t := 23) ?hr ?_; (case hd => rfl); (case hg => rfl); (case hr => first | (go_simp; done) | (go_simp; rfl)); intro gb304 hg w33 hbox hb; have n0_ := Aside0.mk (Kd.R_below (by (with_reducible repeat (first | apply Kd.R_alloc | apply Kd.R_drewN | apply Kd.R_drew)); exact HO_5.out) hb); have n1_ := Aside0.mk (Kd.S_below (by (with_reducible repeat (first | apply Kd.S_alloc | apply Kd.S_drewN | apply Kd.S_drew)); exact HO302.out) hb); have n2_ := Aside0.mk (blk_below (g := gb281) (o := .cells #[.int .i64 a0_0, .int .i64 a0_1, .bool a0_2, .int .i64 a0_3, .int .i64 a0_4, .int .i64 a0_5, .int .i64 a0_6] 23 (0, 0)) (by (with_reducible repeat (first | refine blk_drewN ?_ _ | refine blk_drew ?_ | refine blk_alloc ?_ _)); exact BK281.out) hb); have n3_ := Aside0.mk (below_step (by repeat (first | (with_reducible first | exact HB.out | apply below_alloc | apply pw_below_drewN | apply below_drew1 | refine below_set ?_ GE281.out) | exact HB.out)) hb); have n4_ := Aside0.mk (hbox); have n5_ := Aside0.mk ((by rw [hg]; exact (below_size (by repeat (first | (with_reducible first | exact HB.out | apply below_alloc | apply pw_below_drewN | apply below_drew1 | refine below_set ?_ GE281.out) | exact HB.out))) : w.heap.size ≤ gb304)); have n6_ := Aside0.mk ((by rw [hg]; exact (below_size (by repeat (first | (with_reducible first | exact HB.out | apply below_alloc | apply pw_below_drewN | apply below_drew1 | refine below_set ?_ GE281.out) | exact HB.out))) : w.heap.size ≤ gb304)); have n7_ := Aside0.mk ((by rw [hg]; exact Nat.ne_of_lt (blk_lt (g := gb281) (o := .cells #[.int .i64 a0_0, .int .i64 a0_1, .bool a0_2, .int .i64 a0_3, .int .i64 a0_4, .int .i64 a0_5, .int .i64 a0_6] 23 (0, 0)) (by (with_reducible repeat (first | refine blk_drewN ?_ _ | refine blk_drew ?_ | refine blk_alloc ?_ _)); exact BK281.out)) : gb281 ≠ gb304)); have n8_ := Aside0.mk ((by rw [hg]; exact Nat.ne_of_gt (blk_lt (g := gb281) (o := .cells #[.int .i64 a0_0, .int .i64 a0_1, .bool a0_2, .int .i64 a0_3, .int .i64 a0_4, .int .i64 a0_5, .int .i64 a0_6] 23 (0, 0)) (by (with_reducible repeat (first | refine blk_drewN ?_ _ | refine blk_drew ?_ | refine blk_alloc ?_ _)); exact BK281.out)) : gb304 ≠ gb281)); clear HO_5; clear HO302; clear BK281; clear HB; have HO_5 := n0_; have HO302 := n1_; have BK281 := n2_; have HB := n3_; have BK304 := n4_; have GW304 := n5_; have GE304 := n6_; have NB281_304 := n7_; have NB304_281 := n8_; clear n0_ n1_ n2_ n3_ n4_ n5_ n6_ n7_ n8_; clear hb hbox hg; have hnb34 := NB304_281.out; have hnc34 := NB281_304.out; have hcz35_0 : w33.cell? ⟨gb304, 0, none⟩ = some (.int .i64 0) := (blk_cell BK304.out 0).trans rfl; have hcz35_1 : w33.cell? ⟨gb304, 1, none⟩ = some (.int .i64 0) := (blk_cell BK304.out 1).trans rfl; have hcz35_2 : w33.cell? ⟨gb304, 2, none⟩ = some (.bool false) := (blk_cell BK304.out 2).trans rfl; have hcz35_3 : w33.cell? ⟨gb304, 3, none⟩ = some (.int .i64 0) := (blk_cell BK304.out 3).trans rfl; have hcz35_4 : w33.cell? ⟨gb304, 4, none⟩ = some (.int .i64 0) := (blk_cell BK304.out 4).trans rfl; have hcz35_5 : w33.cell? ⟨gb304, 5, none⟩ = some (.int .i64 0) := (blk_cell BK304.out 5).trans rfl; have hcz35_6 : w33.cell? ⟨gb304, 6, none⟩ = some (.int .i64 0) := (blk_cell BK304.out 6).trans rfl; have hfz35_0 := blk_frozen BK304.out 0; have hfz35_1 := blk_frozen BK304.out 1; have hfz35_2 := blk_frozen BK304.out 2; have hfz35_3 := blk_frozen BK304.out 3; have hfz35_4 := blk_frozen BK304.out 4; have hfz35_5 := blk_frozen BK304.out 5; have hfz35_6 := blk_frozen BK304.out 6; have hcz36_0 : w33.cell? ⟨gb281, 0, none⟩ = some (.int .i64 a0_0) := (blk_cell BK281.out 0).trans rfl; have hcz36_1 : w33.cell? ⟨gb281, 1, none⟩ = some (.int .i64 a0_1) := (blk_cell BK281.out 1).trans rfl; have hcz36_2 : w33.cell? ⟨gb281, 2, none⟩ = some (.bool a0_2) := (blk_cell BK281.out 2).trans rfl; have hcz36_3 : w33.cell? ⟨gb281, 3, none⟩ = some (.int .i64 a0_3) := (blk_cell BK281.out 3).trans rfl; have hcz36_4 : w33.cell? ⟨gb281, 4, none⟩ = some (.int .i64 a0_4) := (blk_cell BK281.out 4).trans rfl; have hcz36_5 : w33.cell? ⟨gb281, 5, none⟩ = some (.int .i64 a0_5) := (blk_cell BK281.out 5).trans rfl; have hcz36_6 : w33.cell? ⟨gb281, 6, none⟩ = some (.int .i64 a0_6) := (blk_cell BK281.out 6).trans rfl; have hfz36_0 := blk_frozen BK281.out 0; have hfz36_1 := blk_frozen BK281.out 1; have hfz36_2 := blk_frozen BK281.out 2; have hfz36_3 := blk_frozen BK281.out 3; have hfz36_4 := blk_frozen BK281.out 4; have hfz36_5 := blk_frozen BK281.out 5; have hfz36_6 := blk_frozen BK281.out 6) | ((with_reducible refine gate_dst (N := 12) rfl ?_); refine box_event ?hg (N := 12) ?hd (cs := #[.int .i64 0, .int .i64 0, .bool false, .int .i64 0, .int .i64 0, .int .i64 0, .int .i64 0]) (t := 23) ?hr ?_; (case hd => rfl); (case hg => rfl); (case hr => first | (go_simp; done) | (go_simp; rfl)); intro gb305 hg w37 hbox hb; have n0_ := Aside0.mk (Kd.R_below (by (with_reducible repeat (first | apply Kd.R_alloc | apply Kd.R_drewN | apply Kd.R_drew)); exact (Kd.R_mono (Kd.R_far (p := ⟨gb304, 6, none⟩) (Kd.R_far (p := ⟨gb304, 5, none⟩) (Kd.R_far (p := ⟨gb304, 4, none⟩) (Kd.R_far (p := ⟨gb304, 3, none⟩) (Kd.R_far (p := ⟨gb304, 2, none⟩) (Kd.R_far (p := ⟨gb304, 1, none⟩) (Kd.R_far (p := ⟨gb304, 0, none⟩) (Kd.R_types HO_5.out BK304.out (by decide)) (fun _ hk => hk.2) (.int .i64 t293)) (fun _ hk => hk.2) (.int .i64 t294)) (fun _ hk => hk.2) (.bool t295)) (fun _ hk => hk.2) (.int .i64 t296)) (fun _ hk => hk.2) (.int .i64 t297)) (fun _ hk => hk.2) (.int .i64 t298)) (fun _ hk => hk.2) (.int .i64 t299)) (fun _ h_ => h_.1))) hb); have n1_ := Aside0.mk (Kd.S_below (by (with_reducible repeat (first | apply Kd.S_alloc | apply Kd.S_drewN | apply Kd.S_drew)); exact (Kd.S_mono (Kd.S_far (p := ⟨gb304, 6, none⟩) (Kd.S_far (p := ⟨gb304, 5, none⟩) (Kd.S_far (p := ⟨gb304, 4, none⟩) (Kd.S_far (p := ⟨gb304, 3, none⟩) (Kd.S_far (p := ⟨gb304, 2, none⟩) (Kd.S_far (p := ⟨gb304, 1, none⟩) (Kd.S_far (p := ⟨gb304, 0, none⟩) (Kd.S_types HO302.out BK304.out (by decide)) (fun _ hk => hk.2) (.int .i64 t293)) (fun _ hk => hk.2) (.int .i64 t294)) (fun _ hk => hk.2) (.bool t295)) (fun _ hk => hk.2) (.int .i64 t296)) (fun _ hk => hk.2) (.int .i64 t297)) (fun _ hk => hk.2) (.int .i64 t298)) (fun _ hk => hk.2) (.int .i64 t299)) (fun _ h_ => h_.1))) hb); have n2_ := Aside0.mk (blk_below (g := gb281) (o := .cells #[.int .i64 a0_0, .int .i64 a0_1, .bool a0_2, .int .i64 a0_3, .int .i64 a0_4, .int .i64 a0_5, .int .i64 a0_6] 23 (0, 0)) (by (with_reducible repeat (first | refine blk_drewN ?_ _ | refine blk_drew ?_ | refine blk_alloc ?_ _)); refine blk_far ?_ NB281_304.out _; (with_reducible repeat (first | refine blk_drewN ?_ _ | refine blk_drew ?_ | refine blk_alloc ?_ _)); refine blk_far ?_ NB281_304.out _; (with_reducible repeat (first | refine blk_drewN ?_ _ | refine blk_drew ?_ | refine blk_alloc ?_ _)); refine blk_far ?_ NB281_304.out _; (with_reducible repeat (first | refine blk_drewN ?_ _ | refine blk_drew ?_ | refine blk_alloc ?_ _)); refine blk_far ?_ NB281_304.out _; (with_reducible repeat (first | refine blk_drewN ?_ _ | refine blk_drew ?_ | refine blk_alloc ?_ _)); refine blk_far ?_ NB281_304.out _; (with_reducible repeat (first | refine blk_drewN ?_ _ | refine blk_drew ?_ | refine blk_alloc ?_ _)); refine blk_far ?_ NB281_304.out _; (with_reducible repeat (first | refine blk_drewN ?_ _ | refine blk_drew ?_ | refine blk_alloc ?_ _)); refine blk_far ?_ NB281_304.out _; (with_reducible repeat (first | refine blk_drewN ?_ _ | refine blk_drew ?_ | refine blk_alloc ?_ _)); exact BK281.out) hb); have n3_ := Aside0.mk (blk_below (g := gb304) (o := .cells #[.int .i64 t293, .int .i64 t294, .bool t295, .int .i64 t296, .int .i64 t297, .int .i64 t298, .int .i64 t299] 23 (0, 0)) (by (with_reducible repeat (first | refine blk_drewN ?_ _ | refine blk_drew ?_ | refine blk_alloc ?_ _)); refine blk_put (cs := #[.int .i64 t293, .int .i64 t294, .bool t295, .int .i64 t296, .int .i64 t297, .int .i64 t298, .int .i64 0]) ?_ 6 _ rfl; (with_reducible repeat (first | refine blk_drewN ?_ _ | refine blk_drew ?_ | refine blk_alloc ?_ _)); refine blk_put (cs := #[.int .i64 t293, .int .i64 t294, .bool t295, .int .i64 t296, .int .i64 t297, .int .i64 0, .int .i64 0]) ?_ 5 _ rfl; (with_reducible repeat (first | refine blk_drewN ?_ _ | refine blk_drew ?_ | refine blk_alloc ?_ _)); refine blk_put (cs := #[.int .i64 t293, .int .i64 t294, .bool t295, .int .i64 t296, .int .i64 0, .int .i64 0, .int .i64 0]) ?_ 4 _ rfl; (with_reducible repeat (first | refine blk_drewN ?_ _ | refine blk_drew ?_ | refine blk_alloc ?_ _)); refine blk_put (cs := #[.int .i64 t293, .int .i64 t294, .bool t295, .int .i64 0, .int .i64 0, .int .i64 0, .int .i64 0]) ?_ 3 _ rfl; (with_reducible repeat (first | refine blk_drewN ?_ _ | refine blk_drew ?_ | refine blk_alloc ?_ _)); refine blk_put (cs := #[.int .i64 t293, .int .i64 t294, .bool false, .int .i64 0, .int .i64 0, .int .i64 0, .int .i64 0]) ?_ 2 _ rfl; (with_reducible repeat (first | refine blk_drewN ?_ _ | refine blk_drew ?_ | refine blk_alloc ?_ _)); refine blk_put (cs := #[.int .i64 t293, .int .i64 0, .bool false, .int .i64 0, .int .i64 0, .int .i64 0, .int .i64 0]) ?_ 1 _ rfl; (with_reducible repeat (first | refine blk_drewN ?_ _ | refine blk_drew ?_ | refine blk_alloc ?_ _)); refine blk_put (cs := #[.int .i64 0, .int .i64 0, .bool false, .int .i64 0, .int .i64 0, .int .i64 0, .int .i64 0]) ?_ 0 _ rfl; (with_reducible repeat (first | refine blk_drewN ?_ _ | refine blk_drew ?_ | refine blk_alloc ?_ _)); exact BK304.out) hb); have n4_ := Aside0.mk (below_step (by repeat (first | (with_reducible first | exact HB.out | apply below_alloc | apply pw_below_drewN | apply below_drew1 | refine below_set ?_ GE281.out | refine below_set ?_ GE304.out) | exact HB.out)) hb); have n5_ := Aside0.mk (hbox); have n6_ := Aside0.mk ((by rw [hg]; exact (below_size (by repeat (first | (with_reducible first | exact HB.out | apply below_alloc | apply pw_below_drewN | apply below_drew1 | refine below_set ?_ GE281.out | refine below_set ?_ GE304.out) | exact HB.out))) : w.heap.size ≤ gb305)); have n7_ := Aside0.mk ((by rw [hg]; exact (below_size (by repeat (first | (with_reducible first | exact HB.out | apply below_alloc | apply pw_below_drewN | apply below_drew1 | refine below_set ?_ GE281.out | refine below_set ?_ GE304.out) | exact HB.out))) : w.heap.size ≤ gb305)); have n8_ := Aside0.mk ((by rw [hg]; exact Nat.ne_of_lt (blk_lt (g := gb281) (o := .cells #[.int .i64 a0_0, .int .i64 a0_1, .bool a0_2, .int .i64 a0_3, .int .i64 a0_4, .int .i64 a0_5, .int .i64 a0_6] 23 (0, 0)) (by (with_reducible repeat (first | refine blk_drewN ?_ _ | refine blk_drew ?_ | refine blk_alloc ?_ _)); refine blk_far ?_ NB281_304.out _; (with_reducible repeat (first | refine blk_drewN ?_ _ | refine blk_drew ?_ | refine blk_alloc ?_ _)); refine blk_far ?_ NB281_304.out _; (with_reducible repeat (first | refine blk_drewN ?_ _ | refine blk_drew ?_ | refine blk_alloc ?_ _)); refine blk_far ?_ NB281_304.out _; (with_reducible repeat (first | refine blk_drewN ?_ _ | refine blk_drew ?_ | refine blk_alloc ?_ _)); refine blk_far ?_ NB281_304.out _; (with_reducible repeat (first | refine blk_drewN ?_ _ | refine blk_drew ?_ | refine blk_alloc ?_ _)); refine blk_far ?_ NB281_304.out _; (with_reducible repeat (first | refine blk_drewN ?_ _ | refine blk_drew ?_ | refine blk_alloc ?_ _)); refine blk_far ?_ NB281_304.out _; (with_reducible repeat (first | refine blk_drewN ?_ _ | refine blk_drew ?_ | refine blk_alloc ?_ _)); refine blk_far ?_ NB281_304.out _; (with_reducible repeat (first | refine blk_drewN ?_ _ | refine blk_drew ?_ | refine blk_alloc ?_ _)); exact BK281.out)) : gb281 ≠ gb305)); have n9_ := Aside0.mk ((by rw [hg]; exact Nat.ne_of_gt (blk_lt (g := gb281) (o := .cells #[.int .i64 a0_0, .int .i64 a0_1, .bool a0_2, .int .i64 a0_3, .int .i64 a0_4, .int .i64 a0_5, .int .i64 a0_6] 23 (0, 0)) (by (with_reducible repeat (first | refine blk_drewN ?_ _ | refine blk_drew ?_ | refine blk_alloc ?_ _)); refine blk_far ?_ NB281_304.out _; (with_reducible repeat (first | refine blk_drewN ?_ _ | refine blk_drew ?_ | refine blk_alloc ?_ _)); refine blk_far ?_ NB281_304.out _; (with_reducible repeat (first | refine blk_drewN ?_ _ | refine blk_drew ?_ | refine blk_alloc ?_ _)); refine blk_far ?_ NB281_304.out _; (with_reducible repeat (first | refine blk_drewN ?_ _ | refine blk_drew ?_ | refine blk_alloc ?_ _)); refine blk_far ?_ NB281_304.out _; (with_reducible repeat (first | refine blk_drewN ?_ _ | refine blk_drew ?_ | refine blk_alloc ?_ _)); refine blk_far ?_ NB281_304.out _; (with_reducible repeat (first | refine blk_drewN ?_ _ | refine blk_drew ?_ | refine blk_alloc ?_ _)); refine blk_far ?_ NB281_304.out _; (with_reducible repeat (first | refine blk_drewN ?_ _ | refine blk_drew ?_ | refine blk_alloc ?_ _)); refine blk_far ?_ NB281_304.out _; (with_reducible repeat (first | refine blk_drewN ?_ _ | refine blk_drew ?_ | refine blk_alloc ?_ _)); exact BK281.out)) : gb305 ≠ gb281)); have n10_ := Aside0.mk ((by rw [hg]; exact Nat.ne_of_lt (blk_lt (g := gb304) (o := .cells #[.int .i64 t293, .int .i64 t294, .bool t295, .int .i64 t296, .int .i64 t297, .int .i64 t298, .int .i64 t299] 23 (0, 0)) (by (with_reducible repeat (first | refine blk_drewN ?_ _ | refine blk_drew ?_ | refine blk_alloc ?_ _)); refine blk_put (cs := #[.int .i64 t293, .int .i64 t294, .bool t295, .int .i64 t296, .int .i64 t297, .int .i64 t298, .int .i64 0]) ?_ 6 _ rfl; (with_reducible repeat (first | refine blk_drewN ?_ _ | refine blk_drew ?_ | refine blk_alloc ?_ _)); refine blk_put (cs := #[.int .i64 t293, .int .i64 t294, .bool t295, .int .i64 t296, .int .i64 t297, .int .i64 0, .int .i64 0]) ?_ 5 _ rfl; (with_reducible repeat (first | refine blk_drewN ?_ _ | refine blk_drew ?_ | refine blk_alloc ?_ _)); refine blk_put (cs := #[.int .i64 t293, .int .i64 t294, .bool t295, .int .i64 t296, .int .i64 0, .int .i64 0, .int .i64 0]) ?_ 4 _ rfl; (with_reducible repeat (first | refine blk_drewN ?_ _ | refine blk_drew ?_ | refine blk_alloc ?_ _)); refine blk_put (cs := #[.int .i64 t293, .int .i64 t294, .bool t295, .int .i64 0, .int .i64 0, .int .i64 0, .int .i64 0]) ?_ 3 _ rfl; (with_reducible repeat (first | refine blk_drewN ?_ _ | refine blk_drew ?_ | refine blk_alloc ?_ _)); refine blk_put (cs := #[.int .i64 t293, .int .i64 t294, .bool false, .int .i64 0, .int .i64 0, .int .i64 0, .int .i64 0]) ?_ 2 _ rfl; (with_reducible repeat (first | refine blk_drewN ?_ _ | refine blk_drew ?_ | refine blk_alloc ?_ _)); refine blk_put (cs := #[.int .i64 t293, .int .i64 0, .bool false, .int .i64 0, .int .i64 0, .int .i64 0, .int .i64 0]) ?_ 1 _ rfl; (with_reducible repeat (first | refine blk_drewN ?_ _ | refine blk_drew ?_ | refine blk_alloc ?_ _)); refine blk_put (cs := #[.int .i64 0, .int .i64 0, .bool false, .int .i64 0, .int .i64 0, .int .i64 0, .int .i64 0]) ?_ 0 _ rfl; (with_reducible repeat (first | refine blk_drewN ?_ _ | refine blk_drew ?_ | refine blk_alloc ?_ _)); exact BK304.out)) : gb304 ≠ gb305)); have n11_ := Aside0.mk ((by rw [hg]; exact Nat.ne_of_gt (blk_lt (g := gb304) (o := .cells #[.int .i64 t293, .int .i64 t294, .bool t295, .int .i64 t296, .int .i64 t297, .int .i64 t298, .int .i64 t299] 23 (0, 0)) (by (with_reducible repeat (first | refine blk_drewN ?_ _ | refine blk_drew ?_ | refine blk_alloc ?_ _)); refine blk_put (cs := #[.int .i64 t293, .int .i64 t294, .bool t295, .int .i64 t296, .int .i64 t297, .int .i64 t298, .int .i64 0]) ?_ 6 _ rfl; (with_reducible repeat (first | refine blk_drewN ?_ _ | refine blk_drew ?_ | refine blk_alloc ?_ _)); refine blk_put (cs := #[.int .i64 t293, .int .i64 t294, .bool t295, .int .i64 t296, .int .i64 t297, .int .i64 0, .int .i64 0]) ?_ 5 _ rfl; (with_reducible repeat (first | refine blk_drewN ?_ _ | refine blk_drew ?_ | refine blk_alloc ?_ _)); refine blk_put (cs := #[.int .i64 t293, .int .i64 t294, .bool t295, .int .i64 t296, .int .i64 0, .int .i64 0, .int .i64 0]) ?_ 4 _ rfl; (with_reducible repeat (first | refine blk_drewN ?_ _ | refine blk_drew ?_ | refine blk_alloc ?_ _)); refine blk_put (cs := #[.int .i64 t293, .int .i64 t294, .bool t295, .int .i64 0, .int .i64 0, .int .i64 0, .int .i64 0]) ?_ 3 _ rfl; (with_reducible repeat (first | refine blk_drewN ?_ _ | refine blk_drew ?_ | refine blk_alloc ?_ _)); refine blk_put (cs := #[.int .i64 t293, .int .i64 t294, .bool false, .int .i64 0, .int .i64 0, .int .i64 0, .int .i64 0]) ?_ 2 _ rfl; (with_reducible repeat (first | refine blk_drewN ?_ _ | refine blk_drew ?_ | refine blk_alloc ?_ _)); refine blk_put (cs := #[.int .i64 t293, .int .i64 0, .bool false, .int .i64 0, .int .i64 0, .int .i64 0, .int .i64 0]) ?_ 1 _ rfl; (with_reducible repeat (first | refine blk_drewN ?_ _ | refine blk_drew ?_ | refine blk_alloc ?_ _)); refine blk_put (cs := #[.int .i64 0, .int .i64 0, .bool false, .int .i64 0, .int .i64 0, .int .i64 0, .int .i64 0]) ?_ 0 _ rfl; (with_reducible repeat (first | refine blk_drewN ?_ _ | refine blk_drew ?_ | refine blk_alloc ?_ _)); exact BK304.out)) : gb305 ≠ gb304)); clear HO_5; clear HO302; clear BK281; clear BK304; clear HB; have HO_5 := n0_; have HO302 := n1_; have BK281 := n2_; have BK304 := n3_; have HB := n4_; have BK305 := n5_; have GW305 := n6_; have GE305 := n7_; have NB281_305 := n8_; have NB305_281 := n9_; have NB304_305 := n10_; have NB305_304 := n11_; clear n0_ n1_ n2_ n3_ n4_ n5_ n6_ n7_ n8_ n9_ n10_ n11_; clear hb hbox hg; have hnb38 := NB305_281.out; have hnc38 := NB281_305.out; have hnb39 := NB305_304.out; have hnc39 := NB304_305.out; have hcz40_0 : w37.cell? ⟨gb305, 0, none⟩ = some (.int .i64 0) := (blk_cell BK305.out 0).trans rfl; have hcz40_1 : w37.cell? ⟨gb305, 1, none⟩ = some (.int .i64 0) := (blk_cell BK305.out 1).trans rfl; have hcz40_2 : w37.cell? ⟨gb305, 2, none⟩ = some (.bool false) := (blk_cell BK305.out 2).trans rfl; have hcz40_3 : w37.cell? ⟨gb305, 3, none⟩ = some (.int .i64 0) := (blk_cell BK305.out 3).trans rfl; have hcz40_4 : w37.cell? ⟨gb305, 4, none⟩ = some (.int .i64 0) := (blk_cell BK305.out 4).trans rfl; have hcz40_5 : w37.cell? ⟨gb305, 5, none⟩ = some (.int .i64 0) := (blk_cell BK305.out 5).trans rfl; have hcz40_6 : w37.cell? ⟨gb305, 6, none⟩ = some (.int .i64 0) := (blk_cell BK305.out 6).trans rfl; have hfz40_0 := blk_frozen BK305.out 0; have hfz40_1 := blk_frozen BK305.out 1; have hfz40_2 := blk_frozen BK305.out 2; have hfz40_3 := blk_frozen BK305.out 3; have hfz40_4 := blk_frozen BK305.out 4; have hfz40_5 := blk_frozen BK305.out 5; have hfz40_6 := blk_frozen BK305.out 6))
                      have n0_ : Aside0 (Kd.R (Kd.int .u8) 5 (((((((w37.setCell ⟨gb305, 0, none⟩ (.int .i64 a0_0)).setCell ⟨gb305, 1, none⟩ (.int .i64 a0_1)).setCell ⟨gb305, 2, none⟩ (.bool false)).setCell ⟨gb305, 3, none⟩ (.int .i64 a0_3)).setCell ⟨gb305, 4, none⟩ (.int .i64 16)).setCell ⟨gb305, 5, none⟩ (.int .i64 0)).setCell ⟨gb305, 6, none⟩ (.int .i64 a0_6)) w.heap.size (fun _ => True) (.slice Ao31 t285.length co31) t285) := ⟨by (with_reducible repeat (first | apply Kd.R_alloc | apply Kd.R_drewN | apply Kd.R_drew)); exact Kd.R_mono (Kd.R_far (p := ⟨gb305, 6, none⟩) (Kd.R_far (p := ⟨gb305, 5, none⟩) (Kd.R_far (p := ⟨gb305, 4, none⟩) (Kd.R_far (p := ⟨gb305, 3, none⟩) (Kd.R_far (p := ⟨gb305, 2, none⟩) (Kd.R_far (p := ⟨gb305, 1, none⟩) (Kd.R_far (p := ⟨gb305, 0, none⟩) (Kd.R_types HO_5.out BK305.out (by decide)) (fun _ hk => hk.2) (.int .i64 a0_0)) (fun _ hk => hk.2) (.int .i64 a0_1)) (fun _ hk => hk.2) (.bool false)) (fun _ hk => hk.2) (.int .i64 a0_3)) (fun _ hk => hk.2) (.int .i64 16)) (fun _ hk => hk.2) (.int .i64 0)) (fun _ hk => hk.2) (.int .i64 a0_6)) (fun _ hk => trivial)⟩
                      have n1_ : Aside0 (Kd.S (Kd.slice 3 (Kd.int .i64)) 40 (((((((w37.setCell ⟨gb305, 0, none⟩ (.int .i64 a0_0)).setCell ⟨gb305, 1, none⟩ (.int .i64 a0_1)).setCell ⟨gb305, 2, none⟩ (.bool false)).setCell ⟨gb305, 3, none⟩ (.int .i64 a0_3)).setCell ⟨gb305, 4, none⟩ (.int .i64 16)).setCell ⟨gb305, 5, none⟩ (.int .i64 0)).setCell ⟨gb305, 6, none⟩ (.int .i64 a0_6)) w.heap.size (fun _ => True) v301 t300) := ⟨by (with_reducible repeat (first | apply Kd.S_alloc | apply Kd.S_drewN | apply Kd.S_drew)); exact Kd.S_mono (Kd.S_far (p := ⟨gb305, 6, none⟩) (Kd.S_far (p := ⟨gb305, 5, none⟩) (Kd.S_far (p := ⟨gb305, 4, none⟩) (Kd.S_far (p := ⟨gb305, 3, none⟩) (Kd.S_far (p := ⟨gb305, 2, none⟩) (Kd.S_far (p := ⟨gb305, 1, none⟩) (Kd.S_far (p := ⟨gb305, 0, none⟩) (Kd.S_types HO302.out BK305.out (by decide)) (fun _ hk => hk.2) (.int .i64 a0_0)) (fun _ hk => hk.2) (.int .i64 a0_1)) (fun _ hk => hk.2) (.bool false)) (fun _ hk => hk.2) (.int .i64 a0_3)) (fun _ hk => hk.2) (.int .i64 16)) (fun _ hk => hk.2) (.int .i64 0)) (fun _ hk => hk.2) (.int .i64 a0_6)) (fun _ hk => trivial)⟩
                      have n2_ : Aside0 ((((((((w37.setCell ⟨gb305, 0, none⟩ (.int .i64 a0_0)).setCell ⟨gb305, 1, none⟩ (.int .i64 a0_1)).setCell ⟨gb305, 2, none⟩ (.bool false)).setCell ⟨gb305, 3, none⟩ (.int .i64 a0_3)).setCell ⟨gb305, 4, none⟩ (.int .i64 16)).setCell ⟨gb305, 5, none⟩ (.int .i64 0)).setCell ⟨gb305, 6, none⟩ (.int .i64 a0_6)).heap[gb281]? = some (.cells #[.int .i64 a0_0, .int .i64 a0_1, .bool a0_2, .int .i64 a0_3, .int .i64 a0_4, .int .i64 a0_5, .int .i64 a0_6] 23 (0, 0))) := ⟨by (with_reducible repeat (first | refine blk_drewN ?_ _ | refine blk_drew ?_ | refine blk_alloc ?_ _)); refine blk_far ?_ NB281_305.out _; (with_reducible repeat (first | refine blk_drewN ?_ _ | refine blk_drew ?_ | refine blk_alloc ?_ _)); refine blk_far ?_ NB281_305.out _; (with_reducible repeat (first | refine blk_drewN ?_ _ | refine blk_drew ?_ | refine blk_alloc ?_ _)); refine blk_far ?_ NB281_305.out _; (with_reducible repeat (first | refine blk_drewN ?_ _ | refine blk_drew ?_ | refine blk_alloc ?_ _)); refine blk_far ?_ NB281_305.out _; (with_reducible repeat (first | refine blk_drewN ?_ _ | refine blk_drew ?_ | refine blk_alloc ?_ _)); refine blk_far ?_ NB281_305.out _; (with_reducible repeat (first | refine blk_drewN ?_ _ | refine blk_drew ?_ | refine blk_alloc ?_ _)); refine blk_far ?_ NB281_305.out _; (with_reducible repeat (first | refine blk_drewN ?_ _ | refine blk_drew ?_ | refine blk_alloc ?_ _)); refine blk_far ?_ NB281_305.out _; (with_reducible repeat (first | refine blk_drewN ?_ _ | refine blk_drew ?_ | refine blk_alloc ?_ _)); exact BK281.out⟩
                      have n3_ : Aside0 ((((((((w37.setCell ⟨gb305, 0, none⟩ (.int .i64 a0_0)).setCell ⟨gb305, 1, none⟩ (.int .i64 a0_1)).setCell ⟨gb305, 2, none⟩ (.bool false)).setCell ⟨gb305, 3, none⟩ (.int .i64 a0_3)).setCell ⟨gb305, 4, none⟩ (.int .i64 16)).setCell ⟨gb305, 5, none⟩ (.int .i64 0)).setCell ⟨gb305, 6, none⟩ (.int .i64 a0_6)).heap[gb304]? = some (.cells #[.int .i64 t293, .int .i64 t294, .bool t295, .int .i64 t296, .int .i64 t297, .int .i64 t298, .int .i64 t299] 23 (0, 0))) := ⟨by (with_reducible repeat (first | refine blk_drewN ?_ _ | refine blk_drew ?_ | refine blk_alloc ?_ _)); refine blk_far ?_ NB304_305.out _; (with_reducible repeat (first | refine blk_drewN ?_ _ | refine blk_drew ?_ | refine blk_alloc ?_ _)); refine blk_far ?_ NB304_305.out _; (with_reducible repeat (first | refine blk_drewN ?_ _ | refine blk_drew ?_ | refine blk_alloc ?_ _)); refine blk_far ?_ NB304_305.out _; (with_reducible repeat (first | refine blk_drewN ?_ _ | refine blk_drew ?_ | refine blk_alloc ?_ _)); refine blk_far ?_ NB304_305.out _; (with_reducible repeat (first | refine blk_drewN ?_ _ | refine blk_drew ?_ | refine blk_alloc ?_ _)); refine blk_far ?_ NB304_305.out _; (with_reducible repeat (first | refine blk_drewN ?_ _ | refine blk_drew ?_ | refine blk_alloc ?_ _)); refine blk_far ?_ NB304_305.out _; (with_reducible repeat (first | refine blk_drewN ?_ _ | refine blk_drew ?_ | refine blk_alloc ?_ _)); refine blk_far ?_ NB304_305.out _; (with_reducible repeat (first | refine blk_drewN ?_ _ | refine blk_drew ?_ | refine blk_alloc ?_ _)); exact BK304.out⟩
                      have n4_ : Aside0 ((((((((w37.setCell ⟨gb305, 0, none⟩ (.int .i64 a0_0)).setCell ⟨gb305, 1, none⟩ (.int .i64 a0_1)).setCell ⟨gb305, 2, none⟩ (.bool false)).setCell ⟨gb305, 3, none⟩ (.int .i64 a0_3)).setCell ⟨gb305, 4, none⟩ (.int .i64 16)).setCell ⟨gb305, 5, none⟩ (.int .i64 0)).setCell ⟨gb305, 6, none⟩ (.int .i64 a0_6)).heap[gb305]? = some (.cells #[.int .i64 a0_0, .int .i64 a0_1, .bool false, .int .i64 a0_3, .int .i64 16, .int .i64 0, .int .i64 a0_6] 23 (0, 0))) := ⟨by (with_reducible repeat (first | refine blk_drewN ?_ _ | refine blk_drew ?_ | refine blk_alloc ?_ _)); refine blk_put (cs := #[.int .i64 a0_0, .int .i64 a0_1, .bool false, .int .i64 a0_3, .int .i64 16, .int .i64 0, .int .i64 0]) ?_ 6 _ rfl; (with_reducible repeat (first | refine blk_drewN ?_ _ | refine blk_drew ?_ | refine blk_alloc ?_ _)); refine blk_put (cs := #[.int .i64 a0_0, .int .i64 a0_1, .bool false, .int .i64 a0_3, .int .i64 16, .int .i64 0, .int .i64 0]) ?_ 5 _ rfl; (with_reducible repeat (first | refine blk_drewN ?_ _ | refine blk_drew ?_ | refine blk_alloc ?_ _)); refine blk_put (cs := #[.int .i64 a0_0, .int .i64 a0_1, .bool false, .int .i64 a0_3, .int .i64 0, .int .i64 0, .int .i64 0]) ?_ 4 _ rfl; (with_reducible repeat (first | refine blk_drewN ?_ _ | refine blk_drew ?_ | refine blk_alloc ?_ _)); refine blk_put (cs := #[.int .i64 a0_0, .int .i64 a0_1, .bool false, .int .i64 0, .int .i64 0, .int .i64 0, .int .i64 0]) ?_ 3 _ rfl; (with_reducible repeat (first | refine blk_drewN ?_ _ | refine blk_drew ?_ | refine blk_alloc ?_ _)); refine blk_put (cs := #[.int .i64 a0_0, .int .i64 a0_1, .bool false, .int .i64 0, .int .i64 0, .int .i64 0, .int .i64 0]) ?_ 2 _ rfl; (with_reducible repeat (first | refine blk_drewN ?_ _ | refine blk_drew ?_ | refine blk_alloc ?_ _)); refine blk_put (cs := #[.int .i64 a0_0, .int .i64 0, .bool false, .int .i64 0, .int .i64 0, .int .i64 0, .int .i64 0]) ?_ 1 _ rfl; (with_reducible repeat (first | refine blk_drewN ?_ _ | refine blk_drew ?_ | refine blk_alloc ?_ _)); refine blk_put (cs := #[.int .i64 0, .int .i64 0, .bool false, .int .i64 0, .int .i64 0, .int .i64 0, .int .i64 0]) ?_ 0 _ rfl; (with_reducible repeat (first | refine blk_drewN ?_ _ | refine blk_drew ?_ | refine blk_alloc ?_ _)); exact BK305.out⟩
                      have n5_ : Aside0 (Below w.heap.size w (((((((w37.setCell ⟨gb305, 0, none⟩ (.int .i64 a0_0)).setCell ⟨gb305, 1, none⟩ (.int .i64 a0_1)).setCell ⟨gb305, 2, none⟩ (.bool false)).setCell ⟨gb305, 3, none⟩ (.int .i64 a0_3)).setCell ⟨gb305, 4, none⟩ (.int .i64 16)).setCell ⟨gb305, 5, none⟩ (.int .i64 0)).setCell ⟨gb305, 6, none⟩ (.int .i64 a0_6))) := ⟨by repeat (first | (with_reducible first | exact HB.out | apply below_alloc | apply pw_below_drewN | apply below_drew1 | refine below_set ?_ GE281.out | refine below_set ?_ GE304.out | refine below_set ?_ GE305.out) | exact HB.out)⟩
                      (try clear HO_5)
                      (try clear HO302)
                      (try clear BK281)
                      (try clear BK304)
                      (try clear BK305)
                      (try clear HB)
                      generalize (((((((w37.setCell ⟨gb305, 0, none⟩ (.int .i64 a0_0)).setCell ⟨gb305, 1, none⟩ (.int .i64 a0_1)).setCell ⟨gb305, 2, none⟩ (.bool false)).setCell ⟨gb305, 3, none⟩ (.int .i64 a0_3)).setCell ⟨gb305, 4, none⟩ (.int .i64 16)).setCell ⟨gb305, 5, none⟩ (.int .i64 0)).setCell ⟨gb305, 6, none⟩ (.int .i64 a0_6)) = w41 at n0_ n1_ n2_ n3_ n4_ n5_ ⊢
                      have HO_5 := n0_
                      have HO302 := n1_
                      have BK281 := n2_
                      have BK304 := n3_
                      have BK305 := n4_
                      have HB := n5_
                      clear n0_ n1_ n2_ n3_ n4_ n5_
                      have n0_ := Aside0.mk (Kd.R_drew HO_5.out)
                      have n1_ := Aside0.mk (Kd.S_drew HO302.out)
                      have n2_ := Aside0.mk (blk_drew BK281.out)
                      have n3_ := Aside0.mk (blk_drew BK304.out)
                      have n4_ := Aside0.mk (blk_drew BK305.out)
                      have n5_ := Aside0.mk (below_drew1 HB.out)
                      clear HO_5
                      clear HO302
                      clear BK281
                      clear BK304
                      clear BK305
                      clear HB
                      have HO_5 := n0_
                      have HO302 := n1_
                      have BK281 := n2_
                      have BK304 := n3_
                      have BK305 := n4_
                      have HB := n5_
                      clear n0_ n1_ n2_ n3_ n4_ n5_
                      obtain ⟨Ao43, co43, eo43⟩ := Kd.S_slice HO302.out
                      (first | subst eo43 | (injection eo43 with f1_ f2_ f3_; have f4_ := f1_.symm; have f5_ := f3_.symm; clear f1_ f2_ f3_; subst f4_; subst f5_))
                      refine start_ (n := 24) (S := fun w' => w'.cell? ⟨gb304, 0, none⟩ = some (.int .i64 t293) ∧ w'.cell? ⟨gb304, 1, none⟩ = some (.int .i64 t294) ∧ w'.cell? ⟨gb304, 2, none⟩ = some (.bool t295) ∧ w'.cell? ⟨gb304, 3, none⟩ = some (.int .i64 t296) ∧ w'.cell? ⟨gb304, 4, none⟩ = some (.int .i64 t297) ∧ w'.cell? ⟨gb304, 5, none⟩ = some (.int .i64 t298) ∧ w'.cell? ⟨gb304, 6, none⟩ = some (.int .i64 t299) ∧ w'.cell? ⟨gb305, 0, none⟩ = some (.int .i64 a0_0) ∧ w'.cell? ⟨gb305, 1, none⟩ = some (.int .i64 a0_1) ∧ w'.cell? ⟨gb305, 2, none⟩ = some (.bool false) ∧ w'.cell? ⟨gb305, 3, none⟩ = some (.int .i64 a0_3) ∧ w'.cell? ⟨gb305, 4, none⟩ = some (.int .i64 16) ∧ w'.cell? ⟨gb305, 5, none⟩ = some (.int .i64 0) ∧ w'.cell? ⟨gb305, 6, none⟩ = some (.int .i64 a0_6) ∧ w'.cell? ⟨gb281, 0, none⟩ = some (.int .i64 a0_0) ∧ w'.cell? ⟨gb281, 1, none⟩ = some (.int .i64 a0_1) ∧ w'.cell? ⟨gb281, 2, none⟩ = some (.bool a0_2) ∧ w'.cell? ⟨gb281, 3, none⟩ = some (.int .i64 a0_3) ∧ w'.cell? ⟨gb281, 4, none⟩ = some (.int .i64 a0_4) ∧ w'.cell? ⟨gb281, 5, none⟩ = some (.int .i64 a0_5) ∧ w'.cell? ⟨gb281, 6, none⟩ = some (.int .i64 a0_6)) (ds := []) #[false, false, false, false, false, false, false, false, false, false, false, false, false, false, false, false, false, false, false, false, false, false, false, false] (by kernel_rfl) rfl rfl ⟨(blk_cell BK304.out 0).trans rfl, (blk_cell BK304.out 1).trans rfl, (blk_cell BK304.out 2).trans rfl, (blk_cell BK304.out 3).trans rfl, (blk_cell BK304.out 4).trans rfl, (blk_cell BK304.out 5).trans rfl, (blk_cell BK304.out 6).trans rfl, (blk_cell BK305.out 0).trans rfl, (blk_cell BK305.out 1).trans rfl, (blk_cell BK305.out 2).trans rfl, (blk_cell BK305.out 3).trans rfl, (blk_cell BK305.out 4).trans rfl, (blk_cell BK305.out 5).trans rfl, (blk_cell BK305.out 6).trans rfl, (blk_cell BK281.out 0).trans rfl, (blk_cell BK281.out 1).trans rfl, (blk_cell BK281.out 2).trans rfl, (blk_cell BK281.out 3).trans rfl, (blk_cell BK281.out 4).trans rfl, (blk_cell BK281.out 5).trans rfl, (blk_cell BK281.out 6).trans rfl⟩ (fun hHeld => ?_); refine with_tabW sackbutlaw19_WaveWrites.tab11 sackbutlaw19_WaveWrites.bits11 (fun HT_ HW_ => ?_)
                      generalize w41.drew = w42 at HO_5 HO302 BK281 BK304 BK305 HB hHeld ⊢
                      refine pure_ (i := 0) (N := some 60) (v := ?_) (a' := ?_) #[true, false, false, false, false, false, false, false, false, false, false, false, false, false, false, false, false, false, false, false, false, false, false, false] rfl rfl (any_of HT_.out (by kernel_rfl)) (fun _ _ _ h => h) (Or.inl ⟨by rfl, ?_⟩) ?_ ?_
                      rotate_left
                      · intro w'
                        go_simp
                        with_reducible rfl
                      rotate_left
                      · simp only [Act.put, List.setIfInBounds_toArray, List.set_cons_zero, List.set_cons_succ, i64_w, i32_w]
                        rfl
                      refine pure_ (i := 1) (N := some 61) (v := ?_) (a' := ?_) #[true, true, false, false, false, false, false, false, false, false, false, false, false, false, false, false, false, false, false, false, false, false, false, false] rfl rfl (any_of HT_.out (by kernel_rfl)) (fun _ _ _ h => h) (Or.inl ⟨by rfl, ?_⟩) ?_ ?_
                      rotate_left
                      · intro w'
                        go_simp
                        with_reducible rfl
                      rotate_left
                      · simp only [Act.put, List.setIfInBounds_toArray, List.set_cons_zero, List.set_cons_succ, i64_w, i32_w]
                        rfl
                      refine pure_ (i := 2) (N := some 62) (v := ?_) (a' := ?_) #[true, true, true, false, false, false, false, false, false, false, false, false, false, false, false, false, false, false, false, false, false, false, false, false] rfl rfl (any_of HT_.out (by kernel_rfl)) (fun _ _ _ h => h) (Or.inl ⟨by rfl, ?_⟩) ?_ ?_
                      rotate_left
                      · intro w'
                        go_simp
                        with_reducible rfl
                      rotate_left
                      · simp only [Act.put, List.setIfInBounds_toArray, List.set_cons_zero, List.set_cons_succ, i64_w, i32_w]
                        rfl
                      refine take_ (i := 3) (N := some 63) (v := ?_) (a' := ?_) #[true, true, true, true, false, false, false, false, false, false, false, false, false, false, false, false, false, false, false, false, false, false, false, false] rfl rfl (take_ofW HT_.out HW_.out (by kernel_rfl)) (fun _ _ _ h => h) (Or.inl ⟨by rfl, ?_⟩) hHeld ?_ ?_
                      rotate_left
                      · rintro w' ⟨s0, s1, s2, s3, s4, s5, s6, s7, s8, s9, s10, s11, s12, s13, s14, s15, s16, s17, s18, s19, s20⟩
                        go_simp
                        with_reducible rfl
                      rotate_left
                      · simp only [Act.put, List.setIfInBounds_toArray, List.set_cons_zero, List.set_cons_succ, i64_w, i32_w]
                        rfl
                      refine take_ (i := 4) (N := some 64) (v := ?_) (a' := ?_) #[true, true, true, true, true, false, false, false, false, false, false, false, false, false, false, false, false, false, false, false, false, false, false, false] rfl rfl (take_ofW HT_.out HW_.out (by kernel_rfl)) (fun _ _ _ h => h) (Or.inl ⟨by rfl, ?_⟩) hHeld ?_ ?_
                      rotate_left
                      · rintro w' ⟨s0, s1, s2, s3, s4, s5, s6, s7, s8, s9, s10, s11, s12, s13, s14, s15, s16, s17, s18, s19, s20⟩
                        go_simp
                        with_reducible rfl
                      rotate_left
                      · simp only [Act.put, List.setIfInBounds_toArray, List.set_cons_zero, List.set_cons_succ, i64_w, i32_w]
                        rfl
                      refine pure_ (i := 5) (N := some 65) (v := ?_) (a' := ?_) #[true, true, true, true, true, true, false, false, false, false, false, false, false, false, false, false, false, false, false, false, false, false, false, false] rfl rfl (any_of HT_.out (by kernel_rfl)) (fun _ _ _ h => h) (Or.inl ⟨by rfl, ?_⟩) ?_ ?_
                      rotate_left
                      · intro w'
                        go_simp
                        with_reducible rfl
                      rotate_left
                      · simp only [Act.put, List.setIfInBounds_toArray, List.set_cons_zero, List.set_cons_succ, i64_w, i32_w]
                        rfl
                      refine pure_ (i := 6) (N := some 66) (v := ?_) (a' := ?_) #[true, true, true, true, true, true, true, false, false, false, false, false, false, false, false, false, false, false, false, false, false, false, false, false] rfl rfl (any_of HT_.out (by kernel_rfl)) (fun _ _ _ h => h) (Or.inl ⟨by rfl, ?_⟩) ?_ ?_
                      rotate_left
                      · intro w'
                        go_simp
                        with_reducible rfl
                      rotate_left
                      · simp only [Act.put, List.setIfInBounds_toArray, List.set_cons_zero, List.set_cons_succ, i64_w, i32_w]
                        rfl
                      refine pure_ (i := 7) (N := some 67) (v := ?_) (a' := ?_) #[true, true, true, true, true, true, true, true, false, false, false, false, false, false, false, false, false, false, false, false, false, false, false, false] rfl rfl (any_of HT_.out (by kernel_rfl)) (fun _ _ _ h => h) (Or.inl ⟨by rfl, ?_⟩) ?_ ?_
                      rotate_left
                      · intro w'
                        go_simp
                        with_reducible rfl
                      rotate_left
                      · simp only [Act.put, List.setIfInBounds_toArray, List.set_cons_zero, List.set_cons_succ, i64_w, i32_w]
                        rfl
                      refine pure_ (i := 8) (N := some 68) (v := ?_) (a' := ?_) #[true, true, true, true, true, true, true, true, true, false, false, false, false, false, false, false, false, false, false, false, false, false, false, false] rfl rfl (any_of HT_.out (by kernel_rfl)) (fun _ _ _ h => h) (Or.inl ⟨by rfl, ?_⟩) ?_ ?_
                      rotate_left
                      · intro w'
                        go_simp
                        with_reducible rfl
                      rotate_left
                      · simp only [Act.put, List.setIfInBounds_toArray, List.set_cons_zero, List.set_cons_succ, i64_w, i32_w]
                        rfl
                      refine pure_ (i := 9) (N := some 69) (v := ?_) (a' := ?_) #[true, true, true, true, true, true, true, true, true, true, false, false, false, false, false, false, false, false, false, false, false, false, false, false] rfl rfl (any_of HT_.out (by kernel_rfl)) (fun _ _ _ h => h) (Or.inl ⟨by rfl, ?_⟩) ?_ ?_
                      rotate_left
                      · intro w'
                        go_simp
                        with_reducible rfl
                      rotate_left
                      · simp only [Act.put, List.setIfInBounds_toArray, List.set_cons_zero, List.set_cons_succ, i64_w, i32_w]
                        rfl
                      refine one_ (i := 10) (N := some 70) #[true, true, true, true, true, true, true, true, true, true, true, false, false, false, false, false, false, false, false, false, false, false, false, false] rfl rfl (one_of HT_.out (by kernel_rfl)) (by decide) (fun K hK => ?_)
                      refine goes_ Try.func10 (by kernel_rfl) rfl #[.slice Ao43 t300.length co43, .slice A1 l1.length c1] (by rfl) rfl rfl (by (try simp only [List.map_toArray, List.map_cons, List.map_nil]); first | done | rfl | (simp only [List.length_drop, List.length_take]; rfl)) ?_
                      with_reducible refine (sackbutref05_Same.calls kj14 _ _ t300 _ _ l1 true _ ?side1 ?side2 ?side3 ?side4 A28.out).mono ?_
                      (case side1 => repeat (first | exact (Kd.S_reads' HO302.out).2.2 | (with_reducible refine Kd.C_alloc ?_ _) | (with_reducible refine Kd.C_drewN ?_ _) | (with_reducible refine Kd.C_drew ?_)))
                      (case side2 => exact (Kd.S_reads' HO302.out).2.1)
                      (case side3 => repeat (first | exact (Kd.C_below HR1.out HB.out) | (with_reducible refine Kd.C_alloc ?_ _) | (with_reducible refine Kd.C_drewN ?_ _) | (with_reducible refine Kd.C_drew ?_)))
                      (case side4 => exact HC1.out)
                      rintro e w' ⟨rfl, ⟨nd, rfl⟩⟩
                      refine ⟨_, rfl, ?_⟩
                      refine hK.out _ _ ⟨(blk_cell BK304.out 0).trans rfl, (blk_cell BK304.out 1).trans rfl, (blk_cell BK304.out 2).trans rfl, (blk_cell BK304.out 3).trans rfl, (blk_cell BK304.out 4).trans rfl, (blk_cell BK304.out 5).trans rfl, (blk_cell BK304.out 6).trans rfl, (blk_cell BK305.out 0).trans rfl, (blk_cell BK305.out 1).trans rfl, (blk_cell BK305.out 2).trans rfl, (blk_cell BK305.out 3).trans rfl, (blk_cell BK305.out 4).trans rfl, (blk_cell BK305.out 5).trans rfl, (blk_cell BK305.out 6).trans rfl, (blk_cell BK281.out 0).trans rfl, (blk_cell BK281.out 1).trans rfl, (blk_cell BK281.out 2).trans rfl, (blk_cell BK281.out 3).trans rfl, (blk_cell BK281.out 4).trans rfl, (blk_cell BK281.out 5).trans rfl, (blk_cell BK281.out 6).trans rfl⟩ (fun hHeld => ?_)
                      clear hK K
                      refine norm_ (a' := ?_) ?_ ?_
                      rotate_left
                      · show Act.put _ (some 70) _ = _
                        simp only [Act.put, List.setIfInBounds_toArray, List.set_cons_zero, List.set_cons_succ, i64_w, i32_w]
                        rfl
                      refine pure_ (i := 11) (N := some 71) (v := ?_) (a' := ?_) #[true, true, true, true, true, true, true, true, true, true, true, true, false, false, false, false, false, false, false, false, false, false, false, false] rfl rfl (any_of HT_.out (by kernel_rfl)) (fun _ _ _ h => h) (Or.inl ⟨by rfl, ?_⟩) ?_ ?_
                      rotate_left
                      · intro w'
                        go_simp
                        with_reducible rfl
                      rotate_left
                      · simp only [Act.put, List.setIfInBounds_toArray, List.set_cons_zero, List.set_cons_succ, i64_w, i32_w]
                        rfl
                      refine pure_ (i := 12) (N := some 72) (v := ?_) (a' := ?_) #[true, true, true, true, true, true, true, true, true, true, true, true, true, false, false, false, false, false, false, false, false, false, false, false] rfl rfl (any_of HT_.out (by kernel_rfl)) (fun _ _ _ h => h) (Or.inl ⟨by rfl, ?_⟩) ?_ ?_
                      rotate_left
                      · intro w'
                        go_simp
                        with_reducible rfl
                      rotate_left
                      · simp only [Act.put, List.setIfInBounds_toArray, List.set_cons_zero, List.set_cons_succ, i64_w, i32_w]
                        rfl
                      refine pure_ (i := 15) (N := some 75) (v := ?_) (a' := ?_) #[true, true, true, true, true, true, true, true, true, true, true, true, true, false, false, true, false, false, false, false, false, false, false, false] rfl rfl (any_of HT_.out (by kernel_rfl)) (fun _ _ _ h => h) (Or.inl ⟨by rfl, ?_⟩) ?_ ?_
                      rotate_left
                      · intro w'
                        go_simp
                        with_reducible rfl
                      rotate_left
                      · simp only [Act.put, List.setIfInBounds_toArray, List.set_cons_zero, List.set_cons_succ, i64_w, i32_w]
                        rfl
                      refine pure_ (i := 17) (N := some 77) (v := ?_) (a' := ?_) #[true, true, true, true, true, true, true, true, true, true, true, true, true, false, false, true, false, true, false, false, false, false, false, false] rfl rfl (any_of HT_.out (by kernel_rfl)) (fun _ _ _ h => h) (Or.inl ⟨by rfl, ?_⟩) ?_ ?_
                      rotate_left
                      · intro w'
                        go_simp
                        with_reducible rfl
                      rotate_left
                      · simp only [Act.put, List.setIfInBounds_toArray, List.set_cons_zero, List.set_cons_succ, i64_w, i32_w]
                        rfl
                      refine take_ (i := 13) (N := some 73) (v := ?_) (a' := ?_) #[true, true, true, true, true, true, true, true, true, true, true, true, true, true, false, true, false, true, false, false, false, false, false, false] rfl rfl (take_ofW HT_.out HW_.out (by kernel_rfl)) (fun _ _ _ h => h) (Or.inl ⟨by rfl, ?_⟩) hHeld ?_ ?_
                      rotate_left
                      · rintro w' ⟨s0, s1, s2, s3, s4, s5, s6, s7, s8, s9, s10, s11, s12, s13, s14, s15, s16, s17, s18, s19, s20⟩
                        go_simp
                        with_reducible rfl
                      rotate_left
                      · simp only [Act.put, List.setIfInBounds_toArray, List.set_cons_zero, List.set_cons_succ, i64_w, i32_w]
                        rfl
                      refine take_ (i := 16) (N := some 76) (v := ?_) (a' := ?_) #[true, true, true, true, true, true, true, true, true, true, true, true, true, true, false, true, true, true, false, false, false, false, false, false] rfl rfl (take_ofW HT_.out HW_.out (by kernel_rfl)) (fun _ _ _ h => h) (Or.inl ⟨by rfl, ?_⟩) hHeld ?_ ?_
                      rotate_left
                      · rintro w' ⟨s0, s1, s2, s3, s4, s5, s6, s7, s8, s9, s10, s11, s12, s13, s14, s15, s16, s17, s18, s19, s20⟩
                        go_simp
                        with_reducible rfl
                      rotate_left
                      · simp only [Act.put, List.setIfInBounds_toArray, List.set_cons_zero, List.set_cons_succ, i64_w, i32_w]
                        rfl
                      refine take_ (i := 18) (N := some 78) (v := ?_) (a' := ?_) #[true, true, true, true, true, true, true, true, true, true, true, true, true, true, false, true, true, true, true, false, false, false, false, false] rfl rfl (take_ofW HT_.out HW_.out (by kernel_rfl)) (fun _ _ _ h => h) (Or.inl ⟨by rfl, ?_⟩) hHeld ?_ ?_
                      rotate_left
                      · rintro w' ⟨s0, s1, s2, s3, s4, s5, s6, s7, s8, s9, s10, s11, s12, s13, s14, s15, s16, s17, s18, s19, s20⟩
                        go_simp
                        with_reducible rfl
                      rotate_left
                      · simp only [Act.put, List.setIfInBounds_toArray, List.set_cons_zero, List.set_cons_succ, i64_w, i32_w]
                        rfl
                      refine pure_ (i := 19) (N := some 79) (v := ?_) (a' := ?_) #[true, true, true, true, true, true, true, true, true, true, true, true, true, true, false, true, true, true, true, true, false, false, false, false] rfl rfl (any_of HT_.out (by kernel_rfl)) (fun _ _ _ h => h) (Or.inl ⟨by rfl, ?_⟩) ?_ ?_
                      rotate_left
                      · intro w'
                        go_simp
                        with_reducible rfl
                      rotate_left
                      · simp only [Act.put, List.setIfInBounds_toArray, List.set_cons_zero, List.set_cons_succ, i64_w, i32_w]
                        rfl
                      refine pure_ (i := 20) (N := some 80) (v := ?_) (a' := ?_) #[true, true, true, true, true, true, true, true, true, true, true, true, true, true, false, true, true, true, true, true, true, false, false, false] rfl rfl (any_of HT_.out (by kernel_rfl)) (fun _ _ _ h => h) (Or.inl ⟨by rfl, ?_⟩) ?_ ?_
                      rotate_left
                      · intro w'
                        go_simp
                        with_reducible rfl
                      rotate_left
                      · simp only [Act.put, List.setIfInBounds_toArray, List.set_cons_zero, List.set_cons_succ, i64_w, i32_w]
                        rfl
                      refine one_ (i := 14) (N := some 74) #[true, true, true, true, true, true, true, true, true, true, true, true, true, true, true, true, true, true, true, true, true, false, false, false] rfl rfl (one_of HT_.out (by kernel_rfl)) (by decide) (fun K hK => ?_)
                      refine goes_ Try.func11 (by kernel_rfl) rfl #[.agg #[.int .i64 a0_0, .int .i64 a0_1, .bool a0_2, .int .i64 a0_3, .int .i64 a0_4, .int .i64 a0_5, .int .i64 a0_6]] (by rfl) rfl rfl (by (try simp only [List.map_toArray, List.map_cons, List.map_nil]); first | done | rfl | (simp only [List.length_drop, List.length_take]; rfl)) ?_
                      with_reducible refine (wave_Row.calls a0_0 a0_1 a0_2 a0_3 a0_4 a0_5 a0_6 t307 _ A30.out).mono ?_
                      rintro e w44 ⟨rfl, hb⟩
                      refine ⟨_, rfl, ?_⟩
                      have n0_ := Aside0.mk (Kd.R_below (by (with_reducible repeat (first | apply Kd.R_alloc | apply Kd.R_drewN | apply Kd.R_drew)); exact HO_5.out) hb)
                      have n1_ := Aside0.mk (Kd.S_below (by (with_reducible repeat (first | apply Kd.S_alloc | apply Kd.S_drewN | apply Kd.S_drew)); exact HO302.out) hb)
                      have n2_ := Aside0.mk (blk_below (g := gb281) (o := .cells #[.int .i64 a0_0, .int .i64 a0_1, .bool a0_2, .int .i64 a0_3, .int .i64 a0_4, .int .i64 a0_5, .int .i64 a0_6] 23 (0, 0)) (by (with_reducible repeat (first | refine blk_drewN ?_ _ | refine blk_drew ?_ | refine blk_alloc ?_ _)); exact BK281.out) hb)
                      have n3_ := Aside0.mk (blk_below (g := gb304) (o := .cells #[.int .i64 t293, .int .i64 t294, .bool t295, .int .i64 t296, .int .i64 t297, .int .i64 t298, .int .i64 t299] 23 (0, 0)) (by (with_reducible repeat (first | refine blk_drewN ?_ _ | refine blk_drew ?_ | refine blk_alloc ?_ _)); exact BK304.out) hb)
                      have n4_ := Aside0.mk (blk_below (g := gb305) (o := .cells #[.int .i64 a0_0, .int .i64 a0_1, .bool false, .int .i64 a0_3, .int .i64 16, .int .i64 0, .int .i64 a0_6] 23 (0, 0)) (by (with_reducible repeat (first | refine blk_drewN ?_ _ | refine blk_drew ?_ | refine blk_alloc ?_ _)); exact BK305.out) hb)
                      have n5_ := Aside0.mk (below_step (by repeat (first | (with_reducible first | exact HB.out | apply below_alloc | apply pw_below_drewN | apply below_drew1 | refine below_set ?_ GE281.out | refine below_set ?_ GE304.out | refine below_set ?_ GE305.out) | exact HB.out)) hb)
                      clear HO_5
                      clear HO302
                      clear BK281
                      clear BK304
                      clear BK305
                      clear HB
                      have HO_5 := n0_
                      have HO302 := n1_
                      have BK281 := n2_
                      have BK304 := n3_
                      have BK305 := n4_
                      have HB := n5_
                      clear n0_ n1_ n2_ n3_ n4_ n5_
                      (try clear hb)
                      (try clear hb2)
                      (try clear hk)
                      (try clear hi)
                      refine hK.out _ _ ⟨(blk_cell BK304.out 0).trans rfl, (blk_cell BK304.out 1).trans rfl, (blk_cell BK304.out 2).trans rfl, (blk_cell BK304.out 3).trans rfl, (blk_cell BK304.out 4).trans rfl, (blk_cell BK304.out 5).trans rfl, (blk_cell BK304.out 6).trans rfl, (blk_cell BK305.out 0).trans rfl, (blk_cell BK305.out 1).trans rfl, (blk_cell BK305.out 2).trans rfl, (blk_cell BK305.out 3).trans rfl, (blk_cell BK305.out 4).trans rfl, (blk_cell BK305.out 5).trans rfl, (blk_cell BK305.out 6).trans rfl, (blk_cell BK281.out 0).trans rfl, (blk_cell BK281.out 1).trans rfl, (blk_cell BK281.out 2).trans rfl, (blk_cell BK281.out 3).trans rfl, (blk_cell BK281.out 4).trans rfl, (blk_cell BK281.out 5).trans rfl, (blk_cell BK281.out 6).trans rfl⟩ (fun hHeld => ?_)
                      clear hK K
                      refine norm_ (a' := ?_) ?_ ?_
                      rotate_left
                      · show Act.put _ (some 74) _ = _
                        simp only [Act.put, List.setIfInBounds_toArray, List.set_cons_zero, List.set_cons_succ, i64_w, i32_w]
                        rfl
                      refine pure_ (i := 21) (N := some 81) (v := ?_) (a' := ?_) #[true, true, true, true, true, true, true, true, true, true, true, true, true, true, true, true, true, true, true, true, true, true, false, false] rfl rfl (any_of HT_.out (by kernel_rfl)) (fun _ _ _ h => h) (Or.inl ⟨by rfl, ?_⟩) ?_ ?_
                      rotate_left
                      · intro w'
                        go_simp
                        with_reducible rfl
                      rotate_left
                      · simp only [Act.put, List.setIfInBounds_toArray, List.set_cons_zero, List.set_cons_succ, i64_w, i32_w]
                        rfl
                      refine pure_ (i := 22) (N := some 82) (v := ?_) (a' := ?_) #[true, true, true, true, true, true, true, true, true, true, true, true, true, true, true, true, true, true, true, true, true, true, true, false] rfl rfl (any_of HT_.out (by kernel_rfl)) (fun _ _ _ h => h) (Or.inl ⟨by rfl, ?_⟩) ?_ ?_
                      rotate_left
                      · intro w'
                        go_simp
                        with_reducible rfl
                      rotate_left
                      · simp only [Act.put, List.setIfInBounds_toArray, List.set_cons_zero, List.set_cons_succ, i64_w, i32_w]
                        rfl
                      refine pure_ (i := 23) (N := some 4) (v := ?_) (a' := ?_) #[true, true, true, true, true, true, true, true, true, true, true, true, true, true, true, true, true, true, true, true, true, true, true, true] rfl rfl (any_of HT_.out (by kernel_rfl)) (fun _ _ _ h => h) (Or.inl ⟨by rfl, ?_⟩) ?_ ?_
                      rotate_left
                      · intro w'
                        go_simp
                        with_reducible rfl
                      rotate_left
                      · simp only [Act.put, List.setIfInBounds_toArray, List.set_cons_zero, List.set_cons_succ, i64_w, i32_w]
                        rfl
                      refine done_ (done_of HT_.out (by kernel_rfl)) ?_
                      try go_wp2
                      go_ret
                      exact ⟨by first | rfl | (simp [errW_none, errW_some] <;> rfl) | (simp [*, errW_none, errW_some] <;> rfl), by repeat (first | (with_reducible first | exact HB.out | apply below_alloc | apply pw_below_drewN | apply below_drew1 | refine below_set ?_ GE281.out | refine below_set ?_ GE304.out | refine below_set ?_ GE305.out) | exact HB.out)⟩
                    · replace c29 := Bool.eq_false_iff.mpr c29
                      subst c29
                      have H1 : (some false) = some r := by rw [if_neg (show ¬ (false = true) by decide)] at H; exact H
                      clear H
                      have H := H1
                      clear H1
                      exact absurd (Option.some.inj H) (by rw [HRT.out]; decide)
                  · rw [if_neg c27] at H
                    have c27b0 : (t293 == a0_0 && (t294 == a0_1 && (!t295 && (t296 == a0_3 && (t297 == 16 && (t298 == 0 && (t299 == a0_6))))))) = false := by simpa using c27
                    (try (have c27b1 : decide (t293 = a0_0 && (t294 == a0_1 && (!t295 && (t296 == a0_3 && (t297 == 16 && (t298 == 0 && (t299 == a0_6))))))) = false := by simpa using c27))
                    (try (have c27b2 : (t293 == a0_0 && (t294 == a0_1 && (!t295 && (t296 == a0_3 && (t297 == 16 && (t298 == 0 && (t299 == a0_6))))))) = false := by simpa using c27))
                    (try (have c27b3 : ¬ (t293 = a0_0 && (t294 == a0_1 && (!t295 && (t296 == a0_3 && (t297 == 16 && (t298 == 0 && (t299 == a0_6))))))) := by simpa using c27))
                    clear c27
                    exact absurd (Option.some.inj H) (by rw [HRT.out]; decide)
                · rw [if_neg c26] at H
                  have c26b0 : (t303 == 0) = false := beq_eq_false_iff_ne.mpr c26
                  have c26b1 : (t303 != 0) = true := bne_iff_ne.mpr c26
                  exact absurd (Option.some.inj H) (by rw [HRT.out]; decide)
              · rw [if_neg c24] at H
                have c24b0 : (t292 == 0) = false := beq_eq_false_iff_ne.mpr c24
                have c24b1 : (t292 != 0) = true := bne_iff_ne.mpr c24
                obtain rfl := Option.some.inj H
                go_wp2
                go_ret
                exact ⟨by first | rfl | (simp [errW_none, errW_some] <;> rfl) | (simp [*, errW_none, errW_some] <;> rfl), by repeat (first | (with_reducible first | exact HB.out | apply below_alloc | apply pw_below_drewN | apply below_drew1 | refine below_set ?_ GE281.out) | exact HB.out)⟩


end Go.Proofs.Ytliidobbkfmndaa.HW2

namespace Go.Proofs.Ytliidobbkfmndaa.Pure
open Go Go.RowKit Go.Proofs.Ytliidobbkfmndaa.HW2 Go.Proofs.YtliidobbkfmndaaW.PrintWords Go.Proofs.YtliidobbkfmndaaW.PrintLast
/-- WaveWrites: the law in numbers and lists alone. -/
def PureGWaveWrites : Prop := ∀ (a0_0 : Int) (a0_1 : Int) (a0_2 : Bool) (a0_3 : Int) (a0_4 : Int) (a0_5 : Int) (a0_6 : Int) (l1 : List (List (Int))), (Lit.int .i64 a0_0).wf = true → (Lit.int .i64 a0_1).wf = true → (Lit.int .i64 a0_3).wf = true → (Lit.int .i64 a0_4).wf = true → (Lit.int .i64 a0_5).wf = true → (Lit.int .i64 a0_6).wf = true → l1.length ≤ 9223372036854775807 → (∀ x ∈ l1, (∀ y ∈ x, (Lit.int .i64 y).wf = true)) → ∃ k, sackbutlaw19_WaveWrites.f k a0_0 a0_1 a0_2 a0_3 a0_4 a0_5 a0_6 l1 = some true
end Go.Proofs.Ytliidobbkfmndaa.Pure

namespace Go.Proofs.Ytliidobbkfmndaa.WaveSpec
open Go Go.RowKit Go.Proofs.Ytliidobbkfmndaa.HW2 Go.Proofs.Ytliidobbkfmndaa.PackSpec Go.Proofs.Ytliidobbkfmndaa.PackDoc Go.Proofs.YtliidobbkfmndaaW.PrintWords Go.Proofs.YtliidobbkfmndaaW.PrintLast
set_option linter.unusedSimpArgs false

/-! ### Numbers of bytes, the lowest first -/
theorem low_loop (m : Nat) (hm : m ≤ 8) : ∀ (d K i : Nat) (n : Int) (acc : List Int), i + d = m → d < K → acc.length + d ≤ 1000 → wave_low.l0 K n acc (m : Int) (i : Int) = some (acc ++ leb d n) := by
  intro d
  induction d with
  | zero =>
    intro K i n acc hi hK _
    obtain ⟨K, rfl⟩ : ∃ m, K = m + 1 := ⟨K - 1, by omega⟩
    simp only [wave_low.l0]
    rw [if_neg (by omega)]
    simp [leb]
  | succ d ih =>
    intro K i n acc hi hK hl
    obtain ⟨K, rfl⟩ : ∃ m, K = m + 1 := ⟨K - 1, by omega⟩
    simp only [wave_low.l0]
    rw [if_pos (by omega), if_pos (by omega), wrap_id (by omega) (by omega)]
    have := ih K (i + 1) (n / 256) (acc ++ [n % 256]) (by omega) (by omega) (by rw [List.length_append, List.length_singleton]; omega)
    rw [show ((i + 1 : Nat) : Int) = (i : Int) + 1 by omega] at this
    rw [this]
    simp [leb]
theorem low_spec (n : Int) (m K : Nat) (hm : m ≤ 8) (hK : m < K) : wave_low.f K n (m : Int) = some (leb m n) := by
  have := low_loop m hm m K 0 n [] (by omega) hK (by simp; omega)
  simpa [wave_low.f] using this
theorem doclow_loop (m : Nat) (hm : m ≤ 8) : ∀ (d K i : Nat) (n : Int) (acc : List Int), i + d = m → d < K → acc.length + d ≤ 1000 → 0 ≤ n → n < 9223372036854775808 → sackbutref19_Low.l0 K n (m : Int) acc (i : Int) = some (acc ++ leb d n) := by
  intro d
  induction d with
  | zero =>
    intro K i n acc hi hK _ _ _
    obtain ⟨K, rfl⟩ : ∃ m, K = m + 1 := ⟨K - 1, by omega⟩
    simp only [sackbutref19_Low.l0]
    rw [if_neg (by omega)]
    simp [leb]
  | succ d ih =>
    intro K i n acc hi hK hl h0 h1
    obtain ⟨K, rfl⟩ : ∃ m, K = m + 1 := ⟨K - 1, by omega⟩
    simp only [sackbutref19_Low.l0]
    have e1 : Int.tdiv n 256 = n / 256 := Int.tdiv_eq_ediv_of_nonneg h0
    have e2 : Int.tmod n 256 % 256 = n % 256 := by rw [Int.tmod_eq_emod_of_nonneg h0]; omega
    rw [if_pos (by omega), if_pos (by omega), e1, e2, wrap_id (by omega) (by omega), wrap_id (by omega) (by omega)]
    have := ih K (i + 1) (n / 256) (acc ++ [n % 256]) (by omega) (by omega) (by rw [List.length_append, List.length_singleton]; omega) (by omega) (by omega)
    rw [show ((i + 1 : Nat) : Int) = (i : Int) + 1 by omega] at this
    rw [this]
    simp [leb]
theorem doclow_spec (n : Int) (m K : Nat) (hm : m ≤ 8) (hK : m < K) (h0 : 0 ≤ n) (h1 : n < 9223372036854775808) : sackbutref19_Low.f K n (m : Int) = some (leb m n) := by
  have := doclow_loop m hm m K 0 n [] (by omega) hK (by simp; omega) h0 h1
  simpa [sackbutref19_Low.f] using this
theorem numG_leb : ∀ (m : Nat) (n : Int), m ≤ 4 → 0 ≤ n → n < 256 ^ m → numG (leb m n) = n := by
  intro m
  induction m with
  | zero => intro n _ h0 h; have : n = 0 := by have : (256 : Int) ^ 0 = 1 := rfl; omega
            subst this; rfl
  | succ m ih =>
    intro n hm h0 h
    have hp : (256 : Int) ^ (m + 1) = 256 ^ m * 256 := Int.pow_succ ..
    have hq : (256 : Int) ^ m ≤ 16777216 := by
      have : m = 0 ∨ m = 1 ∨ m = 2 ∨ m = 3 := by omega
      rcases this with rfl | rfl | rfl | rfl <;> decide
    have h1 := ih (n / 256) (by omega) (by omega) (by omega)
    show Go.bits .or .i64 (wrap64 (numG (leb m (n / 256)) * 256)) (wrap64 (n % 256)) = n
    rw [h1, wrap_id (x := n / 256 * 256) (by omega) (by omega), wrap_id (x := n % 256) (by omega) (by omega), or_byte _ _ (by omega) (by omega) ⟨by omega, by omega⟩]
    omega
theorem number_leb (m : Nat) (n : Int) (hm : m ≤ 4) (h0 : 0 ≤ n) (h : n < 256 ^ m) : wave_number.f (leb m n) = some n := by
  unfold wave_number.f
  rw [leb_length, if_pos (by omega), numG_leb m n hm h0 h]

/-! ### Which configurations may be -/
def GoodC (a0 a1 a3 a4 a5 a6 : Int) : Prop := (1 ≤ a0 ∧ a0 ≤ 8) ∧ GoodF a1 ∧ (1 ≤ a3 ∧ a3 ≤ 16777215) ∧ (16 ≤ a4 ∧ a4 ≤ 1024) ∧ Int.tmod a4 16 = 0 ∧ (0 ≤ a5 ∧ a5 ≤ 255) ∧ (0 ≤ a6 ∧ a6 ≤ 1048576)
instance (a0 a1 a3 a4 a5 a6 : Int) : Decidable (GoodC a0 a1 a3 a4 a5 a6) := by unfold GoodC; infer_instance
theorem within_spec (x lo hi : Int) : head_within.f x lo hi = some (decide (lo ≤ x ∧ x ≤ hi)) := by
  unfold head_within.f
  by_cases h : x ≥ lo
  · rw [if_pos h]; congr 1; rw [decide_eq_decide]; omega
  · rw [if_neg h]; congr 1; symm; rw [decide_eq_false_iff_not]; omega
theorem ite_and {p : Prop} [Decidable p] {o : Option Bool} {q : Prop} [Decidable q] (h : p → o = some (decide q)) : (if decide p = true then o else some false) = some (decide (p ∧ q)) := by
  by_cases hp : p
  · rw [if_pos (decide_eq_true hp), h hp]; congr 1; rw [decide_eq_decide]; exact ⟨fun x => ⟨hp, x⟩, fun x => x.2⟩
  · rw [if_neg (by simpa using hp)]; congr 1; symm; rw [decide_eq_false_iff_not]; exact fun x => hp x.1
theorem ite_and' {p : Prop} [Decidable p] {o : Option Bool} {q : Prop} [Decidable q] (h : p → o = some (decide q)) : (if p then o else some false) = some (decide (p ∧ q)) := by
  by_cases hp : p
  · rw [if_pos hp, h hp]; congr 1; rw [decide_eq_decide]; exact ⟨fun x => ⟨hp, x⟩, fun x => x.2⟩
  · rw [if_neg hp]; congr 1; symm; rw [decide_eq_false_iff_not]; exact fun x => hp x.1
theorem head_good (a0 a1 : Int) (a2 : Bool) (a3 a4 a5 a6 : Int) : head_Good.f a0 a1 a2 a3 a4 a5 a6 = some (decide (GoodC a0 a1 a3 a4 a5 a6)) := by
  unfold head_Good.f GoodC
  rw [within_spec, Option.bind_some]
  refine ite_and (fun _ => ?_)
  unfold head_Form.f
  rw [Option.bind_some, good_form, Option.bind_some]
  refine ite_and (fun _ => ?_)
  rw [within_spec, Option.bind_some]
  refine ite_and (fun _ => ?_)
  rw [within_spec, Option.bind_some]
  refine ite_and (fun _ => ?_)
  refine ite_and' (fun _ => ?_)
  rw [within_spec, Option.bind_some]
  refine ite_and (fun _ => ?_)
  rw [within_spec, Option.bind_some]
theorem ref_good (a0 a1 : Int) (a2 : Bool) (a3 a4 a5 a6 : Int) : sackbutref16_Good.f a0 a1 a2 a3 a4 a5 a6 = some (decide (GoodC a0 a1 a3 a4 a5 a6)) := by
  unfold sackbutref16_Good.f
  congr 1
  rw [Bool.eq_iff_iff, decide_eq_true_iff]
  unfold GoodC GoodF
  generalize Int.tmod a4 16 = t
  simp only [Bool.and_eq_true, Bool.or_eq_true, Bool.not_eq_true', decide_eq_true_eq, decide_eq_false_iff_not, beq_iff_eq]
  omega

/-! ### A wave's first bytes -/
def headW (a0 a1 a3 d : Int) : List Int := [82, 73, 70, 70] ++ leb 4 (36 + d) ++ [87, 65, 86, 69, 102, 109, 116, 32] ++ leb 4 16 ++ leb 2 1 ++ leb 2 a0 ++ leb 4 a3 ++ leb 4 (a3 * (a0 * (nbytes a1 : Int))) ++ leb 2 (a0 * (nbytes a1 : Int)) ++ leb 2 a1 ++ [100, 97, 116, 97] ++ leb 4 d
theorem headW_length (a0 a1 a3 d : Int) : (headW a0 a1 a3 d).length = 44 := by
  unfold headW
  simp [leb_length]
theorem row_nat {a0 a1 : Int} (h0 : 1 ≤ a0 ∧ a0 ≤ 8) (G : GoodF a1) : wrap64 (Int.tdiv (wrap64 (a0 * a1)) 8) = a0 * (nbytes a1 : Int) ∧ wrap64 (a0 * wrap64 (Int.tdiv a1 8)) = a0 * (nbytes a1 : Int) ∧ 1 ≤ a0 * (nbytes a1 : Int) ∧ a0 * (nbytes a1 : Int) ≤ 24 := by
  have : a0 = 1 ∨ a0 = 2 ∨ a0 = 3 ∨ a0 = 4 ∨ a0 = 5 ∨ a0 = 6 ∨ a0 = 7 ∨ a0 = 8 := by omega
  rcases G with rfl | rfl | rfl <;> rcases this with rfl | rfl | rfl | rfl | rfl | rfl | rfl | rfl <;> decide +kernel
theorem mul_small {x r : Int} (h0 : 0 ≤ x) (h1 : x ≤ 16777215) (h2 : 0 ≤ r) (h3 : r ≤ 24) : 0 ≤ x * r ∧ x * r ≤ 402653160 := by
  refine ⟨Int.mul_nonneg h0 h2, ?_⟩
  exact Int.le_trans (Int.mul_le_mul h1 h3 h2 (by omega)) (by omega)
theorem first_spec {a0 a1 a3 : Int} (h0 : 1 ≤ a0 ∧ a0 ≤ 8) (G : GoodF a1) (h3 : 1 ≤ a3 ∧ a3 ≤ 16777215) (a2 : Bool) (a4 a5 a6 d : Int) (hd : 0 ≤ d ∧ d ≤ 1000000000) (K : Nat) (hK : 10 ≤ K) : wave_first.f K a0 a1 a2 a3 a4 a5 a6 d = some (headW a0 a1 a3 d) := by
  obtain ⟨e1, _, e3, e4⟩ := row_nat h0 G
  have hm := mul_small (by omega : 0 ≤ a3) h3.2 (by omega : 0 ≤ a0 * (nbytes a1 : Int)) e4
  have L4 : ∀ n, wave_low.f K n 4 = some (leb 4 n) := fun n => low_spec n 4 K (by omega) (by omega)
  have L2 : ∀ n, wave_low.f K n 2 = some (leb 2 n) := fun n => low_spec n 2 K (by omega) (by omega)
  unfold wave_first.f wave_Row.f
  simp only [L4, L2, Option.bind_some, e1]
  rw [wrap_id (x := 36 + d) (by omega) (by omega), wrap_id (x := a3 * (a0 * (nbytes a1 : Int))) (by omega) (by omega)]
  unfold slices_Concat_byte_byte.f headW
  rw [if_pos ?_]
  · congr 1
  · refine ⟨by simp, fun x hx => ?_⟩
    simp only [List.mem_cons, List.not_mem_nil, or_false] at hx
    rcases hx with rfl | rfl | rfl | rfl | rfl | rfl | rfl | rfl | rfl | rfl | rfl | rfl <;> simp [leb_length]
theorem docfirst_spec {a0 a1 a3 : Int} (h0 : 1 ≤ a0 ∧ a0 ≤ 8) (G : GoodF a1) (h3 : 1 ≤ a3 ∧ a3 ≤ 16777215) (a2 : Bool) (a4 a5 a6 d : Int) (hd : 0 ≤ d ∧ d ≤ 1000000000) (K : Nat) (hK : 10 ≤ K) : sackbutref19_First.f K a0 a1 a2 a3 a4 a5 a6 d = some (headW a0 a1 a3 d) := by
  obtain ⟨_, e2, e3, e4⟩ := row_nat h0 G
  have hm := mul_small (by omega : 0 ≤ a3) h3.2 (by omega : 0 ≤ a0 * (nbytes a1 : Int)) e4
  have hf : 0 ≤ a1 ∧ a1 ≤ 24 := by rcases G with rfl | rfl | rfl <;> omega
  have L4 : ∀ n, 0 ≤ n → n < 9223372036854775808 → sackbutref19_Low.f K n 4 = some (leb 4 n) := fun n a b => doclow_spec n 4 K (by omega) (by omega) a b
  have L2 : ∀ n, 0 ≤ n → n < 9223372036854775808 → sackbutref19_Low.f K n 2 = some (leb 2 n) := fun n a b => doclow_spec n 2 K (by omega) (by omega) a b
  unfold sackbutref19_First.f
  rw [e2, wrap_id (x := 36 + d) (by omega) (by omega), wrap_id (x := a3 * (a0 * (nbytes a1 : Int))) (by omega) (by omega)]
  rw [L4 (36 + d) (by omega) (by omega), Option.bind_some, L4 16 (by omega) (by omega), Option.bind_some, L2 1 (by omega) (by omega), Option.bind_some, L2 a0 (by omega) (by omega), Option.bind_some, L4 a3 (by omega) (by omega), Option.bind_some, L4 (a3 * (a0 * (nbytes a1 : Int))) (by omega) (by omega), Option.bind_some, L2 (a0 * (nbytes a1 : Int)) (by omega) (by omega), Option.bind_some, L2 a1 (by omega) (by omega), Option.bind_some, L4 d (by omega) (by omega), Option.bind_some]
  rw [if_pos ?_]
  · rfl
  · refine ⟨fun h => ?_, by simp [leb_length]⟩
    have := congrArg List.length h
    rw [leb_length] at this
    cases this
/-! ### Bytes of 8 bits turned -/
def turnW (a1 : Int) (B : List Int) : List Int := if a1 = 8 then B.map (fun x => (x + 128) % 256) else B
theorem xor_byte (x : Int) (h : 0 ≤ x ∧ x < 256) : xor8 x = (x + 128) % 256 := by
  have : ∀ n : Fin 256, xor8 ((n.val : Nat) : Int) = (((n.val : Nat) : Int) + 128) % 256 := by decide +kernel
  have h2 := this ⟨x.toNat, by omega⟩
  rwa [show ((x.toNat : Nat) : Int) = x by omega] at h2
theorem turn_spec (a0 a1 : Int) (a2 : Bool) (a3 a4 a5 a6 : Int) (B : List Int) (hB : Bytes_ B) (hl : B.length ≤ 1000000000) : wave_turn.f a0 a1 a2 a3 a4 a5 a6 B = some (turnW a1 B) := by
  unfold wave_turn.f turnW
  rw [if_pos hl]
  congr 1
  split
  · exact List.map_congr_left (fun x hx => xor_byte x (hB x hx))
  · rfl
theorem turn_bytes (a1 : Int) (B : List Int) (hB : Bytes_ B) : Bytes_ (turnW a1 B) := by
  unfold turnW
  split
  · intro x hx
    obtain ⟨y, _, rfl⟩ := List.mem_map.1 hx
    omega
  · exact hB
theorem turn_turn (a1 : Int) (B : List Int) (hB : Bytes_ B) : turnW a1 (turnW a1 B) = B := by
  unfold turnW
  split
  · rw [List.map_map]
    have : ∀ x ∈ B, ((fun x => (x + 128) % 256) ∘ fun x => (x + 128) % 256) x = x := fun x hx => by
      have := hB x hx
      show ((x + 128) % 256 + 128) % 256 = x
      omega
    rw [List.map_congr_left this]
    simp
  · rfl
theorem turn_length (a1 : Int) (B : List Int) : (turnW a1 B).length = B.length := by unfold turnW; split <;> simp
theorem doc_turn (a0 a1 : Int) (a2 : Bool) (a3 a4 a5 a6 : Int) (B : List Int) (hl : B.length ≤ 1000000) : ∀ (d K i : Nat), i + d = B.length → d + 1 < K → ∃ K', K < K' + d + 2 ∧ sackbutref19_Write.l1 K ((turnW a1 B).take i ++ B.drop i) (B.length : Int) (i : Int) a0 a1 a2 a3 a4 a5 a6 = (sackbutref19_First.f K' a0 a1 a2 a3 a4 a5 a6 (B.length : Int)).bind fun t => if t.length + B.length < 140737488355328 then some (t ++ turnW a1 B, 0) else none := by
  intro d
  induction d with
  | zero =>
    intro K i hi hK
    obtain ⟨K, rfl⟩ : ∃ m, K = m + 1 := ⟨K - 1, by omega⟩
    refine ⟨K, by omega, ?_⟩
    simp only [sackbutref19_Write.l1]
    rw [if_neg (by omega), List.drop_eq_nil_of_le (by omega), List.append_nil, List.take_of_length_le (by rw [turn_length]; omega), turn_length]
  | succ d ih =>
    intro K i hi hK
    obtain ⟨K, rfl⟩ : ∃ m, K = m + 1 := ⟨K - 1, by omega⟩
    have hil : i < B.length := by omega
    have hlen : ((turnW a1 B).take i ++ B.drop i).length = B.length := by rw [List.length_append, List.length_take, List.length_drop, turn_length]; omega
    obtain ⟨K', hK', e⟩ := ih K (i + 1) (by omega) (by omega)
    rw [show ((i + 1 : Nat) : Int) = (i : Int) + 1 by omega] at e
    refine ⟨K', by omega, ?_⟩
    simp only [sackbutref19_Write.l1]
    rw [if_pos (by omega), hlen, wrap_id (x := (i : Int) + 1) (by omega) (by omega)]
    by_cases h8 : a1 = 8
    · rw [if_pos h8, if_pos (by omega), if_pos (by omega)]
      have hr : rd ((turnW a1 B).take i ++ B.drop i) (i : Int) = B[i] := by
        rw [rd_nat _ i (by omega), List.getElem_append_right (by rw [List.length_take, turn_length]; omega)]
        simp only [List.length_take, turn_length, Nat.min_eq_left (by omega : i ≤ B.length), Nat.sub_self, List.getElem_drop, Nat.add_zero]
      have hs : ((turnW a1 B).take i ++ B.drop i).set (i : Int).toNat ((B[i] + 128) % 256) = (turnW a1 B).take (i + 1) ++ B.drop (i + 1) := by
        have h1 : ((turnW a1 B).take i).length = i := by rw [List.length_take, turn_length]; omega
        rw [Int.toNat_natCast, List.set_append_right _ _ (by omega), h1, Nat.sub_self, List.drop_eq_getElem_cons hil, List.set_cons_zero, List.take_succ_eq_append_getElem (by rw [turn_length]; exact hil)]
        have h2 : (turnW a1 B)[i]'(by rw [turn_length]; exact hil) = (B[i] + 128) % 256 := by
          have : turnW a1 B = B.map (fun x => (x + 128) % 256) := by unfold turnW; rw [if_pos h8]
          simp only [this, List.getElem_map]
        rw [h2, List.append_assoc]
        rfl
      rw [hr, hs]
      exact e
    · rw [if_neg h8]
      have ht : turnW a1 B = B := by unfold turnW; rw [if_neg h8]
      rw [ht, List.take_append_drop] at e ⊢
      exact e
end Go.Proofs.Ytliidobbkfmndaa.WaveSpec

namespace Go.Proofs.Ytliidobbkfmndaa.WaveSpec
open Go Go.RowKit Go.Proofs.Ytliidobbkfmndaa.HW2 Go.Proofs.Ytliidobbkfmndaa.PackSpec Go.Proofs.Ytliidobbkfmndaa.PackDoc Go.Proofs.YtliidobbkfmndaaW.PrintWords Go.Proofs.YtliidobbkfmndaaW.PrintLast
set_option linter.unusedSimpArgs false
theorem few_loop (l : List (List Int)) (hl : l.length ≤ 9223372036854775807) : ∀ (d K i : Nat), i + d = l.length → d < K →
    ∃ b, sackbutlaw19_few.l0 K l l (l.length : Int) (i : Int) = some b ∧ (b = true → l.length ≤ 10 ∧ ∀ x ∈ l.drop i, x.length ≤ 100) := by
  intro d
  induction d with
  | zero =>
    intro K i hi hK
    obtain ⟨K, rfl⟩ : ∃ m, K = m + 1 := ⟨K - 1, by omega⟩
    simp only [sackbutlaw19_few.l0]
    rw [if_neg (by omega)]
    refine ⟨_, rfl, fun h => ⟨by have := of_decide_eq_true h; omega, ?_⟩⟩
    rw [List.drop_eq_nil_of_le (by omega)]; simp
  | succ d ih =>
    intro K i hi hK
    obtain ⟨K, rfl⟩ : ∃ m, K = m + 1 := ⟨K - 1, by omega⟩
    have hi' : i < l.length := by omega
    simp only [sackbutlaw19_few.l0]
    rw [if_pos (by omega), if_pos (by omega), if_pos (by omega), rd1_nat l i hi']
    by_cases h2 : ((l[i].length : Int) > 100)
    · rw [if_pos h2]; exact ⟨false, rfl, by simp⟩
    · rw [if_neg h2, wrap_id (by omega) (by omega)]
      obtain ⟨b, e, hb⟩ := ih K (i + 1) (by omega) (by omega)
      rw [show ((i + 1 : Nat) : Int) = (i : Int) + 1 by omega] at e
      refine ⟨b, e, fun h => ⟨(hb h).1, ?_⟩⟩
      rw [List.drop_eq_getElem_cons hi']
      intro x hx
      rcases List.mem_cons.mp hx with rfl | hx
      · omega
      · exact (hb h).2 x hx
theorem few_spec (l : List (List Int)) (hl : l.length ≤ 9223372036854775807) (K : Nat) (hK : l.length < K) :
    ∃ b, sackbutlaw19_few.f K l = some b ∧ (b = true → l.length ≤ 10 ∧ ∀ x ∈ l, x.length ≤ 100) := by
  unfold sackbutlaw19_few.f
  have := few_loop l hl l.length K 0 (by omega) hK
  simpa using this

/-! ### What is written -/
def eW (a0 a1 a3 a4 a5 a6 : Int) (l : List (List Int)) : Int := if GoodC a0 a1 a3 a4 a5 a6 then (if (l.length : Int) = a0 ∧ l.any (notB a6) = false then codeC a1 l else 8) else 7
def packW (a1 a6 : Int) (l : List (List Int)) : List Int := (vals l 0 a6.toNat).flatMap (enc (nbytes a1) false)
def bW (a0 a1 a3 a6 : Int) (l : List (List Int)) : List Int := headW a0 a1 a3 ((packW a1 a6 l).length : Int) ++ turnW a1 (packW a1 a6 l)
theorem pack_bytes (a1 a6 : Int) (l : List (List Int)) : Bytes_ (packW a1 a6 l) := fun x hx => by
  obtain ⟨v, _, hx⟩ := List.mem_flatMap.1 hx
  exact enc_bytes _ _ _ x hx
/-- What is known where there is no error. -/
structure OkW (a0 a1 a3 a4 a5 a6 : Int) (l : List (List Int)) : Prop where
  good : GoodC a0 a1 a3 a4 a5 a6
  len : (l.length : Int) = a0
  any : l.any (notB a6) = false
  code : codeC a1 l = 0
  fits : Fits a1 l a6.toNat
  small : a6.toNat ≤ 200
  size : (packW a1 a6 l).length = a6.toNat * l.length * nbytes a1
theorem ok_of {a0 a1 a3 a4 a5 a6 : Int} {l : List (List Int)} (hr : ∀ x ∈ l, x.length ≤ 200) (h : eW a0 a1 a3 a4 a5 a6 l = 0) : OkW a0 a1 a3 a4 a5 a6 l := by
  unfold eW at h
  split at h
  · rename_i hg
    split at h
    · rename_i hs
      obtain ⟨n, F, hn⟩ := fits_code hr h
      have hn6 : n = a6.toNat := by
        have h1 := F.one
        have hm : l[0] ∈ l := List.getElem_mem (by omega)
        have h2 := F.same _ hm
        have h3 : notB a6 l[0] = false := by
          cases hb : notB a6 l[0] with
          | false => rfl
          | true => have := List.any_eq_true.2 ⟨_, hm, hb⟩; rw [hs.2] at this; cases this
        unfold notB at h3
        have h4 := of_decide_eq_false h3
        omega
      subst hn6
      exact ⟨hg, hs.1, hs.2, h, F, hn, by unfold packW; rw [flat_length (enc_length (nbytes a1) false), vals_length]⟩
    · cases h
  · cases h
theorem OkW.le {a0 a1 a3 a4 a5 a6 : Int} {l : List (List Int)} (O : OkW a0 a1 a3 a4 a5 a6 l) : (packW a1 a6 l).length ≤ 4800 := by
  rw [O.size]
  exact Nat.mul_le_mul (Nat.mul_le_mul O.small O.fits.eight) (bytes_le a1)
theorem write_spec (a0 a1 : Int) (a2 : Bool) (a3 a4 a5 a6 : Int) (l : List (List Int)) (hl : l.length ≤ 12) (hr : ∀ x ∈ l, x.length ≤ 200) (K : Nat) (hK : 100000 ≤ K) :
    wave_Write.f K a0 a1 a2 a3 a4 a5 a6 l = some (if eW a0 a1 a3 a4 a5 a6 l = 0 then bW a0 a1 a3 a6 l else [], eW a0 a1 a3 a4 a5 a6 l) := by
  by_cases h0 : eW a0 a1 a3 a4 a5 a6 l = 0
  · have O := ok_of hr h0
    have hle := O.le
    have hs := O.small
    rw [if_pos h0, h0]
    unfold wave_Write.f
    rw [head_good, Option.bind_some, decide_eq_true O.good, if_pos rfl, if_pos ⟨O.len, O.any⟩, pack_spec O.fits false K (by omega) (by omega), Option.bind_some, if_pos rfl]
    show (wave_first.f K a0 a1 a2 a3 a4 a5 a6 ((packW a1 a6 l).length : Int)).bind _ = _
    rw [first_spec O.good.1 O.good.2.1 O.good.2.2.1 a2 a4 a5 a6 _ ⟨by omega, by omega⟩ K (by omega), Option.bind_some]
    show (wave_turn.f a0 a1 a2 a3 a4 a5 a6 (packW a1 a6 l)).bind _ = _
    rw [turn_spec _ _ _ _ _ _ _ _ (pack_bytes a1 a6 l) (by omega), Option.bind_some, if_pos (by rw [headW_length, turn_length]; omega)]
    rfl
  · rw [if_neg h0]
    unfold wave_Write.f
    rw [head_good, Option.bind_some]
    unfold eW at h0 ⊢
    by_cases hg : GoodC a0 a1 a3 a4 a5 a6
    · rw [if_pos hg] at h0
      rw [decide_eq_true hg, if_pos rfl, if_pos hg]
      by_cases hs : (l.length : Int) = a0 ∧ l.any (notB a6) = false
      · rw [if_pos hs] at h0
        rw [if_pos hs, if_pos hs]
        have hp : pack_Pack.f K a1 false l = some ([], codeC a1 l) := by
          unfold pack_Pack.f
          rw [pk_check a1 false l hl hr K (by omega), Option.bind_some, if_neg h0]
        rw [hp, Option.bind_some, if_neg h0]
      · rw [if_neg hs, if_neg hs]
    · rw [decide_eq_false hg, if_neg (by decide), if_neg hg]
theorem doc_l0 (a0 a1 : Int) (a2 : Bool) (a3 a4 a5 a6 : Int) (l : List (List Int)) (hl : l.length ≤ 12) (M : Nat) (R : Option (List Int × Int)) (hR : ∀ K', M ≤ K' → ((sackbutref05_Check.f K' a1 false l).bind fun t221 => (if t221 = 0 then ((sackbutref05_Pack.f K' a1 false l).bind fun t222 => (sackbutref19_Write.l1 K' t222 (t222.length : Int) 0 a0 a1 a2 a3 a4 a5 a6)) else (some (([] : List Int), t221)))) = R) :
    ∀ (d K i : Nat), i + d = l.length → d + M < K → sackbutref19_Write.l0 K l (l.length : Int) (i : Int) a0 a1 a2 a3 a4 a5 a6 = if (l.drop i).any (notB a6) = true then some ([], 8) else R := by
  intro d
  induction d with
  | zero =>
    intro K i hi hK
    obtain ⟨K, rfl⟩ : ∃ m, K = m + 1 := ⟨K - 1, by omega⟩
    simp only [sackbutref19_Write.l0]
    rw [if_neg (by omega), List.drop_eq_nil_of_le (by omega)]
    rw [if_neg (by simp)]
    exact hR K (by omega)
  | succ d ih =>
    intro K i hi hK
    obtain ⟨K, rfl⟩ : ∃ m, K = m + 1 := ⟨K - 1, by omega⟩
    have hi' : i < l.length := by omega
    simp only [sackbutref19_Write.l0]
    rw [if_pos (by omega), if_pos (by omega), if_pos (by omega), rd1_nat l i hi', List.drop_eq_getElem_cons hi', List.any_cons]
    by_cases h6 : (l[i].length : Int) = a6
    · rw [if_pos h6, wrap_id (by omega) (by omega)]
      have e := ih K (i + 1) (by omega) (by omega)
      rw [show ((i + 1 : Nat) : Int) = (i : Int) + 1 by omega] at e
      rw [e]
      have hn : notB a6 l[i] = false := by unfold notB; exact decide_eq_false (by simpa using h6)
      rw [hn, Bool.false_or]
    · rw [if_neg h6]
      have hn : notB a6 l[i] = true := by unfold notB; exact decide_eq_true h6
      rw [hn, Bool.true_or, if_pos rfl]
theorem doc_write_spec (a0 a1 : Int) (a2 : Bool) (a3 a4 a5 a6 : Int) (l : List (List Int)) (hl : l.length ≤ 12) (hr : ∀ x ∈ l, x.length ≤ 200) (K : Nat) (hK : 100000 ≤ K) :
    sackbutref19_Write.f K a0 a1 a2 a3 a4 a5 a6 l = some (if eW a0 a1 a3 a4 a5 a6 l = 0 then bW a0 a1 a3 a6 l else [], eW a0 a1 a3 a4 a5 a6 l) := by
  unfold sackbutref19_Write.f
  rw [ref_good, Option.bind_some]
  by_cases hg : GoodC a0 a1 a3 a4 a5 a6
  · rw [decide_eq_true hg, if_pos rfl]
    by_cases hlen : (l.length : Int) = a0
    · rw [if_pos hlen]
      by_cases h0 : eW a0 a1 a3 a4 a5 a6 l = 0
      · have O := ok_of hr h0
        have hle := O.le
        have hs := O.small
        rw [if_pos h0, h0]
        have key := doc_l0 a0 a1 a2 a3 a4 a5 a6 l hl 50000 (some (bW a0 a1 a3 a6 l, 0)) (fun K' hK' => ?_) l.length K 0 (by omega) (by omega)
        · rw [show ((0 : Nat) : Int) = 0 from rfl, List.drop_zero, O.any, if_neg (by decide)] at key
          exact key
        · rw [rk_check a1 false l hl hr K' (by omega), Option.bind_some, O.code, if_pos rfl, doc_spec O.fits false K' (by omega) (by omega), Option.bind_some]
          obtain ⟨K2, hK2, e⟩ := doc_turn a0 a1 a2 a3 a4 a5 a6 (packW a1 a6 l) (by omega) (packW a1 a6 l).length K' 0 (by omega) (by omega)
          rw [show ((0 : Nat) : Int) = 0 from rfl, List.take_zero, List.drop_zero, List.nil_append] at e
          refine e.trans ?_
          rw [docfirst_spec O.good.1 O.good.2.1 O.good.2.2.1 a2 a4 a5 a6 _ ⟨by omega, by omega⟩ K2 (by omega), Option.bind_some, if_pos (by rw [headW_length]; omega)]
          rfl
      · rw [if_neg h0]
        have hu : eW a0 a1 a3 a4 a5 a6 l = if l.any (notB a6) = true then 8 else codeC a1 l := by
          unfold eW
          rw [if_pos hg]
          cases ha : l.any (notB a6) with
          | true => rw [if_neg (fun h => by cases h.2), if_pos rfl]
          | false => rw [if_pos ⟨hlen, rfl⟩, if_neg (by decide)]
        rw [hu] at h0 ⊢
        have key := doc_l0 a0 a1 a2 a3 a4 a5 a6 l hl 50000 (if l.any (notB a6) = true then none else some ([], codeC a1 l))
        cases ha : l.any (notB a6) with
        | true =>
          rw [ha] at h0
          have hi : ∀ (d K i : Nat), i + d = l.length → d + 1 < K → (l.drop i).any (notB a6) = true → sackbutref19_Write.l0 K l (l.length : Int) (i : Int) a0 a1 a2 a3 a4 a5 a6 = some ([], 8) := by
            intro d
            induction d with
            | zero => intro K i hi hK hx; rw [List.drop_eq_nil_of_le (by omega)] at hx; simp at hx
            | succ d ih =>
              intro K i hi hK hx
              obtain ⟨K, rfl⟩ : ∃ m, K = m + 1 := ⟨K - 1, by omega⟩
              have hi' : i < l.length := by omega
              simp only [sackbutref19_Write.l0]
              rw [if_pos (by omega), if_pos (by omega), if_pos (by omega), rd1_nat l i hi']
              by_cases h6 : (l[i].length : Int) = a6
              · rw [if_pos h6, wrap_id (by omega) (by omega)]
                rw [List.drop_eq_getElem_cons hi', List.any_cons] at hx
                have hn : notB a6 l[i] = false := by unfold notB; exact decide_eq_false (by simpa using h6)
                rw [hn, Bool.false_or] at hx
                have e := ih K (i + 1) (by omega) (by omega) hx
                rw [show ((i + 1 : Nat) : Int) = (i : Int) + 1 by omega] at e
                exact e
              · rw [if_neg h6]
          have := hi l.length K 0 (by omega) (by omega) (by rw [List.drop_zero]; exact ha)
          rw [show ((0 : Nat) : Int) = 0 from rfl] at this
          rw [this, if_pos rfl]
        | false =>
          rw [ha, if_neg (by decide)] at h0
          have k2 := doc_l0 a0 a1 a2 a3 a4 a5 a6 l hl 50000 (some ([], codeC a1 l)) (fun K' hK' => by
            rw [rk_check a1 false l hl hr K' (by omega), Option.bind_some, if_neg h0]) l.length K 0 (by omega) (by omega)
          rw [show ((0 : Nat) : Int) = 0 from rfl, List.drop_zero, ha, if_neg (by decide)] at k2
          rw [k2, if_neg (by decide)]
    · rw [if_neg hlen]
      have hu : eW a0 a1 a3 a4 a5 a6 l = 8 := by
        unfold eW
        rw [if_pos hg, if_neg (fun h => hlen h.1)]
      rw [hu, if_neg (by decide)]
  · rw [decide_eq_false hg, if_neg (by decide)]
    have hu : eW a0 a1 a3 a4 a5 a6 l = 7 := by
      unfold eW
      rw [if_neg hg]
    rw [hu, if_neg (by decide)]

/-! ### What is read -/
theorem eq_loop (l : List Int) (hl : l.length ≤ 9223372036854775807) : ∀ (d K j : Nat), j + d = l.length → d < K → slices_Equal_byte_byte.l0 K l l (l.length : Int) (j : Int) = some true := by
  intro d
  induction d with
  | zero =>
    intro K j hj hK
    obtain ⟨K, rfl⟩ : ∃ m, K = m + 1 := ⟨K - 1, by omega⟩
    simp only [slices_Equal_byte_byte.l0]
    rw [if_neg (by omega)]
  | succ d ih =>
    intro K j hj hK
    obtain ⟨K, rfl⟩ : ∃ m, K = m + 1 := ⟨K - 1, by omega⟩
    simp only [slices_Equal_byte_byte.l0]
    rw [if_pos (by omega), if_pos (by omega), if_pos (by omega), if_pos (by omega), if_pos trivial, wrap_id (by omega) (by omega)]
    have := ih K (j + 1) (by omega) (by omega)
    rwa [show ((j + 1 : Nat) : Int) = (j : Int) + 1 by omega] at this
theorem eq_self (l : List Int) (hl : l.length ≤ 9223372036854775807) (K : Nat) (hK : l.length < K) : slices_Equal_byte_byte.f K l l = some true := by
  unfold slices_Equal_byte_byte.f
  rw [if_pos rfl]
  exact eq_loop l hl l.length K 0 (by omega) hK
set_option maxHeartbeats 4000000 in
theorem read_gen {a0 a1 a3 : Int} (h0 : 1 ≤ a0 ∧ a0 ≤ 8) (G : GoodF a1) (h3 : 1 ≤ a3 ∧ a3 ≤ 16777215) (n : Int) (hn : 0 ≤ n ∧ n ≤ 1048576) (d : Int) (hd : d = n * (a0 * (nbytes a1 : Int))) (T : List Int) (hT : T.length ≤ 1000000000) (K : Nat) (hK : 100 ≤ K) :
    wave_Read.f (K + 2) (headW a0 a1 a3 d ++ T) = wave_Read.j2 K (headW a0 a1 a3 d ++ T) d false a0 a1 false a3 16 0 n := by
  obtain ⟨e1, _, r1, r2⟩ := row_nat h0 G
  have hm := mul_small (by omega : 0 ≤ a3) h3.2 (by omega : 0 ≤ a0 * (nbytes a1 : Int)) r2
  have hd1 : 0 ≤ d ∧ d ≤ 25165824 := by
    subst hd
    exact ⟨Int.mul_nonneg hn.1 (by omega), Int.le_trans (Int.mul_le_mul hn.2 r2 (by omega) (by omega)) (by omega)⟩
  have hf : 0 ≤ a1 ∧ a1 ≤ 24 := by rcases G with rfl | rfl | rfl <;> omega
  have p4 : (256 : Int) ^ 4 = 4294967296 := rfl
  have p2 : (256 : Int) ^ 2 = 65536 := rfl
  have z1 : ((headW a0 a1 a3 d ++ T).take 44).drop 40 = leb 4 d := rfl
  have z2 : ((headW a0 a1 a3 d ++ T).take 24).drop 22 = leb 2 a0 := rfl
  have z3 : ((headW a0 a1 a3 d ++ T).take 28).drop 24 = leb 4 a3 := rfl
  have z4 : ((headW a0 a1 a3 d ++ T).take 36).drop 34 = leb 2 a1 := rfl
  have z5 : (headW a0 a1 a3 d ++ T).take 4 = [82, 73, 70, 70] := rfl
  have z6 : ((headW a0 a1 a3 d ++ T).take 16).drop 8 = [87, 65, 86, 69, 102, 109, 116, 32] := rfl
  have z7 : ((headW a0 a1 a3 d ++ T).take 20).drop 16 = leb 4 16 := rfl
  have z8 : ((headW a0 a1 a3 d ++ T).take 22).drop 20 = leb 2 1 := rfl
  have z9 : ((headW a0 a1 a3 d ++ T).take 40).drop 36 = [100, 97, 116, 97] := rfl
  have z10 : (headW a0 a1 a3 d ++ T).take 44 = headW a0 a1 a3 d := List.take_left' (headW_length _ _ _ _)
  have hlen : ((headW a0 a1 a3 d ++ T).length : Int) = 44 + (T.length : Int) := by rw [List.length_append, headW_length]; omega
  have s1 : (strOfNums [82, 73, 70, 70]).toList = ([82, 73, 70, 70] : List UInt8) := by decide +kernel
  have s2 : (strOfNums [87, 65, 86, 69, 102, 109, 116, 32]).toList = ([87, 65, 86, 69, 102, 109, 116, 32] : List UInt8) := by decide +kernel
  have s3 : ((strOfNums [100, 97, 116, 97]).toList != ([100, 97, 116, 97] : List UInt8)) = false := by decide +kernel
  unfold wave_Read.f
  generalize headW a0 a1 a3 d ++ T = z at *
  rw [hlen]
  rw [if_neg (by omega), if_pos (by decide), if_pos (by omega), z1, number_leb 4 d (by omega) (by omega) (by omega), Option.bind_some]
  rw [if_pos (by decide), if_pos (by omega), z2, number_leb 2 a0 (by omega) (by omega) (by omega), Option.bind_some]
  rw [if_pos (by decide), if_pos (by omega), z3, number_leb 4 a3 (by omega) (by omega) (by omega), Option.bind_some]
  rw [if_pos (by decide), if_pos (by omega), z4, number_leb 2 a1 (by omega) (by omega) (by omega), Option.bind_some]
  rw [if_pos (by omega), z5, if_pos s1, if_pos (by decide), if_pos (by omega), z6, if_pos s2]
  rw [if_pos (by decide), if_pos (by omega), z7, number_leb 4 16 (by omega) (by omega) (by omega), Option.bind_some, if_pos rfl]
  rw [if_pos (by decide), if_pos (by omega), z8, number_leb 2 1 (by omega) (by omega) (by omega), Option.bind_some, if_pos rfl]
  rw [if_pos (by decide), if_pos (by omega), z9, s3]
  have hdiv : Int.tdiv d (a0 * (nbytes a1 : Int)) = n := by
    rw [hd]; exact Int.mul_tdiv_cancel _ (by omega)
  have hmod : Int.tmod d (a0 * (nbytes a1 : Int)) = 0 := by
    rw [hd]; exact Int.mul_tmod_left _ _
  have hg : GoodC a0 a1 a3 16 0 0 := ⟨h0, G, h3, by omega, by decide, by omega, by omega⟩
  rw [show K + 2 = (K + 1) + 1 from rfl]
  simp only [wave_Read.j0]
  rw [if_neg (by decide), head_good, Option.bind_some, decide_eq_true hg, if_pos rfl]
  unfold wave_Row.f
  rw [e1, Option.bind_some, if_neg (by omega), hdiv, wrap_id (x := n) (by omega) (by omega), decide_eq_false (by omega)]
  simp only [wave_Read.j1]
  unfold wave_Row.f
  rw [e1, if_neg (by decide), Option.bind_some, if_neg (by omega), if_pos (by omega), hdiv, wrap_id (x := n) (by omega) (by omega), first_spec h0 G h3 false 16 0 n d (by omega) K (by omega), Option.bind_some, z10, eq_self _ (by rw [headW_length]; omega) K (by rw [headW_length]; omega), Option.bind_some, if_pos rfl]
  rw [Option.bind_some, if_neg (by omega), hmod]
  rfl
theorem read_back {a0 a1 a3 a4 a5 a6 : Int} {l : List (List Int)} (O : OkW a0 a1 a3 a4 a5 a6 l) (K : Nat) (hK : 100000 ≤ K) :
    wave_Read.f K (bW a0 a1 a3 a6 l) = some (a0, a1, false, a3, 16, 0, a6, l, 0) := by
  have hle := O.le
  have hs := O.small
  obtain ⟨⟨b1, b2⟩, G, b3, _, _, _, b6⟩ := O.good
  obtain ⟨_, _, r1, r2⟩ := row_nat ⟨b1, b2⟩ G
  have hlen := O.len
  have hd : ((packW a1 a6 l).length : Int) = a6 * (a0 * (nbytes a1 : Int)) := by
    rw [O.size, ← hlen, Int.natCast_mul, Int.natCast_mul, Int.mul_assoc]
    congr 1
    omega
  obtain ⟨K, rfl⟩ : ∃ m, K = m + 3 := ⟨K - 3, by omega⟩
  unfold bW
  rw [show K + 3 = (K + 1) + 2 from rfl, read_gen ⟨b1, b2⟩ G b3 a6 b6 _ hd _ (by rw [turn_length]; omega) (K + 1) (by omega)]
  simp only [wave_Read.j2]
  have hz : ((headW a0 a1 a3 ((packW a1 a6 l).length : Int) ++ turnW a1 (packW a1 a6 l)).length : Int) = 44 + ((packW a1 a6 l).length : Int) := by rw [List.length_append, headW_length, turn_length]; omega
  have hdrop : (headW a0 a1 a3 ((packW a1 a6 l).length : Int) ++ turnW a1 (packW a1 a6 l)).drop 44 = turnW a1 (packW a1 a6 l) := List.drop_left' (headW_length _ _ _ _)
  rw [if_neg (by decide), hz, wrap_id (x := 44 + ((packW a1 a6 l).length : Int)) (by omega) (by omega), if_neg (by omega), if_neg (by omega)]
  unfold wave_form.f
  rw [Option.bind_some, if_pos (by omega), hdrop, turn_spec _ _ _ _ _ _ _ _ (turn_bytes a1 _ (pack_bytes a1 a6 l)) (by rw [turn_length]; omega), turn_turn a1 _ (pack_bytes a1 a6 l), Option.bind_some]
  have h1 := O.fits.one
  have h8 := O.fits.eight
  have hb1 := bytes_pos a1
  have hvl : (vals l 0 a6.toNat).length = a6.toNat * l.length := vals_length l a6.toNat 0
  have hmod : (packW a1 a6 l).length % (l.length * nbytes a1) = 0 := by rw [O.size, Nat.mul_assoc]; exact Nat.mul_mod_left _ _
  have hdiv : (packW a1 a6 l).length / nbytes a1 = (vals l 0 a6.toNat).length := by rw [O.size, hvl, Nat.mul_div_cancel _ hb1]
  have hu := unpack_spec O.fits.good false l.length ⟨h1, h8⟩ (packW a1 a6 l) (by omega) (pack_bytes a1 a6 l) K (by omega)
  unfold packW at hmod hdiv hu ⊢
  rw [if_pos hmod, hdiv, decs_enc O.fits.good false _ (vals_mem l a6.toNat O.fits.same _ O.fits.has a6.toNat 0 (by omega)), unRows_vals l a6.toNat O.fits.same, hlen] at hu
  rw [hu, Option.bind_some]
end Go.Proofs.Ytliidobbkfmndaa.WaveSpec

namespace Go.Proofs.Ytliidobbkfmndaa.Pure
open Go Go.RowKit Go.Proofs.Ytliidobbkfmndaa.HW2 Go.Proofs.Ytliidobbkfmndaa.PackSpec Go.Proofs.Ytliidobbkfmndaa.PackDoc Go.Proofs.Ytliidobbkfmndaa.WaveSpec Go.Proofs.YtliidobbkfmndaaW.PrintWords Go.Proofs.YtliidobbkfmndaaW.PrintLast
theorem awake_ok (K : Nat) (hK : 100000 ≤ K) : sackbutlaw19_awake.f K = some true := by
  unfold sackbutlaw19_awake.f
  rw [write_spec 1 8 false 8000 16 0 3 [[(-128), 0, 127]] (by decide) (by decide) K hK, Option.bind_some]
  decide +kernel
theorem Writes_j0 (a0 a1 : Int) (a2 : Bool) (a3 a4 a5 a6 : Int) (l : List (List Int)) (x : Bool) (hx : x = false → l.length ≤ 10 ∧ ∀ x ∈ l, x.length ≤ 100) (K : Nat) (hK : 200000 ≤ K) : sackbutlaw19_WaveWrites.j0 K l x a0 a1 a2 a3 a4 a5 a6 = some true := by
  obtain ⟨K, rfl⟩ : ∃ m, K = m + 2 := ⟨K - 2, by omega⟩
  rw [show K + 2 = (K + 1) + 1 from rfl]
  simp only [sackbutlaw19_WaveWrites.j0]
  cases x with
  | true => rw [if_pos rfl, awake_ok _ (by omega), Option.bind_some]
  | false =>
    obtain ⟨hl, hr⟩ := hx rfl
    have hr2 : ∀ x ∈ l, x.length ≤ 200 := fun x hx => by have := hr x hx; omega
    rw [if_neg (by decide), write_spec a0 a1 a2 a3 a4 a5 a6 l (by omega) hr2 (K + 1) (by omega), Option.bind_some, doc_write_spec a0 a1 a2 a3 a4 a5 a6 l (by omega) hr2 (K + 1) (by omega), Option.bind_some, if_pos rfl]
    simp only [sackbutlaw19_WaveWrites.j1]
    rw [if_neg (by simp)]
    by_cases h0 : eW a0 a1 a3 a4 a5 a6 l = 0
    · have O := ok_of hr2 h0
      obtain ⟨e1, _, _, _⟩ := row_nat O.good.1 O.good.2.1
      rw [if_pos h0, if_pos h0, read_back O K (by omega), Option.bind_some, if_pos rfl, if_pos (by simp), same_all l (by omega) hr2 K (by omega), Option.bind_some, if_pos rfl]
      unfold wave_Row.f
      rw [Option.bind_some]
      simp
    · rw [if_neg h0]
theorem WaveWrites : PureGWaveWrites := by
  intro a0 a1 a2 a3 a4 a5 a6 l _ _ _ _ _ _ hlen _
  obtain ⟨f, hf, h⟩ := few_spec l hlen (l.length + 300000) (by omega)
  refine ⟨l.length + 300000, ?_⟩
  unfold sackbutlaw19_WaveWrites.f
  rw [awake_ok _ (by omega), Option.bind_some, if_pos rfl, hf, Option.bind_some]
  exact Writes_j0 a0 a1 a2 a3 a4 a5 a6 l _ (fun e => h (by simpa using e)) _ (by omega)
end Go.Proofs.Ytliidobbkfmndaa.Pure

