/- What the Go functions come to, as plain Lean functions, and that their calls do just that: written by this project's own program (hp.sh); conditions: those of each theorem. -/
import Derived.Test.YtlbhcbfdiojbhaaHLx0
import Derived.Test.YtlbhcbfdiojbhaaHLx3
import Derived.Test.YtlbhcbfdiojbhaaHLx8
import Derived.Test.YtlbhcbfdiojbhaaHLx9
namespace Go.Proofs.Ytlbhcbfdiojbhaa.HL
open Go.RowKit Go.Proofs.YtlbhcbfdiojbhaaW.PrintWords Go.Proofs.YtlbhcbfdiojbhaaW.PrintLast Go.Proofs.YtlbhcbfdiojbhaaW.PrintMore
attribute [local go_sem] max2_int min2_int max_two min_two max_three min_three max_four min_four   -- for this text's walks alone
set_option linter.unusedVariables false
set_option linter.unusedSimpArgs false

/-! ### sackbutlaw17_LadderFinds: function 4 -/
mutual
def sackbutlaw17_LadderFinds.j0 : Nat → List Int → Int → Int → Bool → Option (Bool)
  | 0, _, _, _, _ => none
  | k + 1, x0, x1, x2, x28 => if x28 = true then ((sackbutlaw17_awake.f k).bind fun t125 => (some t125)) else ((ladder_Find.f x0 x1).bind fun bt126 => ((ladder_At.f x0 x2).bind fun bt129 => (sackbutlaw17_LadderFinds.l0 k x0 x1 x2 bt126.1 bt126.2.1 bt126.2.2 bt129.1 bt129.2 0 false false x0 (x0.length : Int) 0)))
def sackbutlaw17_LadderFinds.l0 : Nat → List Int → Int → Int → Int → Int → Int → Int → Int → Int → Bool → Bool → List Int → Int → Int → Option (Bool)
  | 0, _, _, _, _, _, _, _, _, _, _, _, _, _, _ => none
  | k + 1, x0, x1, x2, x7, x8, x9, x10, x11, x12, x13, x14, x43, x44, x45 => if x45 < x44 then (if 0 ≤ x45 then (if x45 < (x43.length : Int) then (if x45 = x1 then (if x7 = x12 then (if x8 = (wrap64 (x12 + (rd x43 x45))) then (if x2 ≥ x12 then (if x2 < (wrap64 (x12 + (rd x43 x45))) then (if x10 = x45 then (sackbutlaw17_LadderFinds.l0 k x0 x1 x2 x7 x8 x9 x10 x11 (wrap64 (x12 + (rd x43 x45))) (x9 == 0) (x11 == 0) x43 x44 (wrap64 (x45 + 1))) else (sackbutlaw17_LadderFinds.l0 k x0 x1 x2 x7 x8 x9 x10 x11 (wrap64 (x12 + (rd x43 x45))) (x9 == 0) false x43 x44 (wrap64 (x45 + 1)))) else (sackbutlaw17_LadderFinds.l0 k x0 x1 x2 x7 x8 x9 x10 x11 (wrap64 (x12 + (rd x43 x45))) (x9 == 0) x14 x43 x44 (wrap64 (x45 + 1)))) else (sackbutlaw17_LadderFinds.l0 k x0 x1 x2 x7 x8 x9 x10 x11 (wrap64 (x12 + (rd x43 x45))) (x9 == 0) x14 x43 x44 (wrap64 (x45 + 1)))) else (if x2 ≥ x12 then (if x2 < (wrap64 (x12 + (rd x43 x45))) then (if x10 = x45 then (sackbutlaw17_LadderFinds.l0 k x0 x1 x2 x7 x8 x9 x10 x11 (wrap64 (x12 + (rd x43 x45))) false (x11 == 0) x43 x44 (wrap64 (x45 + 1))) else (sackbutlaw17_LadderFinds.l0 k x0 x1 x2 x7 x8 x9 x10 x11 (wrap64 (x12 + (rd x43 x45))) false false x43 x44 (wrap64 (x45 + 1)))) else (sackbutlaw17_LadderFinds.l0 k x0 x1 x2 x7 x8 x9 x10 x11 (wrap64 (x12 + (rd x43 x45))) false x14 x43 x44 (wrap64 (x45 + 1)))) else (sackbutlaw17_LadderFinds.l0 k x0 x1 x2 x7 x8 x9 x10 x11 (wrap64 (x12 + (rd x43 x45))) false x14 x43 x44 (wrap64 (x45 + 1))))) else (if x2 ≥ x12 then (if x2 < (wrap64 (x12 + (rd x43 x45))) then (if x10 = x45 then (sackbutlaw17_LadderFinds.l0 k x0 x1 x2 x7 x8 x9 x10 x11 (wrap64 (x12 + (rd x43 x45))) false (x11 == 0) x43 x44 (wrap64 (x45 + 1))) else (sackbutlaw17_LadderFinds.l0 k x0 x1 x2 x7 x8 x9 x10 x11 (wrap64 (x12 + (rd x43 x45))) false false x43 x44 (wrap64 (x45 + 1)))) else (sackbutlaw17_LadderFinds.l0 k x0 x1 x2 x7 x8 x9 x10 x11 (wrap64 (x12 + (rd x43 x45))) false x14 x43 x44 (wrap64 (x45 + 1)))) else (sackbutlaw17_LadderFinds.l0 k x0 x1 x2 x7 x8 x9 x10 x11 (wrap64 (x12 + (rd x43 x45))) false x14 x43 x44 (wrap64 (x45 + 1))))) else (if x2 ≥ x12 then (if x2 < (wrap64 (x12 + (rd x43 x45))) then (if x10 = x45 then (sackbutlaw17_LadderFinds.l0 k x0 x1 x2 x7 x8 x9 x10 x11 (wrap64 (x12 + (rd x43 x45))) x13 (x11 == 0) x43 x44 (wrap64 (x45 + 1))) else (sackbutlaw17_LadderFinds.l0 k x0 x1 x2 x7 x8 x9 x10 x11 (wrap64 (x12 + (rd x43 x45))) x13 false x43 x44 (wrap64 (x45 + 1)))) else (sackbutlaw17_LadderFinds.l0 k x0 x1 x2 x7 x8 x9 x10 x11 (wrap64 (x12 + (rd x43 x45))) x13 x14 x43 x44 (wrap64 (x45 + 1)))) else (sackbutlaw17_LadderFinds.l0 k x0 x1 x2 x7 x8 x9 x10 x11 (wrap64 (x12 + (rd x43 x45))) x13 x14 x43 x44 (wrap64 (x45 + 1))))) else (none)) else (none)) else (if x1 < 0 then (sackbutlaw17_LadderFinds.j2 k x2 x7 x8 x9 x10 x11 x12 x13 x14 true) else (sackbutlaw17_LadderFinds.j2 k x2 x7 x8 x9 x10 x11 x12 x13 x14 (decide (x1 ≥ (x0.length : Int)))))
def sackbutlaw17_LadderFinds.j2 : Nat → Int → Int → Int → Int → Int → Int → Int → Bool → Bool → Bool → Option (Bool)
  | 0, _, _, _, _, _, _, _, _, _, _ => none
  | k + 1, x2, x7, x8, x9, x10, x11, x12, x13, x14, x95 => if x95 = true then (if x7 = 0 then (if x8 = 0 then (if x2 < 0 then (if x10 = 0 then (if x9 = 14 then (some (x11 == 14)) else (some false)) else (if x9 = 14 then (some false) else (some false))) else (if x2 ≥ x12 then (if x10 = 0 then (if x9 = 14 then (some (x11 == 14)) else (some false)) else (if x9 = 14 then (some false) else (some false))) else (if x9 = 14 then (some x14) else (some false)))) else (if x2 < 0 then (if x10 = 0 then (some false) else (some false)) else (if x2 ≥ x12 then (if x10 = 0 then (some false) else (some false)) else (some false)))) else (if x2 < 0 then (if x10 = 0 then (some false) else (some false)) else (if x2 ≥ x12 then (if x10 = 0 then (some false) else (some false)) else (some false)))) else (if x2 < 0 then (if x10 = 0 then (if x13 = true then (some (x11 == 14)) else (some false)) else (if x13 = true then (some false) else (some false))) else (if x2 ≥ x12 then (if x10 = 0 then (if x13 = true then (some (x11 == 14)) else (some false)) else (if x13 = true then (some false) else (some false))) else (if x13 = true then (some x14) else (some false))))
end
def sackbutlaw17_LadderFinds.f (k : Nat) (l0 : List Int) (a1 : Int) (a2 : Int) : Option (Bool) := (sackbutlaw17_awake.f k).bind fun t123 => (if t123 = true then (if (l0.length : Int) > 100 then (sackbutlaw17_LadderFinds.j0 k l0 a1 a2 true) else ((sackbutlaw17_good.f k l0).bind fun t124 => (sackbutlaw17_LadderFinds.j0 k l0 a1 a2 (!t124)))) else (sackbutlaw17_LadderFinds.j0 k l0 a1 a2 true))
theorem sackbutlaw17_LadderFinds.mono_l : ∀ k, (∀ y0 y1 y2 y3, LeO (sackbutlaw17_LadderFinds.j0 k y0 y1 y2 y3) (sackbutlaw17_LadderFinds.j0 (k + 1) y0 y1 y2 y3)) ∧ (∀ y0 y1 y2 y3 y4 y5 y6 y7 y8 y9 y10 y11 y12 y13, LeO (sackbutlaw17_LadderFinds.l0 k y0 y1 y2 y3 y4 y5 y6 y7 y8 y9 y10 y11 y12 y13) (sackbutlaw17_LadderFinds.l0 (k + 1) y0 y1 y2 y3 y4 y5 y6 y7 y8 y9 y10 y11 y12 y13)) ∧ (∀ y0 y1 y2 y3 y4 y5 y6 y7 y8 y9, LeO (sackbutlaw17_LadderFinds.j2 k y0 y1 y2 y3 y4 y5 y6 y7 y8 y9) (sackbutlaw17_LadderFinds.j2 (k + 1) y0 y1 y2 y3 y4 y5 y6 y7 y8 y9))
  | 0 => ⟨fun _ _ _ _ r h => by simp [sackbutlaw17_LadderFinds.j0] at h, fun _ _ _ _ _ _ _ _ _ _ _ _ _ _ r h => by simp [sackbutlaw17_LadderFinds.l0] at h, fun _ _ _ _ _ _ _ _ _ _ r h => by simp [sackbutlaw17_LadderFinds.j2] at h⟩
  | k + 1 => by
    obtain ⟨ih0, ih1, ih2⟩ := sackbutlaw17_LadderFinds.mono_l k
    refine ⟨?_, ?_, ?_⟩
    · intro y0 y1 y2 y3
      unfold sackbutlaw17_LadderFinds.j0
      repeat' first
      | (with_reducible exact ih0 _ _ _ _)
      | (with_reducible exact ih1 _ _ _ _ _ _ _ _ _ _ _ _ _ _)
      | (with_reducible exact ih2 _ _ _ _ _ _ _ _ _ _)
      | (with_reducible exact sackbutlaw17_awake.mono _)
      | (with_reducible exact sackbutlaw17_good.mono _ _)
      | (with_reducible exact LeO.refl _)
      | (with_reducible exact LeO.none _)
      | (with_reducible refine LeO.ite ?_ ?_)
      | (with_reducible refine LeO.bind ?_ (fun _ => ?_))
      | exact ih0 _ _ _ _
      | exact ih1 _ _ _ _ _ _ _ _ _ _ _ _ _ _
      | exact ih2 _ _ _ _ _ _ _ _ _ _
      | exact sackbutlaw17_awake.mono _
      | exact sackbutlaw17_good.mono _ _
      | exact LeO.none _
      | refine LeO.ite ?_ ?_
      | refine LeO.bind ?_ (fun _ => ?_)
    · intro y0 y1 y2 y3 y4 y5 y6 y7 y8 y9 y10 y11 y12 y13
      unfold sackbutlaw17_LadderFinds.l0
      repeat' first
      | (with_reducible exact ih0 _ _ _ _)
      | (with_reducible exact ih1 _ _ _ _ _ _ _ _ _ _ _ _ _ _)
      | (with_reducible exact ih2 _ _ _ _ _ _ _ _ _ _)
      | (with_reducible exact sackbutlaw17_awake.mono _)
      | (with_reducible exact sackbutlaw17_good.mono _ _)
      | (with_reducible exact LeO.refl _)
      | (with_reducible exact LeO.none _)
      | (with_reducible refine LeO.ite ?_ ?_)
      | (with_reducible refine LeO.bind ?_ (fun _ => ?_))
      | exact ih0 _ _ _ _
      | exact ih1 _ _ _ _ _ _ _ _ _ _ _ _ _ _
      | exact ih2 _ _ _ _ _ _ _ _ _ _
      | exact sackbutlaw17_awake.mono _
      | exact sackbutlaw17_good.mono _ _
      | exact LeO.none _
      | refine LeO.ite ?_ ?_
      | refine LeO.bind ?_ (fun _ => ?_)
    · intro y0 y1 y2 y3 y4 y5 y6 y7 y8 y9
      unfold sackbutlaw17_LadderFinds.j2
      repeat' first
      | (with_reducible exact ih0 _ _ _ _)
      | (with_reducible exact ih1 _ _ _ _ _ _ _ _ _ _ _ _ _ _)
      | (with_reducible exact ih2 _ _ _ _ _ _ _ _ _ _)
      | (with_reducible exact sackbutlaw17_awake.mono _)
      | (with_reducible exact sackbutlaw17_good.mono _ _)
      | (with_reducible exact LeO.refl _)
      | (with_reducible exact LeO.none _)
      | (with_reducible refine LeO.ite ?_ ?_)
      | (with_reducible refine LeO.bind ?_ (fun _ => ?_))
      | exact ih0 _ _ _ _
      | exact ih1 _ _ _ _ _ _ _ _ _ _ _ _ _ _
      | exact ih2 _ _ _ _ _ _ _ _ _ _
      | exact sackbutlaw17_awake.mono _
      | exact sackbutlaw17_good.mono _ _
      | exact LeO.none _
      | refine LeO.ite ?_ ?_
      | refine LeO.bind ?_ (fun _ => ?_)
theorem sackbutlaw17_LadderFinds.mono : ∀ a0 a1 a2 k, LeO (sackbutlaw17_LadderFinds.f k a0 a1 a2) (sackbutlaw17_LadderFinds.f (k + 1) a0 a1 a2) := by
  intro a0 a1 a2 k
  obtain ⟨ih0, ih1, ih2⟩ := sackbutlaw17_LadderFinds.mono_l k
  unfold sackbutlaw17_LadderFinds.f
  repeat' first
      | (with_reducible exact ih0 _ _ _ _)
      | (with_reducible exact ih1 _ _ _ _ _ _ _ _ _ _ _ _ _ _)
      | (with_reducible exact ih2 _ _ _ _ _ _ _ _ _ _)
      | (with_reducible exact sackbutlaw17_awake.mono _)
      | (with_reducible exact sackbutlaw17_good.mono _ _)
      | (with_reducible exact LeO.refl _)
      | (with_reducible exact LeO.none _)
      | (with_reducible refine LeO.ite ?_ ?_)
      | (with_reducible refine LeO.bind ?_ (fun _ => ?_))
      | exact ih0 _ _ _ _
      | exact ih1 _ _ _ _ _ _ _ _ _ _ _ _ _ _
      | exact ih2 _ _ _ _ _ _ _ _ _ _
      | exact sackbutlaw17_awake.mono _
      | exact sackbutlaw17_good.mono _ _
      | exact LeO.none _
      | refine LeO.ite ?_ ?_
      | refine LeO.bind ?_ (fun _ => ?_)
set_option maxHeartbeats 8000000 in
set_option maxRecDepth 100000 in
theorem sackbutlaw17_LadderFinds.calls (k : Nat) (A0 : Option Addr) (c0 : Nat) (l0 : List Int) (a1 : Int) (a2 : Int) (r : Bool) (w : World) (hr0 : Kd.C (Kd.int .i64) w A0 l0.length l0) (hc0 : l0.length ≤ c0) (h : sackbutlaw17_LadderFinds.f k l0 a1 a2 = some r) :
    Calls Try.prog 4 #[.slice A0 l0.length c0, .int .i64 a1, .int .i64 a2] w fun e w' => e = .returned (.bool r) ∧ Below w.heap.size w w' := by
  have HR0 := Aside0.mk hr0
  have HC0 := Aside0.mk hc0
  clear hr0 hc0
  have HB := Aside0.mk (Below.refl w.heap.size w)
  have H : ((sackbutlaw17_awake.f k).bind fun t123 => (if t123 = true then (if (l0.length : Int) > 100 then (sackbutlaw17_LadderFinds.j0 k l0 a1 a2 true) else ((sackbutlaw17_good.f k l0).bind fun t124 => (sackbutlaw17_LadderFinds.j0 k l0 a1 a2 (!t124)))) else (sackbutlaw17_LadderFinds.j0 k l0 a1 a2 true))) = some r := h
  clear h
  have HC4 := Aside0.mk H
  clear H
  go_enter Try.func4, Try.ntmps4
  go_upto_region 1 with (fail)
  go_cut [28] (fun v28 wc => ∃ (kq : Nat) (x28_3 : Bool), v28 = .bool x28_3 ∧ Aside0 (sackbutlaw17_LadderFinds.j0 kq l0 a1 a2 x28_3 = some r) ∧ Aside0 (kq ≤ k) ∧ Aside0 (Below w.heap.size w wc))
  case first =>
    have H := HC4.out
    clear HC4
    replace H := Option.bind_eq_some_iff.mp H
    obtain ⟨t123, A50, H⟩ := H
    replace H : (if t123 = true then (if (l0.length : Int) > 100 then (sackbutlaw17_LadderFinds.j0 k l0 a1 a2 true) else ((sackbutlaw17_good.f k l0).bind fun t124 => (sackbutlaw17_LadderFinds.j0 k l0 a1 a2 (!t124)))) else (sackbutlaw17_LadderFinds.j0 k l0 a1 a2 true)) = some r := H
    have A5 := Aside0.mk A50
    clear A50
    by_cases c6 : t123 = true
    · subst c6
      have H1 : (if (l0.length : Int) > 100 then (sackbutlaw17_LadderFinds.j0 k l0 a1 a2 true) else ((sackbutlaw17_good.f k l0).bind fun t124 => (sackbutlaw17_LadderFinds.j0 k l0 a1 a2 (!t124)))) = some r := by rw [if_pos rfl] at H; exact H
      clear H
      have H := H1
      clear H1
      by_cases c7 : (l0.length : Int) > 100
      · rw [if_pos c7] at H
        have c7b0 : decide (100 < (l0.length : Int)) = true := decide_eq_true c7
        have c7b1 : decide (100 < l0.length) = true := decide_eq_true (by omega)
        clear c7
        (first | rw [c7b0] | (simp only [i64_w, i32_w]; rw [c7b0]) | skip)
        have H' := Aside0.mk H
        clear H
        go_wp2_with (first | ((with_reducible refine gate_callee (f := 8) rfl ?_); refine goesL_ (some 17) rfl rfl Try.func8 (by kernel_rfl) rfl #[] rfl (by (try simp only [List.map_toArray, List.map_cons, List.map_nil]); first | done | rfl | (simp only [List.length_drop, List.length_take]; rfl)) ?_; (with_reducible refine (sackbutlaw17_awake.calls k  true _ A5.out).mono ?_); rintro e w8 ⟨rfl, hb⟩; refine ⟨_, rfl, ?_⟩; have n0_ := Aside0.mk (below_step (by repeat (first | (with_reducible first | exact HB.out | apply below_alloc | apply pw_below_drewN | apply below_drew1) | exact HB.out)) hb); clear HB; have HB := n0_; clear n0_; (try clear hb); (try clear hb2); (try clear hk); (try clear hi)))
        go_meet
        case rel => exact ⟨_, (true), (by first | rfl | (simp; done) | (simp [*]; done)), H', ⟨by first | omega | exact Nat.le_refl _⟩, ⟨by repeat (first | (with_reducible first | exact HB.out | apply below_alloc | apply pw_below_drewN | apply below_drew1) | exact HB.out)⟩⟩
      · rw [if_neg c7] at H
        have c7b0 : decide (100 < (l0.length : Int)) = false := decide_eq_false c7
        have c7b1 : decide (100 < l0.length) = false := decide_eq_false (by omega)
        clear c7
        (first | rw [c7b0] | (simp only [i64_w, i32_w]; rw [c7b0]) | skip)
        replace H := Option.bind_eq_some_iff.mp H
        obtain ⟨t124, A90, H⟩ := H
        replace H : (sackbutlaw17_LadderFinds.j0 k l0 a1 a2 (!t124)) = some r := H
        have A9 := Aside0.mk A90
        clear A90
        have H' := Aside0.mk H
        clear H
        go_wp2_with (first | ((with_reducible refine gate_callee (f := 8) rfl ?_); refine goesL_ (some 17) rfl rfl Try.func8 (by kernel_rfl) rfl #[] rfl (by (try simp only [List.map_toArray, List.map_cons, List.map_nil]); first | done | rfl | (simp only [List.length_drop, List.length_take]; rfl)) ?_; (with_reducible refine (sackbutlaw17_awake.calls k  true _ A5.out).mono ?_); rintro e w10 ⟨rfl, hb⟩; refine ⟨_, rfl, ?_⟩; have n0_ := Aside0.mk (below_step (by repeat (first | (with_reducible first | exact HB.out | apply below_alloc | apply pw_below_drewN | apply below_drew1) | exact HB.out)) hb); clear HB; have HB := n0_; clear n0_; (try clear hb); (try clear hb2); (try clear hk); (try clear hi)) | (go_at_call 9; (with_reducible refine (sackbutlaw17_good.calls k _ _ l0 t124 _ ?side1 ?side2 A9.out).mono ?_); (case side1 => repeat (first | exact (Kd.C_below HR0.out HB.out) | (with_reducible refine Kd.C_alloc ?_ _) | (with_reducible refine Kd.C_drewN ?_ _) | (with_reducible refine Kd.C_drew ?_))); (case side2 => exact HC0.out); rintro e w' ⟨rfl, ⟨nd, rfl⟩⟩))
        go_meet
        case rel => exact ⟨_, (!t124), (by first | rfl | (simp; done) | (simp [*]; done)), H', ⟨by first | omega | exact Nat.le_refl _⟩, ⟨by repeat (first | (with_reducible first | exact HB.out | apply below_alloc | apply pw_below_drewN | apply below_drew1) | exact HB.out)⟩⟩
    · replace c6 := Bool.eq_false_iff.mpr c6
      subst c6
      have H1 : (sackbutlaw17_LadderFinds.j0 k l0 a1 a2 true) = some r := by rw [if_neg (show ¬ (false = true) by decide)] at H; exact H
      clear H
      have H := H1
      clear H1
      have H' := Aside0.mk H
      clear H
      go_wp2_with (first | ((with_reducible refine gate_callee (f := 8) rfl ?_); refine goesL_ (some 17) rfl rfl Try.func8 (by kernel_rfl) rfl #[] rfl (by (try simp only [List.map_toArray, List.map_cons, List.map_nil]); first | done | rfl | (simp only [List.length_drop, List.length_take]; rfl)) ?_; (with_reducible refine (sackbutlaw17_awake.calls k  false _ A5.out).mono ?_); rintro e w11 ⟨rfl, hb⟩; refine ⟨_, rfl, ?_⟩; have n0_ := Aside0.mk (below_step (by repeat (first | (with_reducible first | exact HB.out | apply below_alloc | apply pw_below_drewN | apply below_drew1) | exact HB.out)) hb); clear HB; have HB := n0_; clear n0_; (try clear hb); (try clear hb2); (try clear hk); (try clear hi)))
      go_meet
      case rel => exact ⟨_, (true), (by first | rfl | (simp; done) | (simp [*]; done)), H', ⟨by first | omega | exact Nat.le_refl _⟩, ⟨by repeat (first | (with_reducible first | exact HB.out | apply below_alloc | apply pw_below_drewN | apply below_drew1) | exact HB.out)⟩⟩
  case rest =>
    clear HC4
    try clear p2
    try clear c4
    try clear c6
    try clear c7
    try clear c7b0
    try clear c7b1
    try clear c8
    obtain ⟨kq, x28_3, rfl, HA, HJ3, HB⟩ := hcut
    cases kq with
    | zero => exact absurd HA.out (by simp [sackbutlaw17_LadderFinds.j0])
    | succ kj3 =>
      have H := HA.out
      clear HA
      simp only [sackbutlaw17_LadderFinds.j0] at H
      by_cases c12 : x28_3 = true
      · subst c12
        have H1 : ((sackbutlaw17_awake.f kj3).bind fun t125 => (some t125)) = some r := by rw [if_pos rfl] at H; exact H
        clear H
        have H := H1
        clear H1
        replace H := Option.bind_eq_some_iff.mp H
        obtain ⟨t125, A130, H⟩ := H
        replace H : (some t125) = some r := H
        have A13 := Aside0.mk A130
        clear A130
        obtain rfl := Option.some.inj H
        go_wp2_with (first | ((with_reducible refine gate_callee (f := 8) rfl ?_); refine goesL_ (some 29) rfl rfl Try.func8 (by kernel_rfl) rfl #[] rfl (by (try simp only [List.map_toArray, List.map_cons, List.map_nil]); first | done | rfl | (simp only [List.length_drop, List.length_take]; rfl)) ?_; (with_reducible refine (sackbutlaw17_awake.calls kj3  t125 _ A13.out).mono ?_); rintro e w14 ⟨rfl, hb⟩; refine ⟨_, rfl, ?_⟩; have n0_ := Aside0.mk (below_step (by repeat (first | (with_reducible first | exact HB.out | apply below_alloc | apply pw_below_drewN | apply below_drew1) | exact HB.out)) hb); clear HB; have HB := n0_; clear n0_; (try clear hb); (try clear hb2); (try clear hk); (try clear hi)))
        go_ret
        exact ⟨by first | rfl | (simp [errW_none, errW_some] <;> rfl) | (simp [*, errW_none, errW_some] <;> rfl), by repeat (first | (with_reducible first | exact HB.out | apply below_alloc | apply pw_below_drewN | apply below_drew1) | exact HB.out)⟩
      · replace c12 := Bool.eq_false_iff.mpr c12
        subst c12
        have H1 : ((ladder_Find.f l0 a1).bind fun bt126 => ((ladder_At.f l0 a2).bind fun bt129 => (sackbutlaw17_LadderFinds.l0 kj3 l0 a1 a2 bt126.1 bt126.2.1 bt126.2.2 bt129.1 bt129.2 0 false false l0 (l0.length : Int) 0))) = some r := by rw [if_neg (show ¬ (false = true) by decide)] at H; exact H
        clear H
        have H := H1
        clear H1
        replace H := Option.bind_eq_some_iff.mp H
        obtain ⟨⟨t126, t127, t128⟩, A150, H⟩ := H
        replace H : ((ladder_At.f l0 a2).bind fun bt129 => (sackbutlaw17_LadderFinds.l0 kj3 l0 a1 a2 t126 t127 t128 bt129.1 bt129.2 0 false false l0 (l0.length : Int) 0)) = some r := H
        have A15 := Aside0.mk A150
        clear A150
        replace H := Option.bind_eq_some_iff.mp H
        obtain ⟨⟨t129, t130⟩, A160, H⟩ := H
        replace H : (sackbutlaw17_LadderFinds.l0 kj3 l0 a1 a2 t126 t127 t128 t129 t130 0 false false l0 (l0.length : Int) 0) = some r := H
        have A16 := Aside0.mk A160
        clear A160
        have H' := Aside0.mk H
        clear H
        go_wp2_with (first | ((with_reducible refine gate_callee (f := 12) rfl ?_); refine goesL_ (some 33) rfl rfl Try.func12 (by kernel_rfl) rfl #[.slice A0 l0.length c0, .int .i64 a1] rfl (by (try simp only [List.map_toArray, List.map_cons, List.map_nil]); first | done | rfl | (simp only [List.length_drop, List.length_take]; rfl)) ?_; (with_reducible refine (ladder_Find.calls _ _ l0 a1 t126 t127 t128 _ ?side1 ?side2 A15.out).mono ?_); (case side1 => repeat (first | exact (Kd.C_below HR0.out HB.out) | (with_reducible refine Kd.C_alloc ?_ _) | (with_reducible refine Kd.C_drewN ?_ _) | (with_reducible refine Kd.C_drew ?_))); (case side2 => exact HC0.out); rintro e w17 ⟨rfl, hb⟩; refine ⟨_, rfl, ?_⟩; have n0_ := Aside0.mk (below_step (by repeat (first | (with_reducible first | exact HB.out | apply below_alloc | apply pw_below_drewN | apply below_drew1) | exact HB.out)) hb); clear HB; have HB := n0_; clear n0_; (try clear hb); (try clear hb2); (try clear hk); (try clear hi)) | ((with_reducible refine gate_callee (f := 13) rfl ?_); refine goesL_ (some 40) rfl rfl Try.func13 (by kernel_rfl) rfl #[.slice A0 l0.length c0, .int .i64 a2] rfl (by (try simp only [List.map_toArray, List.map_cons, List.map_nil]); first | done | rfl | (simp only [List.length_drop, List.length_take]; rfl)) ?_; (with_reducible refine (ladder_At.calls _ _ l0 a2 t129 t130 _ ?side1 ?side2 A16.out).mono ?_); (case side1 => repeat (first | exact (Kd.C_below HR0.out HB.out) | (with_reducible refine Kd.C_alloc ?_ _) | (with_reducible refine Kd.C_drewN ?_ _) | (with_reducible refine Kd.C_drew ?_))); (case side2 => exact HC0.out); rintro e w18 ⟨rfl, hb⟩; refine ⟨_, rfl, ?_⟩; have n0_ := Aside0.mk (below_step (by repeat (first | (with_reducible first | exact HB.out | apply below_alloc | apply pw_below_drewN | apply below_drew1) | exact HB.out)) hb); clear HB; have HB := n0_; clear n0_; (try clear hb); (try clear hb2); (try clear hk); (try clear hi)))
        go_loopg [12, 13, 14, 45] kj3 (fun kq v12 v13 v14 v45 w' => ∃ (x12_2 : Int) (x13_2 : Bool) (x14_2 : Bool) (x45_2 : Int), v12 = .int .i64 x12_2 ∧ v13 = .bool x13_2 ∧ v14 = .bool x14_2 ∧ v45 = .int .i64 x45_2 ∧ Aside0 (sackbutlaw17_LadderFinds.l0 kq l0 a1 a2 t126 t127 t128 t129 t130 x12_2 x13_2 x14_2 l0 (l0.length : Int) x45_2 = some r) ∧ Aside0 (kq ≤ kj3) ∧ Aside0 (Below w.heap.size w w'))
        case atStart => exact ⟨(0), (false), (false), (0), (by first | rfl | (simp; done) | (simp [*]; done)), (by first | rfl | (simp; done) | (simp [*]; done)), (by first | rfl | (simp; done) | (simp [*]; done)), (by first | rfl | (simp; done) | (simp [*]; done)), H', ⟨Nat.le_refl _⟩, ⟨by repeat (first | (with_reducible first | exact HB.out | apply below_alloc | apply pw_below_drewN | apply below_drew1) | exact HB.out)⟩⟩
        case round =>
          clear H'
          try clear c1
          try clear p2
          try clear c4
          try clear c6
          try clear c7
          try clear c7b0
          try clear c7b1
          try clear c8
          try clear c12
          try clear c13
          try clear p2
          obtain ⟨x12_2, x13_2, x14_2, x45_2, rfl, rfl, rfl, rfl, HA, HK2, HB⟩ := hrel
          cases gk with
          | zero => exact absurd HA.out (by simp [sackbutlaw17_LadderFinds.l0])
          | succ k2 =>
            have H := HA.out
            clear HA
            simp only [sackbutlaw17_LadderFinds.l0] at H
            by_cases c19 : x45_2 < (l0.length : Int)
            · rw [if_pos c19] at H
              have c19b0 : decide (x45_2 < (l0.length : Int)) = true := decide_eq_true c19
              clear c19
              by_cases c20 : 0 ≤ x45_2
              · rw [if_pos c20] at H
                have c20b0 : decide (0 ≤ x45_2) = true := decide_eq_true c20
                clear c20
                by_cases c21 : x45_2 < (l0.length : Int)
                · rw [if_pos c21] at H
                  have c21b0 : decide (x45_2 < (l0.length : Int)) = true := decide_eq_true c21
                  clear c21
                  by_cases c22 : x45_2 = a1
                  · rw [if_pos c22] at H
                    have c22b0 : (x45_2 == a1) = true := beq_iff_eq.mpr c22
                    have c22b1 : (x45_2 != a1) = false := bne_eq_false_iff_eq.mpr c22
                    clear c22
                    by_cases c23 : t126 = x12_2
                    · rw [if_pos c23] at H
                      have c23b0 : (t126 == x12_2) = true := beq_iff_eq.mpr c23
                      have c23b1 : (t126 != x12_2) = false := bne_eq_false_iff_eq.mpr c23
                      clear c23
                      by_cases c24 : t127 = (wrap64 (x12_2 + (rd l0 x45_2)))
                      · rw [if_pos c24] at H
                        have c24b0 : (t127 == (wrap64 (x12_2 + (rd l0 x45_2)))) = true := beq_iff_eq.mpr c24
                        have c24b1 : (t127 != (wrap64 (x12_2 + (rd l0 x45_2)))) = false := bne_eq_false_iff_eq.mpr c24
                        clear c24
                        by_cases c25 : a2 ≥ x12_2
                        · rw [if_pos c25] at H
                          have c25b0 : decide (x12_2 ≤ a2) = true := decide_eq_true c25
                          clear c25
                          by_cases c26 : a2 < (wrap64 (x12_2 + (rd l0 x45_2)))
                          · rw [if_pos c26] at H
                            have c26b0 : decide (a2 < (wrap64 (x12_2 + (rd l0 x45_2)))) = true := decide_eq_true c26
                            clear c26
                            by_cases c27 : t129 = x45_2
                            · rw [if_pos c27] at H
                              have c27b0 : (t129 == x45_2) = true := beq_iff_eq.mpr c27
                              have c27b1 : (t129 != x45_2) = false := bne_eq_false_iff_eq.mpr c27
                              clear c27
                              have H' := Aside0.mk H
                              clear H
                              have p131 : 0 ≤ (x45_2 : Int) := of_decide_eq_true (by first | (with_reducible assumption) | assumption)
                              have q131 : x45_2 < (l0.length : Int) := of_decide_eq_true (by first | (with_reducible assumption) | assumption)
                              obtain ⟨ad131, e131, hx131_0⟩ := Kd.at_int HR0.out x45_2 p131 q131
                              cases e131
                              replace hx131_0 := (HB.out.cell (World.block_lt_of_cell? w _ hx131_0)).trans hx131_0
                              replace p131 := eq_true p131
                              replace q131 := eq_true q131
                              go_wp2
                              go_roundg k2
                              case measure => have := HJ3.out; have := HK2.out; omega
                              case rel => exact ⟨(wrap64 (x12_2 + (rd l0 x45_2))), ((t128 == 0)), ((t130 == 0)), (wrap64 (x45_2 + 1)), (by first | rfl | (simp; done) | (simp [*]; done)), (by first | rfl | (simp; done) | (simp [*]; done)), (by first | rfl | (simp; done) | (simp [*]; done)), (by first | rfl | (simp; done) | (simp [*]; done)), H', ⟨by have := HJ3.out; have := HK2.out; omega⟩, ⟨by repeat (first | (with_reducible first | exact HB.out | apply below_alloc | apply pw_below_drewN | apply below_drew1) | exact HB.out)⟩⟩
                            · rw [if_neg c27] at H
                              have c27b0 : (t129 == x45_2) = false := beq_eq_false_iff_ne.mpr c27
                              have c27b1 : (t129 != x45_2) = true := bne_iff_ne.mpr c27
                              have H' := Aside0.mk H
                              clear H
                              have p131 : 0 ≤ (x45_2 : Int) := of_decide_eq_true (by first | (with_reducible assumption) | assumption)
                              have q131 : x45_2 < (l0.length : Int) := of_decide_eq_true (by first | (with_reducible assumption) | assumption)
                              obtain ⟨ad131, e131, hx131_0⟩ := Kd.at_int HR0.out x45_2 p131 q131
                              cases e131
                              replace hx131_0 := (HB.out.cell (World.block_lt_of_cell? w _ hx131_0)).trans hx131_0
                              replace p131 := eq_true p131
                              replace q131 := eq_true q131
                              go_wp2
                              go_roundg k2
                              case measure => have := HJ3.out; have := HK2.out; omega
                              case rel => exact ⟨(wrap64 (x12_2 + (rd l0 x45_2))), ((t128 == 0)), (false), (wrap64 (x45_2 + 1)), (by first | rfl | (simp; done) | (simp [*]; done)), (by first | rfl | (simp; done) | (simp [*]; done)), (by first | rfl | (simp; done) | (simp [*]; done)), (by first | rfl | (simp; done) | (simp [*]; done)), H', ⟨by have := HJ3.out; have := HK2.out; omega⟩, ⟨by repeat (first | (with_reducible first | exact HB.out | apply below_alloc | apply pw_below_drewN | apply below_drew1) | exact HB.out)⟩⟩
                          · rw [if_neg c26] at H
                            have c26b0 : decide (a2 < (wrap64 (x12_2 + (rd l0 x45_2)))) = false := decide_eq_false c26
                            clear c26
                            have H' := Aside0.mk H
                            clear H
                            have p131 : 0 ≤ (x45_2 : Int) := of_decide_eq_true (by first | (with_reducible assumption) | assumption)
                            have q131 : x45_2 < (l0.length : Int) := of_decide_eq_true (by first | (with_reducible assumption) | assumption)
                            obtain ⟨ad131, e131, hx131_0⟩ := Kd.at_int HR0.out x45_2 p131 q131
                            cases e131
                            replace hx131_0 := (HB.out.cell (World.block_lt_of_cell? w _ hx131_0)).trans hx131_0
                            replace p131 := eq_true p131
                            replace q131 := eq_true q131
                            go_wp2
                            go_roundg k2
                            case measure => have := HJ3.out; have := HK2.out; omega
                            case rel => exact ⟨(wrap64 (x12_2 + (rd l0 x45_2))), ((t128 == 0)), (x14_2), (wrap64 (x45_2 + 1)), (by first | rfl | (simp; done) | (simp [*]; done)), (by first | rfl | (simp; done) | (simp [*]; done)), (by first | rfl | (simp; done) | (simp [*]; done)), (by first | rfl | (simp; done) | (simp [*]; done)), H', ⟨by have := HJ3.out; have := HK2.out; omega⟩, ⟨by repeat (first | (with_reducible first | exact HB.out | apply below_alloc | apply pw_below_drewN | apply below_drew1) | exact HB.out)⟩⟩
                        · rw [if_neg c25] at H
                          have c25b0 : decide (x12_2 ≤ a2) = false := decide_eq_false c25
                          clear c25
                          have H' := Aside0.mk H
                          clear H
                          have p131 : 0 ≤ (x45_2 : Int) := of_decide_eq_true (by first | (with_reducible assumption) | assumption)
                          have q131 : x45_2 < (l0.length : Int) := of_decide_eq_true (by first | (with_reducible assumption) | assumption)
                          obtain ⟨ad131, e131, hx131_0⟩ := Kd.at_int HR0.out x45_2 p131 q131
                          cases e131
                          replace hx131_0 := (HB.out.cell (World.block_lt_of_cell? w _ hx131_0)).trans hx131_0
                          replace p131 := eq_true p131
                          replace q131 := eq_true q131
                          go_wp2
                          go_roundg k2
                          case measure => have := HJ3.out; have := HK2.out; omega
                          case rel => exact ⟨(wrap64 (x12_2 + (rd l0 x45_2))), ((t128 == 0)), (x14_2), (wrap64 (x45_2 + 1)), (by first | rfl | (simp; done) | (simp [*]; done)), (by first | rfl | (simp; done) | (simp [*]; done)), (by first | rfl | (simp; done) | (simp [*]; done)), (by first | rfl | (simp; done) | (simp [*]; done)), H', ⟨by have := HJ3.out; have := HK2.out; omega⟩, ⟨by repeat (first | (with_reducible first | exact HB.out | apply below_alloc | apply pw_below_drewN | apply below_drew1) | exact HB.out)⟩⟩
                      · rw [if_neg c24] at H
                        have c24b0 : (t127 == (wrap64 (x12_2 + (rd l0 x45_2)))) = false := beq_eq_false_iff_ne.mpr c24
                        have c24b1 : (t127 != (wrap64 (x12_2 + (rd l0 x45_2)))) = true := bne_iff_ne.mpr c24
                        by_cases c28 : a2 ≥ x12_2
                        · rw [if_pos c28] at H
                          have c28b0 : decide (x12_2 ≤ a2) = true := decide_eq_true c28
                          clear c28
                          by_cases c29 : a2 < (wrap64 (x12_2 + (rd l0 x45_2)))
                          · rw [if_pos c29] at H
                            have c29b0 : decide (a2 < (wrap64 (x12_2 + (rd l0 x45_2)))) = true := decide_eq_true c29
                            clear c29
                            by_cases c30 : t129 = x45_2
                            · rw [if_pos c30] at H
                              have c30b0 : (t129 == x45_2) = true := beq_iff_eq.mpr c30
                              have c30b1 : (t129 != x45_2) = false := bne_eq_false_iff_eq.mpr c30
                              clear c30
                              have H' := Aside0.mk H
                              clear H
                              have p131 : 0 ≤ (x45_2 : Int) := of_decide_eq_true (by first | (with_reducible assumption) | assumption)
                              have q131 : x45_2 < (l0.length : Int) := of_decide_eq_true (by first | (with_reducible assumption) | assumption)
                              obtain ⟨ad131, e131, hx131_0⟩ := Kd.at_int HR0.out x45_2 p131 q131
                              cases e131
                              replace hx131_0 := (HB.out.cell (World.block_lt_of_cell? w _ hx131_0)).trans hx131_0
                              replace p131 := eq_true p131
                              replace q131 := eq_true q131
                              go_wp2
                              go_roundg k2
                              case measure => have := HJ3.out; have := HK2.out; omega
                              case rel => exact ⟨(wrap64 (x12_2 + (rd l0 x45_2))), (false), ((t130 == 0)), (wrap64 (x45_2 + 1)), (by first | rfl | (simp; done) | (simp [*]; done)), (by first | rfl | (simp; done) | (simp [*]; done)), (by first | rfl | (simp; done) | (simp [*]; done)), (by first | rfl | (simp; done) | (simp [*]; done)), H', ⟨by have := HJ3.out; have := HK2.out; omega⟩, ⟨by repeat (first | (with_reducible first | exact HB.out | apply below_alloc | apply pw_below_drewN | apply below_drew1) | exact HB.out)⟩⟩
                            · rw [if_neg c30] at H
                              have c30b0 : (t129 == x45_2) = false := beq_eq_false_iff_ne.mpr c30
                              have c30b1 : (t129 != x45_2) = true := bne_iff_ne.mpr c30
                              have H' := Aside0.mk H
                              clear H
                              have p131 : 0 ≤ (x45_2 : Int) := of_decide_eq_true (by first | (with_reducible assumption) | assumption)
                              have q131 : x45_2 < (l0.length : Int) := of_decide_eq_true (by first | (with_reducible assumption) | assumption)
                              obtain ⟨ad131, e131, hx131_0⟩ := Kd.at_int HR0.out x45_2 p131 q131
                              cases e131
                              replace hx131_0 := (HB.out.cell (World.block_lt_of_cell? w _ hx131_0)).trans hx131_0
                              replace p131 := eq_true p131
                              replace q131 := eq_true q131
                              go_wp2
                              go_roundg k2
                              case measure => have := HJ3.out; have := HK2.out; omega
                              case rel => exact ⟨(wrap64 (x12_2 + (rd l0 x45_2))), (false), (false), (wrap64 (x45_2 + 1)), (by first | rfl | (simp; done) | (simp [*]; done)), (by first | rfl | (simp; done) | (simp [*]; done)), (by first | rfl | (simp; done) | (simp [*]; done)), (by first | rfl | (simp; done) | (simp [*]; done)), H', ⟨by have := HJ3.out; have := HK2.out; omega⟩, ⟨by repeat (first | (with_reducible first | exact HB.out | apply below_alloc | apply pw_below_drewN | apply below_drew1) | exact HB.out)⟩⟩
                          · rw [if_neg c29] at H
                            have c29b0 : decide (a2 < (wrap64 (x12_2 + (rd l0 x45_2)))) = false := decide_eq_false c29
                            clear c29
                            have H' := Aside0.mk H
                            clear H
                            have p131 : 0 ≤ (x45_2 : Int) := of_decide_eq_true (by first | (with_reducible assumption) | assumption)
                            have q131 : x45_2 < (l0.length : Int) := of_decide_eq_true (by first | (with_reducible assumption) | assumption)
                            obtain ⟨ad131, e131, hx131_0⟩ := Kd.at_int HR0.out x45_2 p131 q131
                            cases e131
                            replace hx131_0 := (HB.out.cell (World.block_lt_of_cell? w _ hx131_0)).trans hx131_0
                            replace p131 := eq_true p131
                            replace q131 := eq_true q131
                            go_wp2
                            go_roundg k2
                            case measure => have := HJ3.out; have := HK2.out; omega
                            case rel => exact ⟨(wrap64 (x12_2 + (rd l0 x45_2))), (false), (x14_2), (wrap64 (x45_2 + 1)), (by first | rfl | (simp; done) | (simp [*]; done)), (by first | rfl | (simp; done) | (simp [*]; done)), (by first | rfl | (simp; done) | (simp [*]; done)), (by first | rfl | (simp; done) | (simp [*]; done)), H', ⟨by have := HJ3.out; have := HK2.out; omega⟩, ⟨by repeat (first | (with_reducible first | exact HB.out | apply below_alloc | apply pw_below_drewN | apply below_drew1) | exact HB.out)⟩⟩
                        · rw [if_neg c28] at H
                          have c28b0 : decide (x12_2 ≤ a2) = false := decide_eq_false c28
                          clear c28
                          have H' := Aside0.mk H
                          clear H
                          have p131 : 0 ≤ (x45_2 : Int) := of_decide_eq_true (by first | (with_reducible assumption) | assumption)
                          have q131 : x45_2 < (l0.length : Int) := of_decide_eq_true (by first | (with_reducible assumption) | assumption)
                          obtain ⟨ad131, e131, hx131_0⟩ := Kd.at_int HR0.out x45_2 p131 q131
                          cases e131
                          replace hx131_0 := (HB.out.cell (World.block_lt_of_cell? w _ hx131_0)).trans hx131_0
                          replace p131 := eq_true p131
                          replace q131 := eq_true q131
                          go_wp2
                          go_roundg k2
                          case measure => have := HJ3.out; have := HK2.out; omega
                          case rel => exact ⟨(wrap64 (x12_2 + (rd l0 x45_2))), (false), (x14_2), (wrap64 (x45_2 + 1)), (by first | rfl | (simp; done) | (simp [*]; done)), (by first | rfl | (simp; done) | (simp [*]; done)), (by first | rfl | (simp; done) | (simp [*]; done)), (by first | rfl | (simp; done) | (simp [*]; done)), H', ⟨by have := HJ3.out; have := HK2.out; omega⟩, ⟨by repeat (first | (with_reducible first | exact HB.out | apply below_alloc | apply pw_below_drewN | apply below_drew1) | exact HB.out)⟩⟩
                    · rw [if_neg c23] at H
                      have c23b0 : (t126 == x12_2) = false := beq_eq_false_iff_ne.mpr c23
                      have c23b1 : (t126 != x12_2) = true := bne_iff_ne.mpr c23
                      by_cases c31 : a2 ≥ x12_2
                      · rw [if_pos c31] at H
                        have c31b0 : decide (x12_2 ≤ a2) = true := decide_eq_true c31
                        clear c31
                        by_cases c32 : a2 < (wrap64 (x12_2 + (rd l0 x45_2)))
                        · rw [if_pos c32] at H
                          have c32b0 : decide (a2 < (wrap64 (x12_2 + (rd l0 x45_2)))) = true := decide_eq_true c32
                          clear c32
                          by_cases c33 : t129 = x45_2
                          · rw [if_pos c33] at H
                            have c33b0 : (t129 == x45_2) = true := beq_iff_eq.mpr c33
                            have c33b1 : (t129 != x45_2) = false := bne_eq_false_iff_eq.mpr c33
                            clear c33
                            have H' := Aside0.mk H
                            clear H
                            have p131 : 0 ≤ (x45_2 : Int) := of_decide_eq_true (by first | (with_reducible assumption) | assumption)
                            have q131 : x45_2 < (l0.length : Int) := of_decide_eq_true (by first | (with_reducible assumption) | assumption)
                            obtain ⟨ad131, e131, hx131_0⟩ := Kd.at_int HR0.out x45_2 p131 q131
                            cases e131
                            replace hx131_0 := (HB.out.cell (World.block_lt_of_cell? w _ hx131_0)).trans hx131_0
                            replace p131 := eq_true p131
                            replace q131 := eq_true q131
                            go_wp2
                            go_roundg k2
                            case measure => have := HJ3.out; have := HK2.out; omega
                            case rel => exact ⟨(wrap64 (x12_2 + (rd l0 x45_2))), (false), ((t130 == 0)), (wrap64 (x45_2 + 1)), (by first | rfl | (simp; done) | (simp [*]; done)), (by first | rfl | (simp; done) | (simp [*]; done)), (by first | rfl | (simp; done) | (simp [*]; done)), (by first | rfl | (simp; done) | (simp [*]; done)), H', ⟨by have := HJ3.out; have := HK2.out; omega⟩, ⟨by repeat (first | (with_reducible first | exact HB.out | apply below_alloc | apply pw_below_drewN | apply below_drew1) | exact HB.out)⟩⟩
                          · rw [if_neg c33] at H
                            have c33b0 : (t129 == x45_2) = false := beq_eq_false_iff_ne.mpr c33
                            have c33b1 : (t129 != x45_2) = true := bne_iff_ne.mpr c33
                            have H' := Aside0.mk H
                            clear H
                            have p131 : 0 ≤ (x45_2 : Int) := of_decide_eq_true (by first | (with_reducible assumption) | assumption)
                            have q131 : x45_2 < (l0.length : Int) := of_decide_eq_true (by first | (with_reducible assumption) | assumption)
                            obtain ⟨ad131, e131, hx131_0⟩ := Kd.at_int HR0.out x45_2 p131 q131
                            cases e131
                            replace hx131_0 := (HB.out.cell (World.block_lt_of_cell? w _ hx131_0)).trans hx131_0
                            replace p131 := eq_true p131
                            replace q131 := eq_true q131
                            go_wp2
                            go_roundg k2
                            case measure => have := HJ3.out; have := HK2.out; omega
                            case rel => exact ⟨(wrap64 (x12_2 + (rd l0 x45_2))), (false), (false), (wrap64 (x45_2 + 1)), (by first | rfl | (simp; done) | (simp [*]; done)), (by first | rfl | (simp; done) | (simp [*]; done)), (by first | rfl | (simp; done) | (simp [*]; done)), (by first | rfl | (simp; done) | (simp [*]; done)), H', ⟨by have := HJ3.out; have := HK2.out; omega⟩, ⟨by repeat (first | (with_reducible first | exact HB.out | apply below_alloc | apply pw_below_drewN | apply below_drew1) | exact HB.out)⟩⟩
                        · rw [if_neg c32] at H
                          have c32b0 : decide (a2 < (wrap64 (x12_2 + (rd l0 x45_2)))) = false := decide_eq_false c32
                          clear c32
                          have H' := Aside0.mk H
                          clear H
                          have p131 : 0 ≤ (x45_2 : Int) := of_decide_eq_true (by first | (with_reducible assumption) | assumption)
                          have q131 : x45_2 < (l0.length : Int) := of_decide_eq_true (by first | (with_reducible assumption) | assumption)
                          obtain ⟨ad131, e131, hx131_0⟩ := Kd.at_int HR0.out x45_2 p131 q131
                          cases e131
                          replace hx131_0 := (HB.out.cell (World.block_lt_of_cell? w _ hx131_0)).trans hx131_0
                          replace p131 := eq_true p131
                          replace q131 := eq_true q131
                          go_wp2
                          go_roundg k2
                          case measure => have := HJ3.out; have := HK2.out; omega
                          case rel => exact ⟨(wrap64 (x12_2 + (rd l0 x45_2))), (false), (x14_2), (wrap64 (x45_2 + 1)), (by first | rfl | (simp; done) | (simp [*]; done)), (by first | rfl | (simp; done) | (simp [*]; done)), (by first | rfl | (simp; done) | (simp [*]; done)), (by first | rfl | (simp; done) | (simp [*]; done)), H', ⟨by have := HJ3.out; have := HK2.out; omega⟩, ⟨by repeat (first | (with_reducible first | exact HB.out | apply below_alloc | apply pw_below_drewN | apply below_drew1) | exact HB.out)⟩⟩
                      · rw [if_neg c31] at H
                        have c31b0 : decide (x12_2 ≤ a2) = false := decide_eq_false c31
                        clear c31
                        have H' := Aside0.mk H
                        clear H
                        have p131 : 0 ≤ (x45_2 : Int) := of_decide_eq_true (by first | (with_reducible assumption) | assumption)
                        have q131 : x45_2 < (l0.length : Int) := of_decide_eq_true (by first | (with_reducible assumption) | assumption)
                        obtain ⟨ad131, e131, hx131_0⟩ := Kd.at_int HR0.out x45_2 p131 q131
                        cases e131
                        replace hx131_0 := (HB.out.cell (World.block_lt_of_cell? w _ hx131_0)).trans hx131_0
                        replace p131 := eq_true p131
                        replace q131 := eq_true q131
                        go_wp2
                        go_roundg k2
                        case measure => have := HJ3.out; have := HK2.out; omega
                        case rel => exact ⟨(wrap64 (x12_2 + (rd l0 x45_2))), (false), (x14_2), (wrap64 (x45_2 + 1)), (by first | rfl | (simp; done) | (simp [*]; done)), (by first | rfl | (simp; done) | (simp [*]; done)), (by first | rfl | (simp; done) | (simp [*]; done)), (by first | rfl | (simp; done) | (simp [*]; done)), H', ⟨by have := HJ3.out; have := HK2.out; omega⟩, ⟨by repeat (first | (with_reducible first | exact HB.out | apply below_alloc | apply pw_below_drewN | apply below_drew1) | exact HB.out)⟩⟩
                  · rw [if_neg c22] at H
                    have c22b0 : (x45_2 == a1) = false := beq_eq_false_iff_ne.mpr c22
                    have c22b1 : (x45_2 != a1) = true := bne_iff_ne.mpr c22
                    by_cases c34 : a2 ≥ x12_2
                    · rw [if_pos c34] at H
                      have c34b0 : decide (x12_2 ≤ a2) = true := decide_eq_true c34
                      clear c34
                      by_cases c35 : a2 < (wrap64 (x12_2 + (rd l0 x45_2)))
                      · rw [if_pos c35] at H
                        have c35b0 : decide (a2 < (wrap64 (x12_2 + (rd l0 x45_2)))) = true := decide_eq_true c35
                        clear c35
                        by_cases c36 : t129 = x45_2
                        · rw [if_pos c36] at H
                          have c36b0 : (t129 == x45_2) = true := beq_iff_eq.mpr c36
                          have c36b1 : (t129 != x45_2) = false := bne_eq_false_iff_eq.mpr c36
                          clear c36
                          have H' := Aside0.mk H
                          clear H
                          have p131 : 0 ≤ (x45_2 : Int) := of_decide_eq_true (by first | (with_reducible assumption) | assumption)
                          have q131 : x45_2 < (l0.length : Int) := of_decide_eq_true (by first | (with_reducible assumption) | assumption)
                          obtain ⟨ad131, e131, hx131_0⟩ := Kd.at_int HR0.out x45_2 p131 q131
                          cases e131
                          replace hx131_0 := (HB.out.cell (World.block_lt_of_cell? w _ hx131_0)).trans hx131_0
                          replace p131 := eq_true p131
                          replace q131 := eq_true q131
                          go_wp2
                          go_roundg k2
                          case measure => have := HJ3.out; have := HK2.out; omega
                          case rel => exact ⟨(wrap64 (x12_2 + (rd l0 x45_2))), (x13_2), ((t130 == 0)), (wrap64 (x45_2 + 1)), (by first | rfl | (simp; done) | (simp [*]; done)), (by first | rfl | (simp; done) | (simp [*]; done)), (by first | rfl | (simp; done) | (simp [*]; done)), (by first | rfl | (simp; done) | (simp [*]; done)), H', ⟨by have := HJ3.out; have := HK2.out; omega⟩, ⟨by repeat (first | (with_reducible first | exact HB.out | apply below_alloc | apply pw_below_drewN | apply below_drew1) | exact HB.out)⟩⟩
                        · rw [if_neg c36] at H
                          have c36b0 : (t129 == x45_2) = false := beq_eq_false_iff_ne.mpr c36
                          have c36b1 : (t129 != x45_2) = true := bne_iff_ne.mpr c36
                          have H' := Aside0.mk H
                          clear H
                          have p131 : 0 ≤ (x45_2 : Int) := of_decide_eq_true (by first | (with_reducible assumption) | assumption)
                          have q131 : x45_2 < (l0.length : Int) := of_decide_eq_true (by first | (with_reducible assumption) | assumption)
                          obtain ⟨ad131, e131, hx131_0⟩ := Kd.at_int HR0.out x45_2 p131 q131
                          cases e131
                          replace hx131_0 := (HB.out.cell (World.block_lt_of_cell? w _ hx131_0)).trans hx131_0
                          replace p131 := eq_true p131
                          replace q131 := eq_true q131
                          go_wp2
                          go_roundg k2
                          case measure => have := HJ3.out; have := HK2.out; omega
                          case rel => exact ⟨(wrap64 (x12_2 + (rd l0 x45_2))), (x13_2), (false), (wrap64 (x45_2 + 1)), (by first | rfl | (simp; done) | (simp [*]; done)), (by first | rfl | (simp; done) | (simp [*]; done)), (by first | rfl | (simp; done) | (simp [*]; done)), (by first | rfl | (simp; done) | (simp [*]; done)), H', ⟨by have := HJ3.out; have := HK2.out; omega⟩, ⟨by repeat (first | (with_reducible first | exact HB.out | apply below_alloc | apply pw_below_drewN | apply below_drew1) | exact HB.out)⟩⟩
                      · rw [if_neg c35] at H
                        have c35b0 : decide (a2 < (wrap64 (x12_2 + (rd l0 x45_2)))) = false := decide_eq_false c35
                        clear c35
                        have H' := Aside0.mk H
                        clear H
                        have p131 : 0 ≤ (x45_2 : Int) := of_decide_eq_true (by first | (with_reducible assumption) | assumption)
                        have q131 : x45_2 < (l0.length : Int) := of_decide_eq_true (by first | (with_reducible assumption) | assumption)
                        obtain ⟨ad131, e131, hx131_0⟩ := Kd.at_int HR0.out x45_2 p131 q131
                        cases e131
                        replace hx131_0 := (HB.out.cell (World.block_lt_of_cell? w _ hx131_0)).trans hx131_0
                        replace p131 := eq_true p131
                        replace q131 := eq_true q131
                        go_wp2
                        go_roundg k2
                        case measure => have := HJ3.out; have := HK2.out; omega
                        case rel => exact ⟨(wrap64 (x12_2 + (rd l0 x45_2))), (x13_2), (x14_2), (wrap64 (x45_2 + 1)), (by first | rfl | (simp; done) | (simp [*]; done)), (by first | rfl | (simp; done) | (simp [*]; done)), (by first | rfl | (simp; done) | (simp [*]; done)), (by first | rfl | (simp; done) | (simp [*]; done)), H', ⟨by have := HJ3.out; have := HK2.out; omega⟩, ⟨by repeat (first | (with_reducible first | exact HB.out | apply below_alloc | apply pw_below_drewN | apply below_drew1) | exact HB.out)⟩⟩
                    · rw [if_neg c34] at H
                      have c34b0 : decide (x12_2 ≤ a2) = false := decide_eq_false c34
                      clear c34
                      have H' := Aside0.mk H
                      clear H
                      have p131 : 0 ≤ (x45_2 : Int) := of_decide_eq_true (by first | (with_reducible assumption) | assumption)
                      have q131 : x45_2 < (l0.length : Int) := of_decide_eq_true (by first | (with_reducible assumption) | assumption)
                      obtain ⟨ad131, e131, hx131_0⟩ := Kd.at_int HR0.out x45_2 p131 q131
                      cases e131
                      replace hx131_0 := (HB.out.cell (World.block_lt_of_cell? w _ hx131_0)).trans hx131_0
                      replace p131 := eq_true p131
                      replace q131 := eq_true q131
                      go_wp2
                      go_roundg k2
                      case measure => have := HJ3.out; have := HK2.out; omega
                      case rel => exact ⟨(wrap64 (x12_2 + (rd l0 x45_2))), (x13_2), (x14_2), (wrap64 (x45_2 + 1)), (by first | rfl | (simp; done) | (simp [*]; done)), (by first | rfl | (simp; done) | (simp [*]; done)), (by first | rfl | (simp; done) | (simp [*]; done)), (by first | rfl | (simp; done) | (simp [*]; done)), H', ⟨by have := HJ3.out; have := HK2.out; omega⟩, ⟨by repeat (first | (with_reducible first | exact HB.out | apply below_alloc | apply pw_below_drewN | apply below_drew1) | exact HB.out)⟩⟩
                · rw [if_neg c21] at H
                  exact absurd H (by simp)
              · rw [if_neg c20] at H
                exact absurd H (by simp)
            · rw [if_neg c19] at H
              have c19b0 : decide (x45_2 < (l0.length : Int)) = false := decide_eq_false c19
              clear c19
              have HC37 := Aside0.mk H
              clear H
              go_upto_region 16 with (fail)
              go_cut [95] (fun v95 wc => ∃ (kq : Nat) (x95_36 : Bool), v95 = .bool x95_36 ∧ Aside0 (sackbutlaw17_LadderFinds.j2 kq a2 t126 t127 t128 t129 t130 x12_2 x13_2 x14_2 x95_36 = some r) ∧ Aside0 (kq ≤ k2) ∧ Aside0 (Below w.heap.size w wc))
              case first =>
                have H := HC37.out
                clear HC37
                by_cases c38 : a1 < 0
                · rw [if_pos c38] at H
                  have c38b0 : decide (a1 < 0) = true := decide_eq_true c38
                  clear c38
                  (first | rw [c38b0] | (simp only [i64_w, i32_w]; rw [c38b0]) | skip)
                  have H' := Aside0.mk H
                  clear H
                  go_wp2
                  go_meet
                  case rel => exact ⟨_, (true), (by first | rfl | (simp; done) | (simp [*]; done)), H', ⟨by have := HJ3.out; have := HK2.out; first | omega | exact Nat.le_refl _⟩, ⟨by repeat (first | (with_reducible first | exact HB.out | apply below_alloc | apply pw_below_drewN | apply below_drew1) | exact HB.out)⟩⟩
                · rw [if_neg c38] at H
                  have c38b0 : decide (a1 < 0) = false := decide_eq_false c38
                  clear c38
                  (first | rw [c38b0] | (simp only [i64_w, i32_w]; rw [c38b0]) | skip)
                  have H' := Aside0.mk H
                  clear H
                  go_wp2
                  go_meet
                  case rel => exact ⟨_, (decide (a1 ≥ (l0.length : Int))), (by first | rfl | (simp; done) | (simp [*]; done)), H', ⟨by have := HJ3.out; have := HK2.out; first | omega | exact Nat.le_refl _⟩, ⟨by repeat (first | (with_reducible first | exact HB.out | apply below_alloc | apply pw_below_drewN | apply below_drew1) | exact HB.out)⟩⟩
              case rest =>
                clear HC37
                try clear c1
                try clear p1
                try clear q1
                try clear hx1
                try clear c2
                try clear p2
                try clear c3
                try clear c4
                try clear c6
                try clear p6
                try clear c7
                try clear c7b0
                try clear c7b1
                try clear c8
                try clear c12
                try clear c13
                try clear p13
                try clear q13
                try clear hx13
                try clear c19
                try clear c19b0
                try clear c20
                try clear c20b0
                try clear c21
                try clear c21b0
                try clear c22
                try clear c22b0
                try clear c22b1
                try clear c23
                try clear c23b0
                try clear c23b1
                try clear c24
                try clear c24b0
                try clear c24b1
                try clear c25
                try clear c25b0
                try clear c26
                try clear c26b0
                try clear c27
                try clear c27b0
                try clear c27b1
                try clear c28
                try clear c28b0
                try clear c29
                try clear c29b0
                try clear c30
                try clear c30b0
                try clear c30b1
                try clear c31
                try clear c31b0
                try clear c32
                try clear c32b0
                try clear c33
                try clear c33b0
                try clear c33b1
                try clear c34
                try clear c34b0
                try clear c35
                try clear c35b0
                try clear c36
                try clear c36b0
                try clear c36b1
                try clear c38
                try clear c38b0
                try clear hx131_0
                try clear p131
                try clear p2
                try clear q131
                obtain ⟨kq, x95_36, rfl, HA, HJ36, HB⟩ := hcut
                cases kq with
                | zero => exact absurd HA.out (by simp [sackbutlaw17_LadderFinds.j2])
                | succ kj36 =>
                  have H := HA.out
                  clear HA
                  simp only [sackbutlaw17_LadderFinds.j2] at H
                  by_cases c39 : x95_36 = true
                  · subst c39
                    have H1 : (if t126 = 0 then (if t127 = 0 then (if a2 < 0 then (if t129 = 0 then (if t128 = 14 then (some (t130 == 14)) else (some false)) else (if t128 = 14 then (some false) else (some false))) else (if a2 ≥ x12_2 then (if t129 = 0 then (if t128 = 14 then (some (t130 == 14)) else (some false)) else (if t128 = 14 then (some false) else (some false))) else (if t128 = 14 then (some x14_2) else (some false)))) else (if a2 < 0 then (if t129 = 0 then (some false) else (some false)) else (if a2 ≥ x12_2 then (if t129 = 0 then (some false) else (some false)) else (some false)))) else (if a2 < 0 then (if t129 = 0 then (some false) else (some false)) else (if a2 ≥ x12_2 then (if t129 = 0 then (some false) else (some false)) else (some false)))) = some r := by rw [if_pos rfl] at H; exact H
                    clear H
                    have H := H1
                    clear H1
                    by_cases c40 : t126 = 0
                    · rw [if_pos c40] at H
                      have c40b0 : (t126 == 0) = true := beq_iff_eq.mpr c40
                      have c40b1 : (t126 != 0) = false := bne_eq_false_iff_eq.mpr c40
                      clear c40
                      by_cases c41 : t127 = 0
                      · rw [if_pos c41] at H
                        have c41b0 : (t127 == 0) = true := beq_iff_eq.mpr c41
                        have c41b1 : (t127 != 0) = false := bne_eq_false_iff_eq.mpr c41
                        clear c41
                        by_cases c42 : a2 < 0
                        · rw [if_pos c42] at H
                          have c42b0 : decide (a2 < 0) = true := decide_eq_true c42
                          clear c42
                          by_cases c43 : t129 = 0
                          · rw [if_pos c43] at H
                            have c43b0 : (t129 == 0) = true := beq_iff_eq.mpr c43
                            have c43b1 : (t129 != 0) = false := bne_eq_false_iff_eq.mpr c43
                            clear c43
                            by_cases c44 : t128 = 14
                            · rw [if_pos c44] at H
                              have c44b0 : (t128 == 14) = true := beq_iff_eq.mpr c44
                              have c44b1 : (t128 != 14) = false := bne_eq_false_iff_eq.mpr c44
                              clear c44
                              obtain rfl := Option.some.inj H
                              go_wp2
                              go_ret
                              exact ⟨by first | rfl | (simp [errW_none, errW_some] <;> rfl) | (simp [*, errW_none, errW_some] <;> rfl), by repeat (first | (with_reducible first | exact HB.out | apply below_alloc | apply pw_below_drewN | apply below_drew1) | exact HB.out)⟩
                            · rw [if_neg c44] at H
                              have c44b0 : (t128 == 14) = false := beq_eq_false_iff_ne.mpr c44
                              have c44b1 : (t128 != 14) = true := bne_iff_ne.mpr c44
                              obtain rfl := Option.some.inj H
                              go_wp2
                              go_ret
                              exact ⟨by first | rfl | (simp [errW_none, errW_some] <;> rfl) | (simp [*, errW_none, errW_some] <;> rfl), by repeat (first | (with_reducible first | exact HB.out | apply below_alloc | apply pw_below_drewN | apply below_drew1) | exact HB.out)⟩
                          · rw [if_neg c43] at H
                            have c43b0 : (t129 == 0) = false := beq_eq_false_iff_ne.mpr c43
                            have c43b1 : (t129 != 0) = true := bne_iff_ne.mpr c43
                            by_cases c45 : t128 = 14
                            · rw [if_pos c45] at H
                              have c45b0 : (t128 == 14) = true := beq_iff_eq.mpr c45
                              have c45b1 : (t128 != 14) = false := bne_eq_false_iff_eq.mpr c45
                              clear c45
                              obtain rfl := Option.some.inj H
                              go_wp2
                              go_ret
                              exact ⟨by first | rfl | (simp [errW_none, errW_some] <;> rfl) | (simp [*, errW_none, errW_some] <;> rfl), by repeat (first | (with_reducible first | exact HB.out | apply below_alloc | apply pw_below_drewN | apply below_drew1) | exact HB.out)⟩
                            · rw [if_neg c45] at H
                              have c45b0 : (t128 == 14) = false := beq_eq_false_iff_ne.mpr c45
                              have c45b1 : (t128 != 14) = true := bne_iff_ne.mpr c45
                              obtain rfl := Option.some.inj H
                              go_wp2
                              go_ret
                              exact ⟨by first | rfl | (simp [errW_none, errW_some] <;> rfl) | (simp [*, errW_none, errW_some] <;> rfl), by repeat (first | (with_reducible first | exact HB.out | apply below_alloc | apply pw_below_drewN | apply below_drew1) | exact HB.out)⟩
                        · rw [if_neg c42] at H
                          have c42b0 : decide (a2 < 0) = false := decide_eq_false c42
                          clear c42
                          by_cases c46 : a2 ≥ x12_2
                          · rw [if_pos c46] at H
                            have c46b0 : decide (x12_2 ≤ a2) = true := decide_eq_true c46
                            clear c46
                            by_cases c47 : t129 = 0
                            · rw [if_pos c47] at H
                              have c47b0 : (t129 == 0) = true := beq_iff_eq.mpr c47
                              have c47b1 : (t129 != 0) = false := bne_eq_false_iff_eq.mpr c47
                              clear c47
                              by_cases c48 : t128 = 14
                              · rw [if_pos c48] at H
                                have c48b0 : (t128 == 14) = true := beq_iff_eq.mpr c48
                                have c48b1 : (t128 != 14) = false := bne_eq_false_iff_eq.mpr c48
                                clear c48
                                obtain rfl := Option.some.inj H
                                go_wp2
                                go_ret
                                exact ⟨by first | rfl | (simp [errW_none, errW_some] <;> rfl) | (simp [*, errW_none, errW_some] <;> rfl), by repeat (first | (with_reducible first | exact HB.out | apply below_alloc | apply pw_below_drewN | apply below_drew1) | exact HB.out)⟩
                              · rw [if_neg c48] at H
                                have c48b0 : (t128 == 14) = false := beq_eq_false_iff_ne.mpr c48
                                have c48b1 : (t128 != 14) = true := bne_iff_ne.mpr c48
                                obtain rfl := Option.some.inj H
                                go_wp2
                                go_ret
                                exact ⟨by first | rfl | (simp [errW_none, errW_some] <;> rfl) | (simp [*, errW_none, errW_some] <;> rfl), by repeat (first | (with_reducible first | exact HB.out | apply below_alloc | apply pw_below_drewN | apply below_drew1) | exact HB.out)⟩
                            · rw [if_neg c47] at H
                              have c47b0 : (t129 == 0) = false := beq_eq_false_iff_ne.mpr c47
                              have c47b1 : (t129 != 0) = true := bne_iff_ne.mpr c47
                              by_cases c49 : t128 = 14
                              · rw [if_pos c49] at H
                                have c49b0 : (t128 == 14) = true := beq_iff_eq.mpr c49
                                have c49b1 : (t128 != 14) = false := bne_eq_false_iff_eq.mpr c49
                                clear c49
                                obtain rfl := Option.some.inj H
                                go_wp2
                                go_ret
                                exact ⟨by first | rfl | (simp [errW_none, errW_some] <;> rfl) | (simp [*, errW_none, errW_some] <;> rfl), by repeat (first | (with_reducible first | exact HB.out | apply below_alloc | apply pw_below_drewN | apply below_drew1) | exact HB.out)⟩
                              · rw [if_neg c49] at H
                                have c49b0 : (t128 == 14) = false := beq_eq_false_iff_ne.mpr c49
                                have c49b1 : (t128 != 14) = true := bne_iff_ne.mpr c49
                                obtain rfl := Option.some.inj H
                                go_wp2
                                go_ret
                                exact ⟨by first | rfl | (simp [errW_none, errW_some] <;> rfl) | (simp [*, errW_none, errW_some] <;> rfl), by repeat (first | (with_reducible first | exact HB.out | apply below_alloc | apply pw_below_drewN | apply below_drew1) | exact HB.out)⟩
                          · rw [if_neg c46] at H
                            have c46b0 : decide (x12_2 ≤ a2) = false := decide_eq_false c46
                            clear c46
                            by_cases c50 : t128 = 14
                            · rw [if_pos c50] at H
                              have c50b0 : (t128 == 14) = true := beq_iff_eq.mpr c50
                              have c50b1 : (t128 != 14) = false := bne_eq_false_iff_eq.mpr c50
                              clear c50
                              obtain rfl := Option.some.inj H
                              go_wp2
                              go_ret
                              exact ⟨by first | rfl | (simp [errW_none, errW_some] <;> rfl) | (simp [*, errW_none, errW_some] <;> rfl), by repeat (first | (with_reducible first | exact HB.out | apply below_alloc | apply pw_below_drewN | apply below_drew1) | exact HB.out)⟩
                            · rw [if_neg c50] at H
                              have c50b0 : (t128 == 14) = false := beq_eq_false_iff_ne.mpr c50
                              have c50b1 : (t128 != 14) = true := bne_iff_ne.mpr c50
                              obtain rfl := Option.some.inj H
                              go_wp2
                              go_ret
                              exact ⟨by first | rfl | (simp [errW_none, errW_some] <;> rfl) | (simp [*, errW_none, errW_some] <;> rfl), by repeat (first | (with_reducible first | exact HB.out | apply below_alloc | apply pw_below_drewN | apply below_drew1) | exact HB.out)⟩
                      · rw [if_neg c41] at H
                        have c41b0 : (t127 == 0) = false := beq_eq_false_iff_ne.mpr c41
                        have c41b1 : (t127 != 0) = true := bne_iff_ne.mpr c41
                        by_cases c51 : a2 < 0
                        · rw [if_pos c51] at H
                          have c51b0 : decide (a2 < 0) = true := decide_eq_true c51
                          clear c51
                          by_cases c52 : t129 = 0
                          · rw [if_pos c52] at H
                            have c52b0 : (t129 == 0) = true := beq_iff_eq.mpr c52
                            have c52b1 : (t129 != 0) = false := bne_eq_false_iff_eq.mpr c52
                            clear c52
                            obtain rfl := Option.some.inj H
                            go_wp2
                            go_ret
                            exact ⟨by first | rfl | (simp [errW_none, errW_some] <;> rfl) | (simp [*, errW_none, errW_some] <;> rfl), by repeat (first | (with_reducible first | exact HB.out | apply below_alloc | apply pw_below_drewN | apply below_drew1) | exact HB.out)⟩
                          · rw [if_neg c52] at H
                            have c52b0 : (t129 == 0) = false := beq_eq_false_iff_ne.mpr c52
                            have c52b1 : (t129 != 0) = true := bne_iff_ne.mpr c52
                            obtain rfl := Option.some.inj H
                            go_wp2
                            go_ret
                            exact ⟨by first | rfl | (simp [errW_none, errW_some] <;> rfl) | (simp [*, errW_none, errW_some] <;> rfl), by repeat (first | (with_reducible first | exact HB.out | apply below_alloc | apply pw_below_drewN | apply below_drew1) | exact HB.out)⟩
                        · rw [if_neg c51] at H
                          have c51b0 : decide (a2 < 0) = false := decide_eq_false c51
                          clear c51
                          by_cases c53 : a2 ≥ x12_2
                          · rw [if_pos c53] at H
                            have c53b0 : decide (x12_2 ≤ a2) = true := decide_eq_true c53
                            clear c53
                            by_cases c54 : t129 = 0
                            · rw [if_pos c54] at H
                              have c54b0 : (t129 == 0) = true := beq_iff_eq.mpr c54
                              have c54b1 : (t129 != 0) = false := bne_eq_false_iff_eq.mpr c54
                              clear c54
                              obtain rfl := Option.some.inj H
                              go_wp2
                              go_ret
                              exact ⟨by first | rfl | (simp [errW_none, errW_some] <;> rfl) | (simp [*, errW_none, errW_some] <;> rfl), by repeat (first | (with_reducible first | exact HB.out | apply below_alloc | apply pw_below_drewN | apply below_drew1) | exact HB.out)⟩
                            · rw [if_neg c54] at H
                              have c54b0 : (t129 == 0) = false := beq_eq_false_iff_ne.mpr c54
                              have c54b1 : (t129 != 0) = true := bne_iff_ne.mpr c54
                              obtain rfl := Option.some.inj H
                              go_wp2
                              go_ret
                              exact ⟨by first | rfl | (simp [errW_none, errW_some] <;> rfl) | (simp [*, errW_none, errW_some] <;> rfl), by repeat (first | (with_reducible first | exact HB.out | apply below_alloc | apply pw_below_drewN | apply below_drew1) | exact HB.out)⟩
                          · rw [if_neg c53] at H
                            have c53b0 : decide (x12_2 ≤ a2) = false := decide_eq_false c53
                            clear c53
                            obtain rfl := Option.some.inj H
                            go_wp2
                            go_ret
                            exact ⟨by first | rfl | (simp [errW_none, errW_some] <;> rfl) | (simp [*, errW_none, errW_some] <;> rfl), by repeat (first | (with_reducible first | exact HB.out | apply below_alloc | apply pw_below_drewN | apply below_drew1) | exact HB.out)⟩
                    · rw [if_neg c40] at H
                      have c40b0 : (t126 == 0) = false := beq_eq_false_iff_ne.mpr c40
                      have c40b1 : (t126 != 0) = true := bne_iff_ne.mpr c40
                      by_cases c55 : a2 < 0
                      · rw [if_pos c55] at H
                        have c55b0 : decide (a2 < 0) = true := decide_eq_true c55
                        clear c55
                        by_cases c56 : t129 = 0
                        · rw [if_pos c56] at H
                          have c56b0 : (t129 == 0) = true := beq_iff_eq.mpr c56
                          have c56b1 : (t129 != 0) = false := bne_eq_false_iff_eq.mpr c56
                          clear c56
                          obtain rfl := Option.some.inj H
                          go_wp2
                          go_ret
                          exact ⟨by first | rfl | (simp [errW_none, errW_some] <;> rfl) | (simp [*, errW_none, errW_some] <;> rfl), by repeat (first | (with_reducible first | exact HB.out | apply below_alloc | apply pw_below_drewN | apply below_drew1) | exact HB.out)⟩
                        · rw [if_neg c56] at H
                          have c56b0 : (t129 == 0) = false := beq_eq_false_iff_ne.mpr c56
                          have c56b1 : (t129 != 0) = true := bne_iff_ne.mpr c56
                          obtain rfl := Option.some.inj H
                          go_wp2
                          go_ret
                          exact ⟨by first | rfl | (simp [errW_none, errW_some] <;> rfl) | (simp [*, errW_none, errW_some] <;> rfl), by repeat (first | (with_reducible first | exact HB.out | apply below_alloc | apply pw_below_drewN | apply below_drew1) | exact HB.out)⟩
                      · rw [if_neg c55] at H
                        have c55b0 : decide (a2 < 0) = false := decide_eq_false c55
                        clear c55
                        by_cases c57 : a2 ≥ x12_2
                        · rw [if_pos c57] at H
                          have c57b0 : decide (x12_2 ≤ a2) = true := decide_eq_true c57
                          clear c57
                          by_cases c58 : t129 = 0
                          · rw [if_pos c58] at H
                            have c58b0 : (t129 == 0) = true := beq_iff_eq.mpr c58
                            have c58b1 : (t129 != 0) = false := bne_eq_false_iff_eq.mpr c58
                            clear c58
                            obtain rfl := Option.some.inj H
                            go_wp2
                            go_ret
                            exact ⟨by first | rfl | (simp [errW_none, errW_some] <;> rfl) | (simp [*, errW_none, errW_some] <;> rfl), by repeat (first | (with_reducible first | exact HB.out | apply below_alloc | apply pw_below_drewN | apply below_drew1) | exact HB.out)⟩
                          · rw [if_neg c58] at H
                            have c58b0 : (t129 == 0) = false := beq_eq_false_iff_ne.mpr c58
                            have c58b1 : (t129 != 0) = true := bne_iff_ne.mpr c58
                            obtain rfl := Option.some.inj H
                            go_wp2
                            go_ret
                            exact ⟨by first | rfl | (simp [errW_none, errW_some] <;> rfl) | (simp [*, errW_none, errW_some] <;> rfl), by repeat (first | (with_reducible first | exact HB.out | apply below_alloc | apply pw_below_drewN | apply below_drew1) | exact HB.out)⟩
                        · rw [if_neg c57] at H
                          have c57b0 : decide (x12_2 ≤ a2) = false := decide_eq_false c57
                          clear c57
                          obtain rfl := Option.some.inj H
                          go_wp2
                          go_ret
                          exact ⟨by first | rfl | (simp [errW_none, errW_some] <;> rfl) | (simp [*, errW_none, errW_some] <;> rfl), by repeat (first | (with_reducible first | exact HB.out | apply below_alloc | apply pw_below_drewN | apply below_drew1) | exact HB.out)⟩
                  · replace c39 := Bool.eq_false_iff.mpr c39
                    subst c39
                    have H1 : (if a2 < 0 then (if t129 = 0 then (if x13_2 = true then (some (t130 == 14)) else (some false)) else (if x13_2 = true then (some false) else (some false))) else (if a2 ≥ x12_2 then (if t129 = 0 then (if x13_2 = true then (some (t130 == 14)) else (some false)) else (if x13_2 = true then (some false) else (some false))) else (if x13_2 = true then (some x14_2) else (some false)))) = some r := by rw [if_neg (show ¬ (false = true) by decide)] at H; exact H
                    clear H
                    have H := H1
                    clear H1
                    by_cases c59 : a2 < 0
                    · rw [if_pos c59] at H
                      have c59b0 : decide (a2 < 0) = true := decide_eq_true c59
                      clear c59
                      by_cases c60 : t129 = 0
                      · rw [if_pos c60] at H
                        have c60b0 : (t129 == 0) = true := beq_iff_eq.mpr c60
                        have c60b1 : (t129 != 0) = false := bne_eq_false_iff_eq.mpr c60
                        clear c60
                        by_cases c61 : x13_2 = true
                        · subst c61
                          have H1 : (some (t130 == 14)) = some r := by rw [if_pos rfl] at H; exact H
                          clear H
                          have H := H1
                          clear H1
                          obtain rfl := Option.some.inj H
                          go_wp2
                          go_ret
                          exact ⟨by first | rfl | (simp [errW_none, errW_some] <;> rfl) | (simp [*, errW_none, errW_some] <;> rfl), by repeat (first | (with_reducible first | exact HB.out | apply below_alloc | apply pw_below_drewN | apply below_drew1) | exact HB.out)⟩
                        · replace c61 := Bool.eq_false_iff.mpr c61
                          subst c61
                          have H1 : (some false) = some r := by rw [if_neg (show ¬ (false = true) by decide)] at H; exact H
                          clear H
                          have H := H1
                          clear H1
                          obtain rfl := Option.some.inj H
                          go_wp2
                          go_ret
                          exact ⟨by first | rfl | (simp [errW_none, errW_some] <;> rfl) | (simp [*, errW_none, errW_some] <;> rfl), by repeat (first | (with_reducible first | exact HB.out | apply below_alloc | apply pw_below_drewN | apply below_drew1) | exact HB.out)⟩
                      · rw [if_neg c60] at H
                        have c60b0 : (t129 == 0) = false := beq_eq_false_iff_ne.mpr c60
                        have c60b1 : (t129 != 0) = true := bne_iff_ne.mpr c60
                        by_cases c62 : x13_2 = true
                        · subst c62
                          have H1 : (some false) = some r := by rw [if_pos rfl] at H; exact H
                          clear H
                          have H := H1
                          clear H1
                          obtain rfl := Option.some.inj H
                          go_wp2
                          go_ret
                          exact ⟨by first | rfl | (simp [errW_none, errW_some] <;> rfl) | (simp [*, errW_none, errW_some] <;> rfl), by repeat (first | (with_reducible first | exact HB.out | apply below_alloc | apply pw_below_drewN | apply below_drew1) | exact HB.out)⟩
                        · replace c62 := Bool.eq_false_iff.mpr c62
                          subst c62
                          have H1 : (some false) = some r := by rw [if_neg (show ¬ (false = true) by decide)] at H; exact H
                          clear H
                          have H := H1
                          clear H1
                          obtain rfl := Option.some.inj H
                          go_wp2
                          go_ret
                          exact ⟨by first | rfl | (simp [errW_none, errW_some] <;> rfl) | (simp [*, errW_none, errW_some] <;> rfl), by repeat (first | (with_reducible first | exact HB.out | apply below_alloc | apply pw_below_drewN | apply below_drew1) | exact HB.out)⟩
                    · rw [if_neg c59] at H
                      have c59b0 : decide (a2 < 0) = false := decide_eq_false c59
                      clear c59
                      by_cases c63 : a2 ≥ x12_2
                      · rw [if_pos c63] at H
                        have c63b0 : decide (x12_2 ≤ a2) = true := decide_eq_true c63
                        clear c63
                        by_cases c64 : t129 = 0
                        · rw [if_pos c64] at H
                          have c64b0 : (t129 == 0) = true := beq_iff_eq.mpr c64
                          have c64b1 : (t129 != 0) = false := bne_eq_false_iff_eq.mpr c64
                          clear c64
                          by_cases c65 : x13_2 = true
                          · subst c65
                            have H1 : (some (t130 == 14)) = some r := by rw [if_pos rfl] at H; exact H
                            clear H
                            have H := H1
                            clear H1
                            obtain rfl := Option.some.inj H
                            go_wp2
                            go_ret
                            exact ⟨by first | rfl | (simp [errW_none, errW_some] <;> rfl) | (simp [*, errW_none, errW_some] <;> rfl), by repeat (first | (with_reducible first | exact HB.out | apply below_alloc | apply pw_below_drewN | apply below_drew1) | exact HB.out)⟩
                          · replace c65 := Bool.eq_false_iff.mpr c65
                            subst c65
                            have H1 : (some false) = some r := by rw [if_neg (show ¬ (false = true) by decide)] at H; exact H
                            clear H
                            have H := H1
                            clear H1
                            obtain rfl := Option.some.inj H
                            go_wp2
                            go_ret
                            exact ⟨by first | rfl | (simp [errW_none, errW_some] <;> rfl) | (simp [*, errW_none, errW_some] <;> rfl), by repeat (first | (with_reducible first | exact HB.out | apply below_alloc | apply pw_below_drewN | apply below_drew1) | exact HB.out)⟩
                        · rw [if_neg c64] at H
                          have c64b0 : (t129 == 0) = false := beq_eq_false_iff_ne.mpr c64
                          have c64b1 : (t129 != 0) = true := bne_iff_ne.mpr c64
                          by_cases c66 : x13_2 = true
                          · subst c66
                            have H1 : (some false) = some r := by rw [if_pos rfl] at H; exact H
                            clear H
                            have H := H1
                            clear H1
                            obtain rfl := Option.some.inj H
                            go_wp2
                            go_ret
                            exact ⟨by first | rfl | (simp [errW_none, errW_some] <;> rfl) | (simp [*, errW_none, errW_some] <;> rfl), by repeat (first | (with_reducible first | exact HB.out | apply below_alloc | apply pw_below_drewN | apply below_drew1) | exact HB.out)⟩
                          · replace c66 := Bool.eq_false_iff.mpr c66
                            subst c66
                            have H1 : (some false) = some r := by rw [if_neg (show ¬ (false = true) by decide)] at H; exact H
                            clear H
                            have H := H1
                            clear H1
                            obtain rfl := Option.some.inj H
                            go_wp2
                            go_ret
                            exact ⟨by first | rfl | (simp [errW_none, errW_some] <;> rfl) | (simp [*, errW_none, errW_some] <;> rfl), by repeat (first | (with_reducible first | exact HB.out | apply below_alloc | apply pw_below_drewN | apply below_drew1) | exact HB.out)⟩
                      · rw [if_neg c63] at H
                        have c63b0 : decide (x12_2 ≤ a2) = false := decide_eq_false c63
                        clear c63
                        by_cases c67 : x13_2 = true
                        · subst c67
                          have H1 : (some x14_2) = some r := by rw [if_pos rfl] at H; exact H
                          clear H
                          have H := H1
                          clear H1
                          obtain rfl := Option.some.inj H
                          go_wp2
                          go_ret
                          exact ⟨by first | rfl | (simp [errW_none, errW_some] <;> rfl) | (simp [*, errW_none, errW_some] <;> rfl), by repeat (first | (with_reducible first | exact HB.out | apply below_alloc | apply pw_below_drewN | apply below_drew1) | exact HB.out)⟩
                        · replace c67 := Bool.eq_false_iff.mpr c67
                          subst c67
                          have H1 : (some false) = some r := by rw [if_neg (show ¬ (false = true) by decide)] at H; exact H
                          clear H
                          have H := H1
                          clear H1
                          obtain rfl := Option.some.inj H
                          go_wp2
                          go_ret
                          exact ⟨by first | rfl | (simp [errW_none, errW_some] <;> rfl) | (simp [*, errW_none, errW_some] <;> rfl), by repeat (first | (with_reducible first | exact HB.out | apply below_alloc | apply pw_below_drewN | apply below_drew1) | exact HB.out)⟩

/-- THE ONE PURE STATEMENT of sackbutlaw17_LadderFinds: yours. -/
def sackbutlaw17_LadderFinds.Pure : Prop := ∀ (l0 : List Int) (a1 : Int) (a2 : Int), l0.length ≤ maxLen → l0.length * 8 ≤ 140737488351232 → (∀ x ∈ l0, (Lit.int .i64 x).wf = true) → (Lit.int .i64 a1).wf = true → (Lit.int .i64 a2).wf = true → ∃ k, sackbutlaw17_LadderFinds.f k l0 a1 a2 = some true
theorem sackbutlaw17_LadderFinds.walk (P : sackbutlaw17_LadderFinds.Pure) (a0 : Option Addr) (len0 cap0 : Nat) (z0 : List Int) (a1 : Int) (a2 : Int) (w : World) (w0 : (a0 = none ∧ len0 = 0 ∧ cap0 = 0 ∧ z0 = []) ∨ ∃ x, a0 = some x ∧ len0 ≤ cap0 ∧ cap0 ≤ maxLen ∧ z0.length = cap0 ∧ (∀ i, i < z0.length → w.cell? (x.add i) = some (.int .i64 (z0.getD i 0))) ∧ ∀ n ∈ z0, (Lit.int .i64 n).wf = true) (y0 : len0 * 8 ≤ 140737488351232) (w1 : (Lit.int .i64 a1).wf = true) (w2 : (Lit.int .i64 a2).wf = true) :
    Calls Try.prog 4 #[.slice a0 len0 cap0, .int .i64 a1, .int .i64 a2] w fun e w' => e = .returned (.bool true) ∧ Below w.heap.size w w' := by
  obtain ⟨l0, rfl, hr0, hm0, hw0, hc0⟩ := ReadsInt.ofRowC w0
  obtain ⟨k, h⟩ := P l0 a1 a2 hm0 y0 hw0 w1 w2
  refine (sackbutlaw17_LadderFinds.calls k _ _ l0 a1 a2 true w (Kd.C_of_reads (d := (0 : Int)) (h1 := fun _ => rfl) hr0) hc0 h).mono ?_
  rintro e w' ⟨rfl, hd⟩
  exact ⟨rfl, hd⟩

end Go.Proofs.Ytlbhcbfdiojbhaa.HL
