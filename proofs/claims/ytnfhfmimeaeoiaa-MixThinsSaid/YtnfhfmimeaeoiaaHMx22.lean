/- What the Go functions come to, as plain Lean functions, and that their calls do just that: written by this project's own program (hp.sh); conditions: those of each theorem. -/
import Derived.Test.YtnfhfmimeaeoiaaHMx0
import Derived.Test.YtnfhfmimeaeoiaaHMx9
import Derived.Test.YtnfhfmimeaeoiaaHMx18
import Derived.Test.YtnfhfmimeaeoiaaHMx19
import Derived.Test.YtnfhfmimeaeoiaaHMx21
namespace Go.Proofs.Ytnfhfmimeaeoiaa.HM
open Go.RowKit Go.Proofs.YtnfhfmimeaeoiaaW.PrintWords Go.Proofs.YtnfhfmimeaeoiaaW.PrintLast Go.Proofs.YtnfhfmimeaeoiaaW.PrintMore
attribute [local go_sem] max2_int min2_int max_two min_two max_three min_three max_four min_four   -- for this text's walks alone
set_option linter.unusedVariables false
set_option linter.unusedSimpArgs false

/-! ### sackbutlaw22_MixThins: function 8 -/
mutual
def sackbutlaw22_MixThins.j0 : Nat → List Int → Int → Bool → Option (Bool)
  | 0, _, _, _ => none
  | k + 1, x0, x1, x21 => if x21 = true then ((sackbutlaw22_awake.f k).bind fun t226 => (some t226)) else ((mix_Thin.f k x0 x1).bind fun bt227 => ((sackbutref22_Thin.f k x0 x1).bind fun bt231 => (if bt227.2 = bt231.2 then ((sackbutref01_Same.f k bt227.1 bt231.1).bind fun t235 => (sackbutlaw22_MixThins.j1 k x0 x1 bt231.2 (!t235))) else (sackbutlaw22_MixThins.j1 k x0 x1 bt231.2 true))))
def sackbutlaw22_MixThins.j1 : Nat → List Int → Int → Int → Bool → Option (Bool)
  | 0, _, _, _, _ => none
  | k + 1, x0, x1, x8, x43 => if x43 = true then (some false) else ((mix_Thick.f k x0 x1).bind fun bt236 => (if x8 = 0 then (sackbutlaw22_MixThins.j2 k x0 x1 bt236.1 bt236.2 (decide ((wrap64 ((x0.length : Int) * x1)) > 65536))) else (sackbutlaw22_MixThins.j2 k x0 x1 bt236.1 bt236.2 true)))
def sackbutlaw22_MixThins.j2 : Nat → List Int → Int → List Int → Int → Bool → Option (Bool)
  | 0, _, _, _, _, _ => none
  | k + 1, x0, x1, x9, x10, x58 => if x58 = true then (if x10 = 0 then (some false) else (some ((x9.length : Int) == 0))) else (sackbutlaw22_MixThins.l0 k x0 x1 x9 x10 x9 (x9.length : Int) 0)
def sackbutlaw22_MixThins.l0 : Nat → List Int → Int → List Int → Int → List Int → Int → Int → Option (Bool)
  | 0, _, _, _, _, _, _, _ => none
  | k + 1, x0, x1, x9, x10, x66, x67, x68 => if x68 < x67 then (if 0 ≤ x68 then (if x68 < (x66.length : Int) then (if x1 = 0 then (none) else (if (wrap64 (Int.tdiv x68 x1)) ≥ (x0.length : Int) then (some false) else (if 0 ≤ (wrap64 (Int.tdiv x68 x1)) then (if (wrap64 (Int.tdiv x68 x1)) < (x0.length : Int) then (if (rd x66 x68) = (rd x0 (wrap64 (Int.tdiv x68 x1))) then (sackbutlaw22_MixThins.l0 k x0 x1 x9 x10 x66 x67 (wrap64 (x68 + 1))) else (some false)) else (none)) else (none)))) else (none)) else (none)) else ((mix_Thin.f k x9 x1).bind fun bt242 => (if x10 = 0 then (if (x9.length : Int) = (wrap64 ((x0.length : Int) * x1)) then (if bt242.2 = 0 then ((sackbutref01_Same.f k bt242.1 x0).bind fun t246 => (some t246)) else (some false)) else (some false)) else (some false)))
end
def sackbutlaw22_MixThins.f (k : Nat) (l0 : List Int) (a1 : Int) : Option (Bool) := (sackbutlaw22_awake.f k).bind fun t225 => (if t225 = true then (sackbutlaw22_MixThins.j0 k l0 a1 (decide ((l0.length : Int) > 60))) else (sackbutlaw22_MixThins.j0 k l0 a1 true))
theorem sackbutlaw22_MixThins.mono_l : ∀ k, (∀ y0 y1 y2, LeO (sackbutlaw22_MixThins.j0 k y0 y1 y2) (sackbutlaw22_MixThins.j0 (k + 1) y0 y1 y2)) ∧ (∀ y0 y1 y2 y3, LeO (sackbutlaw22_MixThins.j1 k y0 y1 y2 y3) (sackbutlaw22_MixThins.j1 (k + 1) y0 y1 y2 y3)) ∧ (∀ y0 y1 y2 y3 y4, LeO (sackbutlaw22_MixThins.j2 k y0 y1 y2 y3 y4) (sackbutlaw22_MixThins.j2 (k + 1) y0 y1 y2 y3 y4)) ∧ (∀ y0 y1 y2 y3 y4 y5 y6, LeO (sackbutlaw22_MixThins.l0 k y0 y1 y2 y3 y4 y5 y6) (sackbutlaw22_MixThins.l0 (k + 1) y0 y1 y2 y3 y4 y5 y6))
  | 0 => ⟨fun _ _ _ r h => by simp [sackbutlaw22_MixThins.j0] at h, fun _ _ _ _ r h => by simp [sackbutlaw22_MixThins.j1] at h, fun _ _ _ _ _ r h => by simp [sackbutlaw22_MixThins.j2] at h, fun _ _ _ _ _ _ _ r h => by simp [sackbutlaw22_MixThins.l0] at h⟩
  | k + 1 => by
    obtain ⟨ih0, ih1, ih2, ih3⟩ := sackbutlaw22_MixThins.mono_l k
    refine ⟨?_, ?_, ?_, ?_⟩
    · intro y0 y1 y2
      unfold sackbutlaw22_MixThins.j0
      repeat' first
      | (with_reducible exact ih0 _ _ _)
      | (with_reducible exact ih1 _ _ _ _)
      | (with_reducible exact ih2 _ _ _ _ _)
      | (with_reducible exact ih3 _ _ _ _ _ _ _)
      | (with_reducible exact mix_Thick.mono _ _ _)
      | (with_reducible exact mix_Thin.mono _ _ _)
      | (with_reducible exact sackbutlaw22_awake.mono _)
      | (with_reducible exact sackbutref01_Same.mono _ _ _)
      | (with_reducible exact sackbutref22_Thin.mono _ _ _)
      | (with_reducible exact LeO.refl _)
      | (with_reducible exact LeO.none _)
      | (with_reducible refine LeO.ite ?_ ?_)
      | (with_reducible refine LeO.bind ?_ (fun _ => ?_))
      | exact ih0 _ _ _
      | exact ih1 _ _ _ _
      | exact ih2 _ _ _ _ _
      | exact ih3 _ _ _ _ _ _ _
      | exact mix_Thick.mono _ _ _
      | exact mix_Thin.mono _ _ _
      | exact sackbutlaw22_awake.mono _
      | exact sackbutref01_Same.mono _ _ _
      | exact sackbutref22_Thin.mono _ _ _
      | exact LeO.none _
      | refine LeO.ite ?_ ?_
      | refine LeO.bind ?_ (fun _ => ?_)
    · intro y0 y1 y2 y3
      unfold sackbutlaw22_MixThins.j1
      repeat' first
      | (with_reducible exact ih0 _ _ _)
      | (with_reducible exact ih1 _ _ _ _)
      | (with_reducible exact ih2 _ _ _ _ _)
      | (with_reducible exact ih3 _ _ _ _ _ _ _)
      | (with_reducible exact mix_Thick.mono _ _ _)
      | (with_reducible exact mix_Thin.mono _ _ _)
      | (with_reducible exact sackbutlaw22_awake.mono _)
      | (with_reducible exact sackbutref01_Same.mono _ _ _)
      | (with_reducible exact sackbutref22_Thin.mono _ _ _)
      | (with_reducible exact LeO.refl _)
      | (with_reducible exact LeO.none _)
      | (with_reducible refine LeO.ite ?_ ?_)
      | (with_reducible refine LeO.bind ?_ (fun _ => ?_))
      | exact ih0 _ _ _
      | exact ih1 _ _ _ _
      | exact ih2 _ _ _ _ _
      | exact ih3 _ _ _ _ _ _ _
      | exact mix_Thick.mono _ _ _
      | exact mix_Thin.mono _ _ _
      | exact sackbutlaw22_awake.mono _
      | exact sackbutref01_Same.mono _ _ _
      | exact sackbutref22_Thin.mono _ _ _
      | exact LeO.none _
      | refine LeO.ite ?_ ?_
      | refine LeO.bind ?_ (fun _ => ?_)
    · intro y0 y1 y2 y3 y4
      unfold sackbutlaw22_MixThins.j2
      repeat' first
      | (with_reducible exact ih0 _ _ _)
      | (with_reducible exact ih1 _ _ _ _)
      | (with_reducible exact ih2 _ _ _ _ _)
      | (with_reducible exact ih3 _ _ _ _ _ _ _)
      | (with_reducible exact mix_Thick.mono _ _ _)
      | (with_reducible exact mix_Thin.mono _ _ _)
      | (with_reducible exact sackbutlaw22_awake.mono _)
      | (with_reducible exact sackbutref01_Same.mono _ _ _)
      | (with_reducible exact sackbutref22_Thin.mono _ _ _)
      | (with_reducible exact LeO.refl _)
      | (with_reducible exact LeO.none _)
      | (with_reducible refine LeO.ite ?_ ?_)
      | (with_reducible refine LeO.bind ?_ (fun _ => ?_))
      | exact ih0 _ _ _
      | exact ih1 _ _ _ _
      | exact ih2 _ _ _ _ _
      | exact ih3 _ _ _ _ _ _ _
      | exact mix_Thick.mono _ _ _
      | exact mix_Thin.mono _ _ _
      | exact sackbutlaw22_awake.mono _
      | exact sackbutref01_Same.mono _ _ _
      | exact sackbutref22_Thin.mono _ _ _
      | exact LeO.none _
      | refine LeO.ite ?_ ?_
      | refine LeO.bind ?_ (fun _ => ?_)
    · intro y0 y1 y2 y3 y4 y5 y6
      unfold sackbutlaw22_MixThins.l0
      repeat' first
      | (with_reducible exact ih0 _ _ _)
      | (with_reducible exact ih1 _ _ _ _)
      | (with_reducible exact ih2 _ _ _ _ _)
      | (with_reducible exact ih3 _ _ _ _ _ _ _)
      | (with_reducible exact mix_Thick.mono _ _ _)
      | (with_reducible exact mix_Thin.mono _ _ _)
      | (with_reducible exact sackbutlaw22_awake.mono _)
      | (with_reducible exact sackbutref01_Same.mono _ _ _)
      | (with_reducible exact sackbutref22_Thin.mono _ _ _)
      | (with_reducible exact LeO.refl _)
      | (with_reducible exact LeO.none _)
      | (with_reducible refine LeO.ite ?_ ?_)
      | (with_reducible refine LeO.bind ?_ (fun _ => ?_))
      | exact ih0 _ _ _
      | exact ih1 _ _ _ _
      | exact ih2 _ _ _ _ _
      | exact ih3 _ _ _ _ _ _ _
      | exact mix_Thick.mono _ _ _
      | exact mix_Thin.mono _ _ _
      | exact sackbutlaw22_awake.mono _
      | exact sackbutref01_Same.mono _ _ _
      | exact sackbutref22_Thin.mono _ _ _
      | exact LeO.none _
      | refine LeO.ite ?_ ?_
      | refine LeO.bind ?_ (fun _ => ?_)
theorem sackbutlaw22_MixThins.mono : ∀ a0 a1 k, LeO (sackbutlaw22_MixThins.f k a0 a1) (sackbutlaw22_MixThins.f (k + 1) a0 a1) := by
  intro a0 a1 k
  obtain ⟨ih0, ih1, ih2, ih3⟩ := sackbutlaw22_MixThins.mono_l k
  unfold sackbutlaw22_MixThins.f
  repeat' first
      | (with_reducible exact ih0 _ _ _)
      | (with_reducible exact ih1 _ _ _ _)
      | (with_reducible exact ih2 _ _ _ _ _)
      | (with_reducible exact ih3 _ _ _ _ _ _ _)
      | (with_reducible exact mix_Thick.mono _ _ _)
      | (with_reducible exact mix_Thin.mono _ _ _)
      | (with_reducible exact sackbutlaw22_awake.mono _)
      | (with_reducible exact sackbutref01_Same.mono _ _ _)
      | (with_reducible exact sackbutref22_Thin.mono _ _ _)
      | (with_reducible exact LeO.refl _)
      | (with_reducible exact LeO.none _)
      | (with_reducible refine LeO.ite ?_ ?_)
      | (with_reducible refine LeO.bind ?_ (fun _ => ?_))
      | exact ih0 _ _ _
      | exact ih1 _ _ _ _
      | exact ih2 _ _ _ _ _
      | exact ih3 _ _ _ _ _ _ _
      | exact mix_Thick.mono _ _ _
      | exact mix_Thin.mono _ _ _
      | exact sackbutlaw22_awake.mono _
      | exact sackbutref01_Same.mono _ _ _
      | exact sackbutref22_Thin.mono _ _ _
      | exact LeO.none _
      | refine LeO.ite ?_ ?_
      | refine LeO.bind ?_ (fun _ => ?_)
set_option maxHeartbeats 8000000 in
set_option maxRecDepth 100000 in
theorem sackbutlaw22_MixThins.calls (k : Nat) (A0 : Option Addr) (c0 : Nat) (l0 : List Int) (a1 : Int) (r : Bool) (w : World) (hr0 : Kd.C (Kd.int .i64) w A0 l0.length l0) (hc0 : l0.length ≤ c0) (h : sackbutlaw22_MixThins.f k l0 a1 = some r) :
    Calls Try.prog 8 #[.slice A0 l0.length c0, .int .i64 a1] w fun e w' => e = .returned (.bool r) ∧ Below w.heap.size w w' := by
  have HR0 := Aside0.mk hr0
  have HC0 := Aside0.mk hc0
  clear hr0 hc0
  have HB := Aside0.mk (Below.refl w.heap.size w)
  have H : ((sackbutlaw22_awake.f k).bind fun t225 => (if t225 = true then (sackbutlaw22_MixThins.j0 k l0 a1 (decide ((l0.length : Int) > 60))) else (sackbutlaw22_MixThins.j0 k l0 a1 true))) = some r := h
  clear h
  have HC3 := Aside0.mk H
  clear H
  go_enter Try.func8, Try.ntmps8
  go_upto_region 1 with (fail)
  go_cut [21] (fun v21 wc => ∃ (kq : Nat) (x21_2 : Bool), v21 = .bool x21_2 ∧ Aside0 (sackbutlaw22_MixThins.j0 kq l0 a1 x21_2 = some r) ∧ Aside0 (kq ≤ k) ∧ Aside0 (Below w.heap.size w wc))
  case first =>
    have H := HC3.out
    clear HC3
    replace H := Option.bind_eq_some_iff.mp H
    obtain ⟨t225, A40, H⟩ := H
    replace H : (if t225 = true then (sackbutlaw22_MixThins.j0 k l0 a1 (decide ((l0.length : Int) > 60))) else (sackbutlaw22_MixThins.j0 k l0 a1 true)) = some r := H
    have A4 := Aside0.mk A40
    clear A40
    by_cases c5 : t225 = true
    · subst c5
      have H1 : (sackbutlaw22_MixThins.j0 k l0 a1 (decide ((l0.length : Int) > 60))) = some r := by rw [if_pos rfl] at H; exact H
      clear H
      have H := H1
      clear H1
      have H' := Aside0.mk H
      clear H
      go_wp2_with (first | ((with_reducible refine gate_callee (f := 9) rfl ?_); refine goesL_ (some 15) rfl rfl Try.func9 (by kernel_rfl) rfl #[] rfl (by (try simp only [List.map_toArray, List.map_cons, List.map_nil]); first | done | rfl | (simp only [List.length_drop, List.length_take]; rfl)) ?_; (with_reducible refine (sackbutlaw22_awake.calls k  true _ A4.out).mono ?_); rintro e w6 ⟨rfl, hb⟩; refine ⟨_, rfl, ?_⟩; have n0_ := Aside0.mk (below_step (by repeat (first | (with_reducible first | exact HB.out | apply below_alloc | apply pw_below_drewN | apply below_drew1) | exact HB.out)) hb); clear HB; have HB := n0_; clear n0_; (try clear hb); (try clear hb2); (try clear hk); (try clear hi)))
      go_meet
      case rel => exact ⟨_, (decide ((l0.length : Int) > 60)), (by first | rfl | (simp; done) | (simp [*]; done)), H', ⟨by first | omega | exact Nat.le_refl _⟩, ⟨by repeat (first | (with_reducible first | exact HB.out | apply below_alloc | apply pw_below_drewN | apply below_drew1) | exact HB.out)⟩⟩
    · replace c5 := Bool.eq_false_iff.mpr c5
      subst c5
      have H1 : (sackbutlaw22_MixThins.j0 k l0 a1 true) = some r := by rw [if_neg (show ¬ (false = true) by decide)] at H; exact H
      clear H
      have H := H1
      clear H1
      have H' := Aside0.mk H
      clear H
      go_wp2_with (first | ((with_reducible refine gate_callee (f := 9) rfl ?_); refine goesL_ (some 15) rfl rfl Try.func9 (by kernel_rfl) rfl #[] rfl (by (try simp only [List.map_toArray, List.map_cons, List.map_nil]); first | done | rfl | (simp only [List.length_drop, List.length_take]; rfl)) ?_; (with_reducible refine (sackbutlaw22_awake.calls k  false _ A4.out).mono ?_); rintro e w7 ⟨rfl, hb⟩; refine ⟨_, rfl, ?_⟩; have n0_ := Aside0.mk (below_step (by repeat (first | (with_reducible first | exact HB.out | apply below_alloc | apply pw_below_drewN | apply below_drew1) | exact HB.out)) hb); clear HB; have HB := n0_; clear n0_; (try clear hb); (try clear hb2); (try clear hk); (try clear hi)))
      go_meet
      case rel => exact ⟨_, (true), (by first | rfl | (simp; done) | (simp [*]; done)), H', ⟨by first | omega | exact Nat.le_refl _⟩, ⟨by repeat (first | (with_reducible first | exact HB.out | apply below_alloc | apply pw_below_drewN | apply below_drew1) | exact HB.out)⟩⟩
  case rest =>
    clear HC3
    try clear p2
    try clear c5
    obtain ⟨kq, x21_2, rfl, HA, HJ2, HB⟩ := hcut
    cases kq with
    | zero => exact absurd HA.out (by simp [sackbutlaw22_MixThins.j0])
    | succ kj2 =>
      have H := HA.out
      clear HA
      simp only [sackbutlaw22_MixThins.j0] at H
      by_cases c8 : x21_2 = true
      · subst c8
        have H1 : ((sackbutlaw22_awake.f kj2).bind fun t226 => (some t226)) = some r := by rw [if_pos rfl] at H; exact H
        clear H
        have H := H1
        clear H1
        replace H := Option.bind_eq_some_iff.mp H
        obtain ⟨t226, A90, H⟩ := H
        replace H : (some t226) = some r := H
        have A9 := Aside0.mk A90
        clear A90
        obtain rfl := Option.some.inj H
        go_wp2_with (first | ((with_reducible refine gate_callee (f := 9) rfl ?_); refine goesL_ (some 22) rfl rfl Try.func9 (by kernel_rfl) rfl #[] rfl (by (try simp only [List.map_toArray, List.map_cons, List.map_nil]); first | done | rfl | (simp only [List.length_drop, List.length_take]; rfl)) ?_; (with_reducible refine (sackbutlaw22_awake.calls kj2  t226 _ A9.out).mono ?_); rintro e w10 ⟨rfl, hb⟩; refine ⟨_, rfl, ?_⟩; have n0_ := Aside0.mk (below_step (by repeat (first | (with_reducible first | exact HB.out | apply below_alloc | apply pw_below_drewN | apply below_drew1) | exact HB.out)) hb); clear HB; have HB := n0_; clear n0_; (try clear hb); (try clear hb2); (try clear hk); (try clear hi)))
        go_ret
        exact ⟨by first | rfl | (simp [errW_none, errW_some] <;> rfl) | (simp [*, errW_none, errW_some] <;> rfl), by repeat (first | (with_reducible first | exact HB.out | apply below_alloc | apply pw_below_drewN | apply below_drew1) | exact HB.out)⟩
      · replace c8 := Bool.eq_false_iff.mpr c8
        subst c8
        have H1 : ((mix_Thin.f kj2 l0 a1).bind fun bt227 => ((sackbutref22_Thin.f kj2 l0 a1).bind fun bt231 => (if bt227.2 = bt231.2 then ((sackbutref01_Same.f kj2 bt227.1 bt231.1).bind fun t235 => (sackbutlaw22_MixThins.j1 kj2 l0 a1 bt231.2 (!t235))) else (sackbutlaw22_MixThins.j1 kj2 l0 a1 bt231.2 true)))) = some r := by rw [if_neg (show ¬ (false = true) by decide)] at H; exact H
        clear H
        have H := H1
        clear H1
        replace H := Option.bind_eq_some_iff.mp H
        obtain ⟨⟨t227, t228⟩, A110, H⟩ := H
        replace H : ((sackbutref22_Thin.f kj2 l0 a1).bind fun bt231 => (if t228 = bt231.2 then ((sackbutref01_Same.f kj2 t227 bt231.1).bind fun t235 => (sackbutlaw22_MixThins.j1 kj2 l0 a1 bt231.2 (!t235))) else (sackbutlaw22_MixThins.j1 kj2 l0 a1 bt231.2 true))) = some r := H
        have A11 := Aside0.mk A110
        clear A110
        replace H := Option.bind_eq_some_iff.mp H
        obtain ⟨⟨t231, t232⟩, A120, H⟩ := H
        replace H : (if t228 = t232 then ((sackbutref01_Same.f kj2 t227 t231).bind fun t235 => (sackbutlaw22_MixThins.j1 kj2 l0 a1 t232 (!t235))) else (sackbutlaw22_MixThins.j1 kj2 l0 a1 t232 true)) = some r := H
        have A12 := Aside0.mk A120
        clear A120
        have HC13 := Aside0.mk H
        clear H
        go_upto_region 5 with (first | ((with_reducible refine gate_callee (f := 19) rfl ?_); refine goesL_ (some 26) rfl rfl Try.func19 (by kernel_rfl) rfl #[.slice A0 l0.length c0, .int .i64 a1] rfl (by (try simp only [List.map_toArray, List.map_cons, List.map_nil]); first | done | rfl | (simp only [List.length_drop, List.length_take]; rfl)) ?_; (with_reducible refine (mix_Thin.calls kj2 _ _ l0 a1 t227 t228 _ ?side1 ?side2 A11.out).mono ?_); (case side1 => repeat (first | exact (Kd.C_below HR0.out HB.out) | (with_reducible refine Kd.C_alloc ?_ _) | (with_reducible refine Kd.C_drewN ?_ _) | (with_reducible refine Kd.C_drew ?_))); (case side2 => exact HC0.out); rintro e w14 ⟨v229, rfl, ho0, hb⟩; refine ⟨_, rfl, ?_⟩; have n0_ := Aside0.mk (Kd.R_lower ho0 (below_size (by repeat (first | (with_reducible first | exact HB.out | apply below_alloc | apply pw_below_drewN | apply below_drew1) | exact HB.out)))); have n1_ := Aside0.mk (below_step (by repeat (first | (with_reducible first | exact HB.out | apply below_alloc | apply pw_below_drewN | apply below_drew1) | exact HB.out)) hb); clear HB; have HO230 := n0_; have HB := n1_; clear n0_ n1_; (try clear hb); (try clear hb2); (try clear hk); (try clear hi); (try clear ho0)) | ((with_reducible refine gate_callee (f := 20) rfl ?_); refine goesL_ (some 32) rfl rfl Try.func20 (by kernel_rfl) rfl #[.slice A0 l0.length c0, .int .i64 a1] rfl (by (try simp only [List.map_toArray, List.map_cons, List.map_nil]); first | done | rfl | (simp only [List.length_drop, List.length_take]; rfl)) ?_; (with_reducible refine (sackbutref22_Thin.calls kj2 _ _ l0 a1 t231 t232 _ ?side1 ?side2 A12.out).mono ?_); (case side1 => repeat (first | exact (Kd.C_below HR0.out HB.out) | (with_reducible refine Kd.C_alloc ?_ _) | (with_reducible refine Kd.C_drewN ?_ _) | (with_reducible refine Kd.C_drew ?_))); (case side2 => exact HC0.out); rintro e w15 ⟨v233, rfl, ho0, hb⟩; refine ⟨_, rfl, ?_⟩; have n0_ := Aside0.mk (Kd.R_elder' (by (with_reducible repeat (first | apply Kd.R_alloc | apply Kd.R_drewN | apply Kd.R_drew)); exact HO230.out) (Kd.R_base ho0) hb); have n1_ := Aside0.mk (Kd.R_lower (Kd.R_new' ho0 (Kd.R_lt (by (with_reducible repeat (first | apply Kd.R_alloc | apply Kd.R_drewN | apply Kd.R_drew)); exact HO230.out))) (below_size (by repeat (first | (with_reducible first | exact HB.out | apply below_alloc | apply pw_below_drewN | apply below_drew1) | exact HB.out)))); have n2_ := Aside0.mk (below_step (by repeat (first | (with_reducible first | exact HB.out | apply below_alloc | apply pw_below_drewN | apply below_drew1) | exact HB.out)) hb); clear HO230; clear HB; have HO230 := n0_; have HO234 := n1_; have HB := n2_; clear n0_ n1_ n2_; (try clear hb); (try clear hb2); (try clear hk); (try clear hi); (try clear ho0)))
        (try simp only [Act.put, List.setIfInBounds_toArray, List.set_cons_zero, List.set_cons_succ])
        go_cut [43] (fun v43 wc => ∃ (kq : Nat) (x43_12 : Bool), v43 = .bool x43_12 ∧ Aside0 (sackbutlaw22_MixThins.j1 kq l0 a1 t232 x43_12 = some r) ∧ Aside0 (kq ≤ kj2) ∧ Aside0 (Below w.heap.size w wc))
        case first =>
          have H := HC13.out
          clear HC13
          by_cases c16 : t228 = t232
          · rw [if_pos c16] at H
            have c16b0 : (t228 == t232) = true := beq_iff_eq.mpr c16
            have c16b1 : (t228 != t232) = false := bne_eq_false_iff_eq.mpr c16
            clear c16
            (first | rw [c16b0] | (simp only [i64_w, i32_w]; rw [c16b0]) | skip)
            replace H := Option.bind_eq_some_iff.mp H
            obtain ⟨t235, A170, H⟩ := H
            replace H : (sackbutlaw22_MixThins.j1 kj2 l0 a1 t232 (!t235)) = some r := H
            have A17 := Aside0.mk A170
            clear A170
            have H' := Aside0.mk H
            clear H
            obtain ⟨Ao18, co18, eo18⟩ := Kd.R_slice HO230.out
            subst eo18
            obtain ⟨Ao19, co19, eo19⟩ := Kd.R_slice HO234.out
            subst eo19
            go_wp2_with (first | (go_at_call 12; (with_reducible refine (sackbutref01_Same.calls kj2 _ _ t227 _ _ t231 t235 _ ?side1 ?side2 ?side3 ?side4 A17.out).mono ?_); (case side1 => repeat (first | exact (Kd.R_reads' HO230.out).2.2 | (with_reducible refine Kd.C_alloc ?_ _) | (with_reducible refine Kd.C_drewN ?_ _) | (with_reducible refine Kd.C_drew ?_))); (case side2 => exact (Kd.R_reads' HO230.out).2.1); (case side3 => repeat (first | exact (Kd.R_reads' HO234.out).2.2 | (with_reducible refine Kd.C_alloc ?_ _) | (with_reducible refine Kd.C_drewN ?_ _) | (with_reducible refine Kd.C_drew ?_))); (case side4 => exact (Kd.R_reads' HO234.out).2.1); rintro e w' ⟨rfl, ⟨nd, rfl⟩⟩))
            go_meet
            case rel => exact ⟨_, (!t235), (by first | rfl | (simp; done) | (simp [*]; done)), H', ⟨by have := HJ2.out; first | omega | exact Nat.le_refl _⟩, ⟨by repeat (first | (with_reducible first | exact HB.out | apply below_alloc | apply pw_below_drewN | apply below_drew1) | exact HB.out)⟩⟩
          · rw [if_neg c16] at H
            have c16b0 : (t228 == t232) = false := beq_eq_false_iff_ne.mpr c16
            have c16b1 : (t228 != t232) = true := bne_iff_ne.mpr c16
            (first | rw [c16b0] | (simp only [i64_w, i32_w]; rw [c16b0]) | skip)
            have H' := Aside0.mk H
            clear H
            go_wp2
            go_meet
            case rel => exact ⟨_, (true), (by first | rfl | (simp; done) | (simp [*]; done)), H', ⟨by have := HJ2.out; first | omega | exact Nat.le_refl _⟩, ⟨by repeat (first | (with_reducible first | exact HB.out | apply below_alloc | apply pw_below_drewN | apply below_drew1) | exact HB.out)⟩⟩
        case rest =>
          clear HC13
          try clear c1
          try clear c2
          try clear p2
          try clear c5
          try clear c8
          try clear c9
          try clear c16
          try clear c16b0
          try clear c16b1
          try clear c19
          try clear p2
          obtain ⟨kq, x43_12, rfl, HA, HJ12, HB⟩ := hcut
          cases kq with
          | zero => exact absurd HA.out (by simp [sackbutlaw22_MixThins.j1])
          | succ kj12 =>
            have H := HA.out
            clear HA
            simp only [sackbutlaw22_MixThins.j1] at H
            by_cases c20 : x43_12 = true
            · subst c20
              have H1 : (some false) = some r := by rw [if_pos rfl] at H; exact H
              clear H
              have H := H1
              clear H1
              obtain rfl := Option.some.inj H
              go_wp2
              go_ret
              exact ⟨by first | rfl | (simp [errW_none, errW_some] <;> rfl) | (simp [*, errW_none, errW_some] <;> rfl), by repeat (first | (with_reducible first | exact HB.out | apply below_alloc | apply pw_below_drewN | apply below_drew1) | exact HB.out)⟩
            · replace c20 := Bool.eq_false_iff.mpr c20
              subst c20
              have H1 : ((mix_Thick.f kj12 l0 a1).bind fun bt236 => (if t232 = 0 then (sackbutlaw22_MixThins.j2 kj12 l0 a1 bt236.1 bt236.2 (decide ((wrap64 ((l0.length : Int) * a1)) > 65536))) else (sackbutlaw22_MixThins.j2 kj12 l0 a1 bt236.1 bt236.2 true))) = some r := by rw [if_neg (show ¬ (false = true) by decide)] at H; exact H
              clear H
              have H := H1
              clear H1
              replace H := Option.bind_eq_some_iff.mp H
              obtain ⟨⟨t236, t237⟩, A210, H⟩ := H
              replace H : (if t232 = 0 then (sackbutlaw22_MixThins.j2 kj12 l0 a1 t236 t237 (decide ((wrap64 ((l0.length : Int) * a1)) > 65536))) else (sackbutlaw22_MixThins.j2 kj12 l0 a1 t236 t237 true)) = some r := H
              have A21 := Aside0.mk A210
              clear A210
              have HC22 := Aside0.mk H
              clear H
              go_upto_region 8 with (first | ((with_reducible refine gate_callee (f := 21) rfl ?_); refine goesL_ (some 47) rfl rfl Try.func21 (by kernel_rfl) rfl #[.slice A0 l0.length c0, .int .i64 a1] rfl (by (try simp only [List.map_toArray, List.map_cons, List.map_nil]); first | done | rfl | (simp only [List.length_drop, List.length_take]; rfl)) ?_; (with_reducible refine (mix_Thick.calls kj12 _ _ l0 a1 t236 t237 _ ?side1 ?side2 A21.out).mono ?_); (case side1 => repeat (first | exact (Kd.C_below HR0.out HB.out) | (with_reducible refine Kd.C_alloc ?_ _) | (with_reducible refine Kd.C_drewN ?_ _) | (with_reducible refine Kd.C_drew ?_))); (case side2 => exact HC0.out); rintro e w23 ⟨v238, rfl, ho0, hb⟩; refine ⟨_, rfl, ?_⟩; have n0_ := Aside0.mk (Kd.R_lower ho0 (below_size (by repeat (first | (with_reducible first | exact HB.out | apply below_alloc | apply pw_below_drewN | apply below_drew1) | exact HB.out)))); have n1_ := Aside0.mk (below_step (by repeat (first | (with_reducible first | exact HB.out | apply below_alloc | apply pw_below_drewN | apply below_drew1) | exact HB.out)) hb); clear HB; have HO239 := n0_; have HB := n1_; clear n0_ n1_; (try clear hb); (try clear hb2); (try clear hk); (try clear hi); (try clear ho0)))
              (try simp only [Act.put, List.setIfInBounds_toArray, List.set_cons_zero, List.set_cons_succ])
              go_cut [58] (fun v58 wc => ∃ (kq : Nat) (x58_21 : Bool), v58 = .bool x58_21 ∧ Aside0 (sackbutlaw22_MixThins.j2 kq l0 a1 t236 t237 x58_21 = some r) ∧ Aside0 (kq ≤ kj12) ∧ Aside0 (Kd.R (Kd.int .i64) 3 wc w.heap.size (fun _ => True) v238 t236) ∧ Aside0 (Below w.heap.size w wc))
              case first =>
                have H := HC22.out
                clear HC22
                by_cases c24 : t232 = 0
                · rw [if_pos c24] at H
                  have c24b0 : (t232 == 0) = true := beq_iff_eq.mpr c24
                  have c24b1 : (t232 != 0) = false := bne_eq_false_iff_eq.mpr c24
                  clear c24
                  (first | rw [c24b0] | (simp only [i64_w, i32_w]; rw [c24b0]) | skip)
                  have H' := Aside0.mk H
                  clear H
                  go_wp2
                  go_meet
                  case rel => exact ⟨_, (decide ((wrap64 ((l0.length : Int) * a1)) > 65536)), (by first | rfl | (simp; done) | (simp [*]; done)), H', ⟨by have := HJ2.out; have := HJ12.out; first | omega | exact Nat.le_refl _⟩, ⟨by (with_reducible repeat (first | apply Kd.R_alloc | apply Kd.R_drewN | apply Kd.R_drew)); exact HO239.out⟩, ⟨by repeat (first | (with_reducible first | exact HB.out | apply below_alloc | apply pw_below_drewN | apply below_drew1) | exact HB.out)⟩⟩
                · rw [if_neg c24] at H
                  have c24b0 : (t232 == 0) = false := beq_eq_false_iff_ne.mpr c24
                  have c24b1 : (t232 != 0) = true := bne_iff_ne.mpr c24
                  (first | rw [c24b0] | (simp only [i64_w, i32_w]; rw [c24b0]) | skip)
                  have H' := Aside0.mk H
                  clear H
                  go_wp2
                  go_meet
                  case rel => exact ⟨_, (true), (by first | rfl | (simp; done) | (simp [*]; done)), H', ⟨by have := HJ2.out; have := HJ12.out; first | omega | exact Nat.le_refl _⟩, ⟨by (with_reducible repeat (first | apply Kd.R_alloc | apply Kd.R_drewN | apply Kd.R_drew)); exact HO239.out⟩, ⟨by repeat (first | (with_reducible first | exact HB.out | apply below_alloc | apply pw_below_drewN | apply below_drew1) | exact HB.out)⟩⟩
              case rest =>
                clear HC22
                try clear c1
                try clear c2
                try clear p2
                try clear c5
                try clear p6
                try clear c8
                try clear c9
                try clear c16
                try clear c16b0
                try clear c16b1
                try clear c19
                try clear c20
                try clear c21
                try clear c24
                try clear c24b0
                try clear c24b1
                try clear p2
                obtain ⟨kq, x58_21, rfl, HA, HJ21, HO_9, HB⟩ := hcut
                cases kq with
                | zero => exact absurd HA.out (by simp [sackbutlaw22_MixThins.j2])
                | succ kj21 =>
                  have H := HA.out
                  clear HA
                  simp only [sackbutlaw22_MixThins.j2] at H
                  by_cases c25 : x58_21 = true
                  · subst c25
                    have H1 : (if t237 = 0 then (some false) else (some ((t236.length : Int) == 0))) = some r := by rw [if_pos rfl] at H; exact H
                    clear H
                    have H := H1
                    clear H1
                    by_cases c26 : t237 = 0
                    · rw [if_pos c26] at H
                      have c26b0 : (t237 == 0) = true := beq_iff_eq.mpr c26
                      have c26b1 : (t237 != 0) = false := bne_eq_false_iff_eq.mpr c26
                      clear c26
                      obtain rfl := Option.some.inj H
                      go_wp2
                      go_ret
                      exact ⟨by first | rfl | (simp [errW_none, errW_some] <;> rfl) | (simp [*, errW_none, errW_some] <;> rfl), by repeat (first | (with_reducible first | exact HB.out | apply below_alloc | apply pw_below_drewN | apply below_drew1) | exact HB.out)⟩
                    · rw [if_neg c26] at H
                      have c26b0 : (t237 == 0) = false := beq_eq_false_iff_ne.mpr c26
                      have c26b1 : (t237 != 0) = true := bne_iff_ne.mpr c26
                      obtain rfl := Option.some.inj H
                      obtain ⟨Ao27, co27, eo27⟩ := Kd.R_slice HO_9.out
                      subst eo27
                      go_wp2
                      go_ret
                      exact ⟨by first | rfl | (simp [errW_none, errW_some] <;> rfl) | (simp [*, errW_none, errW_some] <;> rfl), by repeat (first | (with_reducible first | exact HB.out | apply below_alloc | apply pw_below_drewN | apply below_drew1) | exact HB.out)⟩
                  · replace c25 := Bool.eq_false_iff.mpr c25
                    subst c25
                    have H1 : (sackbutlaw22_MixThins.l0 kj21 l0 a1 t236 t237 t236 (t236.length : Int) 0) = some r := by rw [if_neg (show ¬ (false = true) by decide)] at H; exact H
                    clear H
                    have H := H1
                    clear H1
                    have H' := Aside0.mk H
                    clear H
                    obtain ⟨Ao28, co28, eo28⟩ := Kd.R_slice HO_9.out
                    subst eo28
                    go_wp2
                    go_loopg [68] kj21 (fun kq v68 w' => ∃ (x68_4 : Int), v68 = .int .i64 x68_4 ∧ Aside0 (sackbutlaw22_MixThins.l0 kq l0 a1 t236 t237 t236 (t236.length : Int) x68_4 = some r) ∧ Aside0 (kq ≤ kj21) ∧ Aside0 (Kd.R (Kd.int .i64) 3 w' w.heap.size (fun _ => True) (.slice Ao28 t236.length co28) t236) ∧ Aside0 (Kd.R (Kd.int .i64) 3 w' w.heap.size (fun _ => True) (.slice Ao28 t236.length co28) t236) ∧ Aside0 (Below w.heap.size w w'))
                    case atStart => exact ⟨(0), (by first | rfl | (simp; done) | (simp [*]; done)), H', ⟨Nat.le_refl _⟩, ⟨by (with_reducible repeat (first | apply Kd.R_alloc | apply Kd.R_drewN | apply Kd.R_drew)); exact HO_9.out⟩, ⟨by (with_reducible repeat (first | apply Kd.R_alloc | apply Kd.R_drewN | apply Kd.R_drew)); exact HO_9.out⟩, ⟨by repeat (first | (with_reducible first | exact HB.out | apply below_alloc | apply pw_below_drewN | apply below_drew1) | exact HB.out)⟩⟩
                    case round =>
                      clear H'
                      try clear c1
                      try clear c2
                      try clear p2
                      try clear c5
                      try clear p6
                      try clear c8
                      try clear c9
                      try clear c16
                      try clear c16b0
                      try clear c16b1
                      try clear c19
                      try clear c20
                      try clear c21
                      try clear c24
                      try clear c24b0
                      try clear c24b1
                      try clear c25
                      try clear c26
                      try clear c26b0
                      try clear c26b1
                      try clear p2
                      try clear p6
                      obtain ⟨x68_4, rfl, HA, HK4, HO_9, HO_66, HB⟩ := hrel
                      cases gk with
                      | zero => exact absurd HA.out (by simp [sackbutlaw22_MixThins.l0])
                      | succ k4 =>
                        have H := HA.out
                        clear HA
                        simp only [sackbutlaw22_MixThins.l0] at H
                        by_cases c29 : x68_4 < (t236.length : Int)
                        · rw [if_pos c29] at H
                          have c29b0 : decide (x68_4 < (t236.length : Int)) = true := decide_eq_true c29
                          clear c29
                          by_cases c30 : 0 ≤ x68_4
                          · rw [if_pos c30] at H
                            have c30b0 : decide (0 ≤ x68_4) = true := decide_eq_true c30
                            clear c30
                            by_cases c31 : x68_4 < (t236.length : Int)
                            · rw [if_pos c31] at H
                              have c31b0 : decide (x68_4 < (t236.length : Int)) = true := decide_eq_true c31
                              clear c31
                              by_cases c32 : a1 = 0
                              · rw [if_pos c32] at H
                                exact absurd H (by simp)
                              · rw [if_neg c32] at H
                                have c32b0 : (a1 == 0) = false := beq_eq_false_iff_ne.mpr c32
                                have c32b1 : (a1 != 0) = true := bne_iff_ne.mpr c32
                                by_cases c33 : (wrap64 (Int.tdiv x68_4 a1)) ≥ (l0.length : Int)
                                · rw [if_pos c33] at H
                                  have c33b0 : decide ((l0.length : Int) ≤ (wrap64 (Int.tdiv x68_4 a1))) = true := decide_eq_true c33
                                  clear c33
                                  obtain rfl := Option.some.inj H
                                  have p240 : 0 ≤ (x68_4 : Int) := of_decide_eq_true (by first | (with_reducible assumption) | assumption)
                                  have q240 : x68_4 < (t236.length : Int) := of_decide_eq_true (by first | (with_reducible assumption) | assumption)
                                  obtain ⟨ad240, e240, hx240_0⟩ := Kd.at_int (Kd.R_reads' HO_66.out).2.2 x68_4 p240 q240
                                  cases e240
                                  replace p240 := eq_true p240
                                  replace q240 := eq_true q240
                                  go_wp2
                                  go_ret
                                  exact ⟨by first | rfl | (simp [errW_none, errW_some] <;> rfl) | (simp [*, errW_none, errW_some] <;> rfl), by repeat (first | (with_reducible first | exact HB.out | apply below_alloc | apply pw_below_drewN | apply below_drew1) | exact HB.out)⟩
                                · rw [if_neg c33] at H
                                  have c33b0 : decide ((l0.length : Int) ≤ (wrap64 (Int.tdiv x68_4 a1))) = false := decide_eq_false c33
                                  clear c33
                                  obtain ⟨ji34, hji34⟩ : ∃ j_ : Int, (wrap64 (Int.tdiv x68_4 a1)) = j_ := ⟨_, rfl⟩
                                  replace H : (if 0 ≤ (ji34) then (if (ji34) < (l0.length : Int) then (if (rd t236 x68_4) = (rd l0 (ji34)) then (sackbutlaw22_MixThins.l0 k4 l0 a1 t236 t237 t236 (t236.length : Int) (wrap64 (x68_4 + 1))) else (some false)) else (none)) else (none)) = some r := by first | (rw [hji34] at H; exact H) | (simp only [hji34] at H ⊢; exact H)
                                  (try rw [hji34] at c33b0)
                                  have hji34w : (IntKind.i64.wrap (Int.tdiv x68_4 a1)) = ji34 := (i64_w _).trans hji34
                                  by_cases c35 : 0 ≤ (ji34)
                                  · rw [if_pos c35] at H
                                    have c35b0 : decide (0 ≤ (ji34)) = true := decide_eq_true c35
                                    clear c35
                                    by_cases c36 : (ji34) < (l0.length : Int)
                                    · rw [if_pos c36] at H
                                      have c36b0 : decide ((ji34) < (l0.length : Int)) = true := decide_eq_true c36
                                      clear c36
                                      by_cases c37 : (rd t236 x68_4) = (rd l0 (ji34))
                                      · rw [if_pos c37] at H
                                        have c37b0 : ((rd t236 x68_4) == (rd l0 (ji34))) = true := beq_iff_eq.mpr c37
                                        have c37b1 : ((rd t236 x68_4) != (rd l0 (ji34))) = false := bne_eq_false_iff_eq.mpr c37
                                        clear c37
                                        have H' := Aside0.mk H
                                        clear H
                                        have p240 : 0 ≤ (x68_4 : Int) := of_decide_eq_true (by first | (with_reducible assumption) | assumption)
                                        have q240 : x68_4 < (t236.length : Int) := of_decide_eq_true (by first | (with_reducible assumption) | assumption)
                                        obtain ⟨ad240, e240, hx240_0⟩ := Kd.at_int (Kd.R_reads' HO_66.out).2.2 x68_4 p240 q240
                                        cases e240
                                        replace p240 := eq_true p240
                                        replace q240 := eq_true q240
                                        have p241 : 0 ≤ ((ji34) : Int) := of_decide_eq_true (by first | (with_reducible assumption) | assumption)
                                        have q241 : (ji34) < (l0.length : Int) := of_decide_eq_true (by first | (with_reducible assumption) | assumption)
                                        obtain ⟨ad241, e241, hx241_0⟩ := Kd.at_int HR0.out (ji34) p241 q241
                                        cases e241
                                        replace hx241_0 := (HB.out.cell (World.block_lt_of_cell? w _ hx241_0)).trans hx241_0
                                        replace p241 := eq_true p241
                                        replace q241 := eq_true q241
                                        go_wp2
                                        go_roundg k4
                                        case measure => have := HJ2.out; have := HJ12.out; have := HJ21.out; have := HK4.out; omega
                                        case rel => exact ⟨(wrap64 (x68_4 + 1)), (by first | rfl | (simp; done) | (simp [*]; done)), H', ⟨by have := HJ2.out; have := HJ12.out; have := HJ21.out; have := HK4.out; omega⟩, ⟨by (with_reducible repeat (first | apply Kd.R_alloc | apply Kd.R_drewN | apply Kd.R_drew)); exact HO_9.out⟩, ⟨by (with_reducible repeat (first | apply Kd.R_alloc | apply Kd.R_drewN | apply Kd.R_drew)); exact HO_66.out⟩, ⟨by repeat (first | (with_reducible first | exact HB.out | apply below_alloc | apply pw_below_drewN | apply below_drew1) | exact HB.out)⟩⟩
                                      · rw [if_neg c37] at H
                                        have c37b0 : ((rd t236 x68_4) == (rd l0 (ji34))) = false := beq_eq_false_iff_ne.mpr c37
                                        have c37b1 : ((rd t236 x68_4) != (rd l0 (ji34))) = true := bne_iff_ne.mpr c37
                                        obtain rfl := Option.some.inj H
                                        have p240 : 0 ≤ (x68_4 : Int) := of_decide_eq_true (by first | (with_reducible assumption) | assumption)
                                        have q240 : x68_4 < (t236.length : Int) := of_decide_eq_true (by first | (with_reducible assumption) | assumption)
                                        obtain ⟨ad240, e240, hx240_0⟩ := Kd.at_int (Kd.R_reads' HO_66.out).2.2 x68_4 p240 q240
                                        cases e240
                                        replace p240 := eq_true p240
                                        replace q240 := eq_true q240
                                        have p241 : 0 ≤ ((ji34) : Int) := of_decide_eq_true (by first | (with_reducible assumption) | assumption)
                                        have q241 : (ji34) < (l0.length : Int) := of_decide_eq_true (by first | (with_reducible assumption) | assumption)
                                        obtain ⟨ad241, e241, hx241_0⟩ := Kd.at_int HR0.out (ji34) p241 q241
                                        cases e241
                                        replace hx241_0 := (HB.out.cell (World.block_lt_of_cell? w _ hx241_0)).trans hx241_0
                                        replace p241 := eq_true p241
                                        replace q241 := eq_true q241
                                        go_wp2
                                        go_ret
                                        exact ⟨by first | rfl | (simp [errW_none, errW_some] <;> rfl) | (simp only [← hji34]; first | rfl | (simp [errW_none, errW_some] <;> rfl)) | (simp [*, errW_none, errW_some] <;> rfl), by repeat (first | (with_reducible first | exact HB.out | apply below_alloc | apply pw_below_drewN | apply below_drew1) | exact HB.out)⟩
                                    · rw [if_neg c36] at H
                                      exact absurd H (by simp)
                                  · rw [if_neg c35] at H
                                    exact absurd H (by simp)
                            · rw [if_neg c31] at H
                              exact absurd H (by simp)
                          · rw [if_neg c30] at H
                            exact absurd H (by simp)
                        · rw [if_neg c29] at H
                          have c29b0 : decide (x68_4 < (t236.length : Int)) = false := decide_eq_false c29
                          clear c29
                          replace H := Option.bind_eq_some_iff.mp H
                          obtain ⟨⟨t242, t243⟩, A380, H⟩ := H
                          replace H : (if t237 = 0 then (if (t236.length : Int) = (wrap64 ((l0.length : Int) * a1)) then (if t243 = 0 then ((sackbutref01_Same.f k4 t242 l0).bind fun t246 => (some t246)) else (some false)) else (some false)) else (some false)) = some r := H
                          have A38 := Aside0.mk A380
                          clear A380
                          by_cases c39 : t237 = 0
                          · rw [if_pos c39] at H
                            have c39b0 : (t237 == 0) = true := beq_iff_eq.mpr c39
                            have c39b1 : (t237 != 0) = false := bne_eq_false_iff_eq.mpr c39
                            clear c39
                            by_cases c40 : (t236.length : Int) = (wrap64 ((l0.length : Int) * a1))
                            · rw [if_pos c40] at H
                              have c40b0 : ((t236.length : Int) == (wrap64 ((l0.length : Int) * a1))) = true := beq_iff_eq.mpr c40
                              have c40b1 : ((t236.length : Int) != (wrap64 ((l0.length : Int) * a1))) = false := bne_eq_false_iff_eq.mpr c40
                              clear c40
                              by_cases c41 : t243 = 0
                              · rw [if_pos c41] at H
                                have c41b0 : (t243 == 0) = true := beq_iff_eq.mpr c41
                                have c41b1 : (t243 != 0) = false := bne_eq_false_iff_eq.mpr c41
                                clear c41
                                replace H := Option.bind_eq_some_iff.mp H
                                obtain ⟨t246, A420, H⟩ := H
                                replace H : (some t246) = some r := H
                                have A42 := Aside0.mk A420
                                clear A420
                                obtain rfl := Option.some.inj H
                                go_wp2_with (first | ((with_reducible refine gate_callee (f := 19) rfl ?_); refine goesL_ (some 93) rfl rfl Try.func19 (by kernel_rfl) rfl #[.slice Ao28 t236.length co28, .int .i64 a1] rfl (by (try simp only [List.map_toArray, List.map_cons, List.map_nil]); first | done | rfl | (simp only [List.length_drop, List.length_take]; rfl)) ?_; (with_reducible refine (mix_Thin.calls k4 _ _ t236 a1 t242 t243 _ ?side1 ?side2 A38.out).mono ?_); (case side1 => repeat (first | exact (Kd.R_reads' HO_9.out).2.2 | (with_reducible refine Kd.C_alloc ?_ _) | (with_reducible refine Kd.C_drewN ?_ _) | (with_reducible refine Kd.C_drew ?_))); (case side2 => exact (Kd.R_reads' HO_9.out).2.1); rintro e w43 ⟨v244, rfl, ho0, hb⟩; refine ⟨_, rfl, ?_⟩; have n0_ := Aside0.mk (Kd.R_elder' (by (with_reducible repeat (first | apply Kd.R_alloc | apply Kd.R_drewN | apply Kd.R_drew)); exact HO_9.out) (Kd.R_base ho0) hb); have n1_ := Aside0.mk (Kd.R_elder' (by (with_reducible repeat (first | apply Kd.R_alloc | apply Kd.R_drewN | apply Kd.R_drew)); exact HO_66.out) (Kd.R_base ho0) hb); have n2_ := Aside0.mk (Kd.R_lower (Kd.R_new' (Kd.R_new' ho0 (Kd.R_lt (by (with_reducible repeat (first | apply Kd.R_alloc | apply Kd.R_drewN | apply Kd.R_drew)); exact HO_9.out))) (Kd.R_lt (by (with_reducible repeat (first | apply Kd.R_alloc | apply Kd.R_drewN | apply Kd.R_drew)); exact HO_66.out))) (below_size (by repeat (first | (with_reducible first | exact HB.out | apply below_alloc | apply pw_below_drewN | apply below_drew1) | exact HB.out)))); have n3_ := Aside0.mk (below_step (by repeat (first | (with_reducible first | exact HB.out | apply below_alloc | apply pw_below_drewN | apply below_drew1) | exact HB.out)) hb); clear HO_9; clear HO_66; clear HB; have HO_9 := n0_; have HO_66 := n1_; have HO245 := n2_; have HB := n3_; clear n0_ n1_ n2_ n3_; (try clear hb); (try clear hb2); (try clear hk); (try clear hi); (try clear ho0); obtain ⟨Ao44, co44, eo44⟩ := Kd.R_slice HO245.out; subst eo44) | (go_at_call 12; (with_reducible refine (sackbutref01_Same.calls k4 _ _ t242 _ _ l0 t246 _ ?side1 ?side2 ?side3 ?side4 A42.out).mono ?_); (case side1 => repeat (first | exact (Kd.R_reads' HO245.out).2.2 | (with_reducible refine Kd.C_alloc ?_ _) | (with_reducible refine Kd.C_drewN ?_ _) | (with_reducible refine Kd.C_drew ?_))); (case side2 => exact (Kd.R_reads' HO245.out).2.1); (case side3 => repeat (first | exact (Kd.C_below HR0.out HB.out) | (with_reducible refine Kd.C_alloc ?_ _) | (with_reducible refine Kd.C_drewN ?_ _) | (with_reducible refine Kd.C_drew ?_))); (case side4 => exact HC0.out); rintro e w' ⟨rfl, ⟨nd, rfl⟩⟩))
                                go_ret
                                exact ⟨by first | rfl | (simp [errW_none, errW_some] <;> rfl) | (simp [*, errW_none, errW_some] <;> rfl), by repeat (first | (with_reducible first | exact HB.out | apply below_alloc | apply pw_below_drewN | apply below_drew1) | exact HB.out)⟩
                              · rw [if_neg c41] at H
                                have c41b0 : (t243 == 0) = false := beq_eq_false_iff_ne.mpr c41
                                have c41b1 : (t243 != 0) = true := bne_iff_ne.mpr c41
                                obtain rfl := Option.some.inj H
                                go_wp2_with (first | ((with_reducible refine gate_callee (f := 19) rfl ?_); refine goesL_ (some 93) rfl rfl Try.func19 (by kernel_rfl) rfl #[.slice Ao28 t236.length co28, .int .i64 a1] rfl (by (try simp only [List.map_toArray, List.map_cons, List.map_nil]); first | done | rfl | (simp only [List.length_drop, List.length_take]; rfl)) ?_; (with_reducible refine (mix_Thin.calls k4 _ _ t236 a1 t242 t243 _ ?side1 ?side2 A38.out).mono ?_); (case side1 => repeat (first | exact (Kd.R_reads' HO_9.out).2.2 | (with_reducible refine Kd.C_alloc ?_ _) | (with_reducible refine Kd.C_drewN ?_ _) | (with_reducible refine Kd.C_drew ?_))); (case side2 => exact (Kd.R_reads' HO_9.out).2.1); rintro e w45 ⟨v244, rfl, ho0, hb⟩; refine ⟨_, rfl, ?_⟩; have n0_ := Aside0.mk (Kd.R_elder' (by (with_reducible repeat (first | apply Kd.R_alloc | apply Kd.R_drewN | apply Kd.R_drew)); exact HO_9.out) (Kd.R_base ho0) hb); have n1_ := Aside0.mk (Kd.R_elder' (by (with_reducible repeat (first | apply Kd.R_alloc | apply Kd.R_drewN | apply Kd.R_drew)); exact HO_66.out) (Kd.R_base ho0) hb); have n2_ := Aside0.mk (Kd.R_lower (Kd.R_new' (Kd.R_new' ho0 (Kd.R_lt (by (with_reducible repeat (first | apply Kd.R_alloc | apply Kd.R_drewN | apply Kd.R_drew)); exact HO_9.out))) (Kd.R_lt (by (with_reducible repeat (first | apply Kd.R_alloc | apply Kd.R_drewN | apply Kd.R_drew)); exact HO_66.out))) (below_size (by repeat (first | (with_reducible first | exact HB.out | apply below_alloc | apply pw_below_drewN | apply below_drew1) | exact HB.out)))); have n3_ := Aside0.mk (below_step (by repeat (first | (with_reducible first | exact HB.out | apply below_alloc | apply pw_below_drewN | apply below_drew1) | exact HB.out)) hb); clear HO_9; clear HO_66; clear HB; have HO_9 := n0_; have HO_66 := n1_; have HO245 := n2_; have HB := n3_; clear n0_ n1_ n2_ n3_; (try clear hb); (try clear hb2); (try clear hk); (try clear hi); (try clear ho0)))
                                go_ret
                                exact ⟨by first | rfl | (simp [errW_none, errW_some] <;> rfl) | (simp [*, errW_none, errW_some] <;> rfl), by repeat (first | (with_reducible first | exact HB.out | apply below_alloc | apply pw_below_drewN | apply below_drew1) | exact HB.out)⟩
                            · rw [if_neg c40] at H
                              have c40b0 : ((t236.length : Int) == (wrap64 ((l0.length : Int) * a1))) = false := beq_eq_false_iff_ne.mpr c40
                              have c40b1 : ((t236.length : Int) != (wrap64 ((l0.length : Int) * a1))) = true := bne_iff_ne.mpr c40
                              obtain rfl := Option.some.inj H
                              go_wp2_with (first | ((with_reducible refine gate_callee (f := 19) rfl ?_); refine goesL_ (some 93) rfl rfl Try.func19 (by kernel_rfl) rfl #[.slice Ao28 t236.length co28, .int .i64 a1] rfl (by (try simp only [List.map_toArray, List.map_cons, List.map_nil]); first | done | rfl | (simp only [List.length_drop, List.length_take]; rfl)) ?_; (with_reducible refine (mix_Thin.calls k4 _ _ t236 a1 t242 t243 _ ?side1 ?side2 A38.out).mono ?_); (case side1 => repeat (first | exact (Kd.R_reads' HO_9.out).2.2 | (with_reducible refine Kd.C_alloc ?_ _) | (with_reducible refine Kd.C_drewN ?_ _) | (with_reducible refine Kd.C_drew ?_))); (case side2 => exact (Kd.R_reads' HO_9.out).2.1); rintro e w46 ⟨v244, rfl, ho0, hb⟩; refine ⟨_, rfl, ?_⟩; have n0_ := Aside0.mk (Kd.R_elder' (by (with_reducible repeat (first | apply Kd.R_alloc | apply Kd.R_drewN | apply Kd.R_drew)); exact HO_9.out) (Kd.R_base ho0) hb); have n1_ := Aside0.mk (Kd.R_elder' (by (with_reducible repeat (first | apply Kd.R_alloc | apply Kd.R_drewN | apply Kd.R_drew)); exact HO_66.out) (Kd.R_base ho0) hb); have n2_ := Aside0.mk (Kd.R_lower (Kd.R_new' (Kd.R_new' ho0 (Kd.R_lt (by (with_reducible repeat (first | apply Kd.R_alloc | apply Kd.R_drewN | apply Kd.R_drew)); exact HO_9.out))) (Kd.R_lt (by (with_reducible repeat (first | apply Kd.R_alloc | apply Kd.R_drewN | apply Kd.R_drew)); exact HO_66.out))) (below_size (by repeat (first | (with_reducible first | exact HB.out | apply below_alloc | apply pw_below_drewN | apply below_drew1) | exact HB.out)))); have n3_ := Aside0.mk (below_step (by repeat (first | (with_reducible first | exact HB.out | apply below_alloc | apply pw_below_drewN | apply below_drew1) | exact HB.out)) hb); clear HO_9; clear HO_66; clear HB; have HO_9 := n0_; have HO_66 := n1_; have HO245 := n2_; have HB := n3_; clear n0_ n1_ n2_ n3_; (try clear hb); (try clear hb2); (try clear hk); (try clear hi); (try clear ho0)))
                              go_ret
                              exact ⟨by first | rfl | (simp [errW_none, errW_some] <;> rfl) | (simp [*, errW_none, errW_some] <;> rfl), by repeat (first | (with_reducible first | exact HB.out | apply below_alloc | apply pw_below_drewN | apply below_drew1) | exact HB.out)⟩
                          · rw [if_neg c39] at H
                            have c39b0 : (t237 == 0) = false := beq_eq_false_iff_ne.mpr c39
                            have c39b1 : (t237 != 0) = true := bne_iff_ne.mpr c39
                            obtain rfl := Option.some.inj H
                            go_wp2_with (first | ((with_reducible refine gate_callee (f := 19) rfl ?_); refine goesL_ (some 93) rfl rfl Try.func19 (by kernel_rfl) rfl #[.slice Ao28 t236.length co28, .int .i64 a1] rfl (by (try simp only [List.map_toArray, List.map_cons, List.map_nil]); first | done | rfl | (simp only [List.length_drop, List.length_take]; rfl)) ?_; (with_reducible refine (mix_Thin.calls k4 _ _ t236 a1 t242 t243 _ ?side1 ?side2 A38.out).mono ?_); (case side1 => repeat (first | exact (Kd.R_reads' HO_9.out).2.2 | (with_reducible refine Kd.C_alloc ?_ _) | (with_reducible refine Kd.C_drewN ?_ _) | (with_reducible refine Kd.C_drew ?_))); (case side2 => exact (Kd.R_reads' HO_9.out).2.1); rintro e w47 ⟨v244, rfl, ho0, hb⟩; refine ⟨_, rfl, ?_⟩; have n0_ := Aside0.mk (Kd.R_elder' (by (with_reducible repeat (first | apply Kd.R_alloc | apply Kd.R_drewN | apply Kd.R_drew)); exact HO_9.out) (Kd.R_base ho0) hb); have n1_ := Aside0.mk (Kd.R_elder' (by (with_reducible repeat (first | apply Kd.R_alloc | apply Kd.R_drewN | apply Kd.R_drew)); exact HO_66.out) (Kd.R_base ho0) hb); have n2_ := Aside0.mk (Kd.R_lower (Kd.R_new' (Kd.R_new' ho0 (Kd.R_lt (by (with_reducible repeat (first | apply Kd.R_alloc | apply Kd.R_drewN | apply Kd.R_drew)); exact HO_9.out))) (Kd.R_lt (by (with_reducible repeat (first | apply Kd.R_alloc | apply Kd.R_drewN | apply Kd.R_drew)); exact HO_66.out))) (below_size (by repeat (first | (with_reducible first | exact HB.out | apply below_alloc | apply pw_below_drewN | apply below_drew1) | exact HB.out)))); have n3_ := Aside0.mk (below_step (by repeat (first | (with_reducible first | exact HB.out | apply below_alloc | apply pw_below_drewN | apply below_drew1) | exact HB.out)) hb); clear HO_9; clear HO_66; clear HB; have HO_9 := n0_; have HO_66 := n1_; have HO245 := n2_; have HB := n3_; clear n0_ n1_ n2_ n3_; (try clear hb); (try clear hb2); (try clear hk); (try clear hi); (try clear ho0)))
                            go_ret
                            exact ⟨by first | rfl | (simp [errW_none, errW_some] <;> rfl) | (simp [*, errW_none, errW_some] <;> rfl), by repeat (first | (with_reducible first | exact HB.out | apply below_alloc | apply pw_below_drewN | apply below_drew1) | exact HB.out)⟩

/-- THE ONE PURE STATEMENT of sackbutlaw22_MixThins: yours. -/
def sackbutlaw22_MixThins.Pure : Prop := ∀ (l0 : List Int) (a1 : Int), l0.length ≤ maxLen → l0.length * 8 ≤ 140737488351232 → (∀ x ∈ l0, (Lit.int .i64 x).wf = true) → (Lit.int .i64 a1).wf = true → ∃ k, sackbutlaw22_MixThins.f k l0 a1 = some true
theorem sackbutlaw22_MixThins.walk (P : sackbutlaw22_MixThins.Pure) (a0 : Option Addr) (len0 cap0 : Nat) (z0 : List Int) (a1 : Int) (w : World) (w0 : (a0 = none ∧ len0 = 0 ∧ cap0 = 0 ∧ z0 = []) ∨ ∃ x, a0 = some x ∧ len0 ≤ cap0 ∧ cap0 ≤ maxLen ∧ z0.length = cap0 ∧ (∀ i, i < z0.length → w.cell? (x.add i) = some (.int .i64 (z0.getD i 0))) ∧ ∀ n ∈ z0, (Lit.int .i64 n).wf = true) (y0 : len0 * 8 ≤ 140737488351232) (w1 : (Lit.int .i64 a1).wf = true) :
    Calls Try.prog 8 #[.slice a0 len0 cap0, .int .i64 a1] w fun e w' => e = .returned (.bool true) ∧ Below w.heap.size w w' := by
  obtain ⟨l0, rfl, hr0, hm0, hw0, hc0⟩ := ReadsInt.ofRowC w0
  obtain ⟨k, h⟩ := P l0 a1 hm0 y0 hw0 w1
  refine (sackbutlaw22_MixThins.calls k _ _ l0 a1 true w (Kd.C_of_reads (d := (0 : Int)) (h1 := fun _ => rfl) hr0) hc0 h).mono ?_
  rintro e w' ⟨rfl, hd⟩
  exact ⟨rfl, hd⟩

end Go.Proofs.Ytnfhfmimeaeoiaa.HM
