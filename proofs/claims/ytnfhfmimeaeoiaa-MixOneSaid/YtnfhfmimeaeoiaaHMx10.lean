/- What the Go functions come to, as plain Lean functions, and that their calls do just that: written by this project's own program (hp.sh); conditions: those of each theorem. -/
import Derived.Test.YtnfhfmimeaeoiaaHMx0
import Derived.Test.YtnfhfmimeaeoiaaHMx1
import Derived.Test.YtnfhfmimeaeoiaaHMx7
import Derived.Test.YtnfhfmimeaeoiaaHMx9
import Derived.Shelf.Abstract
namespace Go.Proofs.Ytnfhfmimeaeoiaa.HM
open Go.RowKit Go.Proofs.YtnfhfmimeaeoiaaW.PrintWords Go.Proofs.YtnfhfmimeaeoiaaW.PrintLast Go.Proofs.YtnfhfmimeaeoiaaW.PrintMore
attribute [local go_sem] max2_int min2_int max_two min_two max_three min_three max_four min_four   -- for this text's walks alone
set_option linter.unusedVariables false
set_option linter.unusedSimpArgs false

/-! ### mix_Gain: function 11, by hand -/
/-- What the two methods do that mix.each is given. -/
def stMix (f : Nat × Int) (x : Int) : Option Int := if f.1 = 26 then mix_scale_of.f f.2 x else mix_width_cut.f f.2 x
theorem stMix_eg (fs : List (Nat × Int)) (hfs : ∀ f ∈ fs, f.1 = 26 ∨ f.1 = 27) : ∀ f ∈ fs, ∀ args w, (callFunc f.1 args).run Try.prog w = .ok (.enter f.1 args) w := by
  intro f hf
  rcases hfs f hf with e | e <;> rw [e]
  · exact enters_of Try.func26 (by kernel_rfl) rfl
  · exact enters_of Try.func27 (by kernel_rfl) rfl
theorem stMix_calls (fs : List (Nat × Int)) (hfs : ∀ f ∈ fs, f.1 = 26 ∨ f.1 = 27) : ∀ f ∈ fs, ∀ x y W, stMix f x = some y → Calls Try.prog f.1 #[.int .i64 f.2, .int .i64 x] W fun e W' => e = .returned (.int .i64 y) ∧ Below W.heap.size W W' := by
  intro f hf x y W h
  unfold stMix at h
  rcases hfs f hf with e | e
  · rw [if_pos e] at h
    rw [e]
    exact (mix_scale_of.calls _ _ _ W h).mono fun e w' ⟨he, hd⟩ => ⟨he, by obtain ⟨q, rfl⟩ := hd.out; exact pw_below_drewN (Below.refl _ _) q⟩
  · rw [if_neg (by rw [e]; decide)] at h
    rw [e]
    exact mix_width_cut.calls _ _ _ W h

def mix_Gain.f (k : Nat) (l0 : List Int) (a1 : Int) (a2 : Int) : Option (List Int × Int) := (mix_scale_good.f a1).bind fun t => (if t = true then mix_width_good.f a2 else some false).bind fun u => (mix_check.f k l0 u).bind fun e => if e = 0 then (if l0.length < 17592186044416 then (eachA stMix l0.length [(26, a1), (27, a2)] l0).bind fun z => some (z, 0) else none) else some ([], e)
theorem mix_Gain.mono : ∀ a0 a1 a2 k, LeO (mix_Gain.f k a0 a1 a2) (mix_Gain.f (k + 1) a0 a1 a2) := by
  intro a0 a1 a2 k
  unfold mix_Gain.f
  refine LeO.bind (LeO.refl _) (fun t => LeO.bind (LeO.refl _) (fun u => LeO.bind (mix_check.mono _ _ _) (fun e => LeO.refl _)))
set_option maxHeartbeats 4000000 in
theorem mix_Gain.calls (k : Nat) (A0 : Option Addr) (c0 : Nat) (l0 : List Int) (a1 : Int) (a2 : Int) (r1 : List Int) (r2 : Int) (w : World) (hr0 : Kd.C (Kd.int .i64) w A0 l0.length l0) (hc0 : l0.length ≤ c0) (h : mix_Gain.f k l0 a1 a2 = some (r1, r2)) :
    Calls Try.prog 11 #[.slice A0 l0.length c0, .int .i64 a1, .int .i64 a2] w fun e w' => ∃ v0_ : Value, e = .returned (.tuple #[v0_, .int .i64 r2]) ∧ Kd.R (Kd.int .i64) 3 w' w.heap.size (fun _ => True) v0_ r1 ∧ Below w.heap.size w w' := by
  unfold mix_Gain.f at h
  obtain ⟨t, ht, h1⟩ := Option.bind_eq_some_iff.mp h
  clear h
  obtain ⟨u, hu, h2⟩ := Option.bind_eq_some_iff.mp h1
  clear h1
  obtain ⟨e, he, h3⟩ := Option.bind_eq_some_iff.mp h2
  clear h2
  have C1 := fun W => mix_scale_good.calls a1 t W ht
  have C3 := fun (W : World) (hb : Below w.heap.size w W) => mix_check.calls k A0 c0 l0 u e W (Kd.C_below hr0 hb) hc0 he
  have HR := Aside0.mk hr0
  have HC := Aside0.mk hc0
  have HH := Aside0.mk h3
  have C2 : t = true → ∀ W, Calls Try.prog 24 #[.int .i64 a2] W fun e w' => e = .returned (.bool u) ∧ Drawn0 W w' := fun htt W => mix_width_good.calls a2 u W (by rw [if_pos htt] at hu; exact hu)
  have HU : t = false → u = false := fun htf => by rw [htf, if_neg (by decide)] at hu; exact (Option.some.inj hu).symm
  have HB := Aside0.mk (Below.refl w.heap.size w)
  clear hr0 hc0 h3 ht hu he
  have C4 : ∀ (b c1 : Nat) (W : World), e = 0 → Below w.heap.size w W → W.cell? ⟨b, 0, none⟩ = some (fvEnc (26, a1)) → W.cell? ⟨b, 1, none⟩ = some (fvEnc (27, a2)) →
      Calls Try.prog 25 #[.slice A0 l0.length c0, .slice (some ⟨b, 0, none⟩) 2 c1] W fun e w' => ∃ v0_ : Value, e = .returned (v0_) ∧ Kd.R (Kd.int .i64) 3 w' W.heap.size (fun _ => True) v0_ r1 ∧ Below W.heap.size W w' ∧ r2 = 0 := by
    intro b c1 W he hb h1 h2
    have h := HH.out
    rw [if_pos he] at h
    split at h
    · rename_i hlen
      obtain ⟨z, hz, hq⟩ := Option.bind_eq_some_iff.mp h
      injection hq with hq
      injection hq with hq1 hq2
      subst hq1
      refine (mix_each.gives stMix [(26, a1), (27, a2)] l0 z A0 c0 b c1 W (Kd.C_below HR.out hb) HC.out hlen (by simp) ?_ (stMix_eg _ (by simp)) (stMix_calls _ (by simp)) hz).mono ?_
      · intro i hi
        match i, hi with
        | 0, _ => exact h1
        | 1, _ => exact h2
      · rintro e w' ⟨v, rfl, ho, hb⟩
        exact ⟨v, rfl, ho, hb, hq2.symm⟩
    · cases h
  have C5 : e ≠ 0 → r1 = [] ∧ r2 = e := fun he => by
    have h := HH.out
    rw [if_neg he] at h
    injection h with h
    injection h with h1 h2
    exact ⟨h1.symm, h2.symm⟩
  have HC5 := Aside0.mk C5
  have HC4 := Aside0.mk C4
  clear C4 C5
  generalize hln : l0.length = n at C3 HC4 ⊢
  have HN := Aside0.mk hln
  clear hln
  go_enter Try.func11, Try.ntmps11
  cases t with
  | true =>
    have C2' := C2 rfl
    clear C2 HU
    by_cases he0 : e = 0
    · have HE := Aside0.mk he0
      have he1 : (e == 0) = true := beq_iff_eq.mpr he0
      have he2 : (e != 0) = false := bne_eq_false_iff_eq.mpr he0
      clear he0
      go_wp2_with (first | (go_at_call 23; refine (C1 _).mono ?_; rintro e1 w1 ⟨rfl, ⟨q1, rfl⟩⟩) | (go_at_call 24; refine (C2' _).mono ?_; rintro e2 w2 ⟨rfl, ⟨q2, rfl⟩⟩) | (go_at_call 22; refine (C3 _ (by repeat (first | exact HB.out | apply pw_below_drewN))).mono ?_; rintro e3 w3 ⟨rfl, ⟨q3, rfl⟩⟩) | (go_at_call 25; (refine (HC4.out w.heap.size 2 _ HE.out (below_alloc (by repeat (first | exact HB.out | apply pw_below_drewN)) _) (by refine (World.cell?_alloc_at _ _ _ _ ?_).trans rfl; rfl) (by refine (World.cell?_alloc_at _ _ _ _ ?_).trans rfl; rfl)).mono ?_; rintro e4 w4 ⟨v4, rfl, ho4, hb4, hr2⟩; have HO4 := Aside0.mk (Kd.R_lower ho4 (below_size (below_alloc (by repeat (first | exact HB.out | apply pw_below_drewN)) _))); have HB4 := Aside0.mk (below_step (below_alloc (by repeat (first | exact HB.out | apply pw_below_drewN)) _) hb4); have HR2 := Aside0.mk hr2; clear ho4 hb4 hr2)))
      go_ret2
      exact ⟨_, by have hz := HR2.out; subst hz; rfl, HO4.out, HB4.out⟩
    · have hen : (e != 0) = true := bne_iff_ne.mpr he0
      have he1 : (e == 0) = false := beq_eq_false_iff_ne.mpr he0
      obtain ⟨rfl, rfl⟩ := HC5.out he0
      clear he0
      go_wp2_with (first | (go_at_call 23; refine (C1 _).mono ?_; rintro e1 w1 ⟨rfl, ⟨q1, rfl⟩⟩) | (go_at_call 24; refine (C2' _).mono ?_; rintro e2 w2 ⟨rfl, ⟨q2, rfl⟩⟩) | (go_at_call 22; refine (C3 _ (by repeat (first | exact HB.out | apply pw_below_drewN))).mono ?_; rintro e3 w3 ⟨rfl, ⟨q3, rfl⟩⟩))
      go_ret2
      exact ⟨_, rfl, Kd.R_nil _ _ _ _ _, by repeat (first | exact HB.out | apply pw_below_drewN)⟩
  | false =>
    obtain rfl := HU rfl
    clear C2 HU
    by_cases he0 : e = 0
    · have HE := Aside0.mk he0
      have he1 : (e == 0) = true := beq_iff_eq.mpr he0
      have he2 : (e != 0) = false := bne_eq_false_iff_eq.mpr he0
      clear he0
      go_wp2_with (first | (go_at_call 23; refine (C1 _).mono ?_; rintro e1 w1 ⟨rfl, ⟨q1, rfl⟩⟩) | (go_at_call 22; refine (C3 _ (by repeat (first | exact HB.out | apply pw_below_drewN))).mono ?_; rintro e3 w3 ⟨rfl, ⟨q3, rfl⟩⟩) | (go_at_call 25; (refine (HC4.out w.heap.size 2 _ HE.out (below_alloc (by repeat (first | exact HB.out | apply pw_below_drewN)) _) (by refine (World.cell?_alloc_at _ _ _ _ ?_).trans rfl; rfl) (by refine (World.cell?_alloc_at _ _ _ _ ?_).trans rfl; rfl)).mono ?_; rintro e4 w4 ⟨v4, rfl, ho4, hb4, hr2⟩; have HO4 := Aside0.mk (Kd.R_lower ho4 (below_size (below_alloc (by repeat (first | exact HB.out | apply pw_below_drewN)) _))); have HB4 := Aside0.mk (below_step (below_alloc (by repeat (first | exact HB.out | apply pw_below_drewN)) _) hb4); have HR2 := Aside0.mk hr2; clear ho4 hb4 hr2)))
      go_ret2
      exact ⟨_, by have hz := HR2.out; subst hz; rfl, HO4.out, HB4.out⟩
    · have hen : (e != 0) = true := bne_iff_ne.mpr he0
      have he1 : (e == 0) = false := beq_eq_false_iff_ne.mpr he0
      obtain ⟨rfl, rfl⟩ := HC5.out he0
      clear he0
      go_wp2_with (first | (go_at_call 23; refine (C1 _).mono ?_; rintro e1 w1 ⟨rfl, ⟨q1, rfl⟩⟩) | (go_at_call 22; refine (C3 _ (by repeat (first | exact HB.out | apply pw_below_drewN))).mono ?_; rintro e3 w3 ⟨rfl, ⟨q3, rfl⟩⟩))
      go_ret2
      exact ⟨_, rfl, Kd.R_nil _ _ _ _ _, by repeat (first | exact HB.out | apply pw_below_drewN)⟩

end Go.Proofs.Ytnfhfmimeaeoiaa.HM
