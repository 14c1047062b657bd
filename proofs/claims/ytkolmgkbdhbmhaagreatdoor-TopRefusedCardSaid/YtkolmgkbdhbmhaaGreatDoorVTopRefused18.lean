/- TopRefused: what the claim's theorem reaches of this seat's texts, part 18, put together by this project's own program (bale.py); conditions: those of each theorem. -/
import Derived.Test.YtkolmgkbdhbmhaaGreatDoorVTopRefused15
import Derived.Test.YtkolmgkbdhbmhaaGreatDoorVTopRefused16
import Derived.Test.YtkolmgkbdhbmhaaGreatDoorVTopRefused17
import Derived.Test.YtkolmgkbdhbmhaaGreatDoorRows
import Derived.Test.YtkolmgkbdhbmhaaGreatDoorTie
import Derived.Test.YtkolmgkbdhbmhaaGreatDoorCards
import Derived.WalkKit
import Derived.ProofKit
import Derived.OpenShut
import Derived.ShutString
import Derived.ChangeOld
import Derived.Below
import Derived.SizedLaws
import Derived.SevenTiedAt
import Derived.LaidMore
import Derived.Stop.Joined
namespace Go.Proofs.YtkolmgkbdhbmhaaGreatDoor.topRefused
open Go.ChangeShapes Go.WideShapes Go.ChangeAt Go.RowKit Go.Proofs.YtkolmgkbdhbmhaaGreatDoor.HT2 Go.Proofs.YtkolmgkbdhbmhaaGreatDoorW.PrintWords Go.Proofs.YtkolmgkbdhbmhaaGreatDoorW.PrintLast
open Go.ChangeMaps (open_string shut_string)
set_option linter.unusedVariables false
set_option linter.unusedSimpArgs false
theorem own : ownKnob Tryz.prog.godebug = none := by kernel_rfl
theorem laidOut : laidOutB Tryz.prog = true := by kernel_rfl
set_option maxRecDepth 100000 in
theorem lifted (os : Os) (started : os.Started) (H : Type) (enc : TypeId × Value → H) :
    ReturnsInHanded {} Tryz.checked os 3 .any (fun w args => (Rows.topRefusedSpec.pre enc Tryz.prog Tryz.f3 Rows.topRefusedRow.domain false w args ∧ laidMetH Tryz.prog Laid.L w) ∧ sizedMet enc Tryz.prog Tryz.f3 (OpenSpec.ofChange Rows.topRefusedSpec) false w args) (Rows.topRefusedSpec.post enc Tryz.prog Tryz.f3 false true false false) := by
  refine returnsInHanded_of_change_and (C := Tryz.checked) (X := fun w _ => laidMetH Tryz.prog Laid.L w) (fun _ _ _ hh h => h.of_heap hh) own started (by kernel_rfl) Tryz.func3
    (ChangeSpec.witness_shaped (enc := enc) (C := Tryz.checked) (os := os) (X := fun w _ => laidMetH Tryz.prog Laid.L w) false (World.doorLaid Tryz.prog 400 os) #[.agg #[.int .i64 0, .int .i64 0, .bool false, .int .i64 0, .int .i64 0, .int .i64 0, .int .i64 0, .slice none 0 0, .int .i64 0, .int .i64 0, .bool false, .bool false, .bool false]] 8 rfl (World.shaped_of_RefB (by kernel_rfl) (by kernel_rfl)) (by kernel_rfl) (by kernel_rfl) (by kernel_rfl) (Laid.door_met os _)) ?_
  intro W base args ds gs before hval0 hW hcnd hsz0 hL _
  have hG := Laid.of_laid hL
  clear hL
  have hval : ∀ (j : Nat) t v, Tryz.f3.params[j]? = some t → args[j]? = some v → Value.okWide Tryz.prog W .any base t v := hval0
  have hW' := hW
  obtain ⟨p, q, hA0, hV, rfl, hfz, hnd⟩ := hW
  have hA : DataW.TrodAll enc Tryz.prog W 0 (fun _ => true) true Tryz.f3.params.toList args.toList ds p := hA0
  rw [Tryz.params3] at hA hval
  obtain ⟨v0, vs0, d0, ds0, p0, q0, hargs, rfl, rfl, h0, r0⟩ := trodAll_cons hA
  obtain ⟨rfl, rfl, rfl⟩ := trodAll_nil r0
  obtain rfl : args = #[v0] := by cases args; simp_all
  obtain ⟨rfl, rfl⟩ := trodVars_none hV
  have k0 := h0
  have lt0 : ∀ x ∈ p0, x.block < W.heap.size := by obtain ⟨m, hm⟩ := k0; exact DataW.trod_lt m _ _ _ hm
  obtain ⟨s0, cs0, rfl, hK0, w0⟩ := Rd.struct_arg Tryz.underlying28 (Rd.opens_struct Tryz.underlying28 (by kernel_rfl) (Rd.opensF_cons rfl (by kernel_rfl) (Rd.opens_iso (fun s : S23 => (s.f0, s.f1, s.f2, s.f3, s.f4, s.f5, s.f6)) (fun t => (⟨t.1, t.2.1, t.2.2.1, t.2.2.2.1, t.2.2.2.2.1, t.2.2.2.2.2.1, t.2.2.2.2.2.2⟩ : S23)) (fun _ => rfl) (Rd.opens_struct Tryz.underlying23 (by kernel_rfl) (Rd.opensF_cons rfl (by kernel_rfl) (Rd.opens_int Tryz.underlying3) (Rd.opensF_cons rfl (by kernel_rfl) (Rd.opens_int Tryz.underlying3) (Rd.opensF_cons rfl (by kernel_rfl) (Rd.opens_bool Tryz.underlying4) (Rd.opensF_cons rfl (by kernel_rfl) (Rd.opens_int Tryz.underlying3) (Rd.opensF_cons rfl (by kernel_rfl) (Rd.opens_int Tryz.underlying3) (Rd.opensF_cons rfl (by kernel_rfl) (Rd.opens_int Tryz.underlying3) (Rd.opensF_last rfl (by kernel_rfl) (Rd.opens_int Tryz.underlying3)))))))))) (Rd.opensF_cons rfl (by kernel_rfl) (Rd.opens_slice Tryz.underlying24 (by kernel_rfl) (Rd.opens_slice Tryz.underlying37 (by kernel_rfl) (Rd.opens_int Tryz.underlying3))) (Rd.opensF_last rfl (by kernel_rfl) (Rd.opens_iso (fun s : S26 => (s.f0, s.f1, s.f2, s.f3, s.f4)) (fun t => (⟨t.1, t.2.1, t.2.2.1, t.2.2.2.1, t.2.2.2.2⟩ : S26)) (fun _ => rfl) (Rd.opens_struct Tryz.underlying26 (by kernel_rfl) (Rd.opensF_cons rfl (by kernel_rfl) (Rd.opens_int Tryz.underlying3) (Rd.opensF_cons rfl (by kernel_rfl) (Rd.opens_int Tryz.underlying3) (Rd.opensF_cons rfl (by kernel_rfl) (Rd.opens_bool Tryz.underlying4) (Rd.opensF_cons rfl (by kernel_rfl) (Rd.opens_bool Tryz.underlying4) (Rd.opensF_last rfl (by kernel_rfl) (Rd.opens_bool Tryz.underlying4)))))))))))) (hval 0 28 v0 rfl rfl) h0
  obtain ⟨_, _, he0_1, ⟨_, _, he0_2, rfl, ⟨_, _, he0_3, rfl, ⟨_, _, he0_4, rfl, ⟨_, _, he0_5, rfl, ⟨_, _, he0_6, rfl, ⟨_, _, he0_7, rfl, rfl⟩⟩⟩⟩⟩⟩, ⟨_, _, he0_8, ⟨A0_7, c0_7, rfl, hc0_7, hr0_7⟩, ⟨_, _, he0_9, rfl, ⟨_, _, he0_10, rfl, ⟨_, _, he0_11, rfl, ⟨_, _, he0_12, rfl, rfl⟩⟩⟩⟩⟩⟩ := hK0
  obtain rfl : cs0 = #[.int .i64 s0.1.f0, .int .i64 s0.1.f1, .bool s0.1.f2, .int .i64 s0.1.f3, .int .i64 s0.1.f4, .int .i64 s0.1.f5, .int .i64 s0.1.f6, .slice A0_7 (s0.2.1).length c0_7, .int .i64 s0.2.2.f0, .int .i64 s0.2.2.f1, .bool s0.2.2.f2, .bool s0.2.2.f3, .bool s0.2.2.f4] := by apply Array.toList_inj.1; rw [he0_1]; simp only [he0_2, he0_3, he0_4, he0_5, he0_6, he0_7, he0_8, he0_9, he0_10, he0_11, he0_12, List.cons_append, List.nil_append, List.singleton_append]
  clear hA0 hval0 hsz0
  obtain ⟨k, h⟩ := Pure.TopRefused (s0.1.f0) (s0.1.f1) (s0.1.f2) (s0.1.f3) (s0.1.f4) (s0.1.f5) (s0.1.f6) (s0.2.1) (s0.2.2.f0) (s0.2.2.f1) (s0.2.2.f2) (s0.2.2.f3) (s0.2.2.f4) (w0.1.1) (w0.1.2.1) (w0.1.2.2.2.1) (w0.1.2.2.2.2.1) (w0.1.2.2.2.2.2.1) (w0.1.2.2.2.2.2.2) (hr0_7.2.1) (w0.2.1) (w0.2.2.1) (w0.2.2.2.1)
  refine (sackbuttop_TopRefused.calls k (s0.1.f0) (s0.1.f1) (s0.1.f2) (s0.1.f3) (s0.1.f4) (s0.1.f5) (s0.1.f6) A0_7 c0_7 s0.2.1 (s0.2.2.f0) (s0.2.2.f1) (s0.2.2.f2) (s0.2.2.f3) (s0.2.2.f4) true W hr0_7 hc0_7 hG h).mono fun e W' ⟨he, hd⟩ => ?_
  have bel : Below W.heap.size W W' := hd
  subst he
  exact ⟨_, rfl, _, _, _, [], _, [], hW', trodAll_mk1 (shut_bool Tryz.underlying4 _), (trodAll_cons_mk (Below.trod laidOut (by kernel_rfl) (of_decide_eq_true (by kernel_rfl)) k0 bel lt0) trodAll_mk0), rfl, bel.frame _, fun h => by cases h⟩
theorem over : Rows.topRefusedRow.holds Tryz.pinned (OpenSpec.ofChange Rows.topRefusedSpec) :=
  OpenClaim.holds_of_wide 3 Tryz.f3 rfl rfl rfl rfl rfl rfl rfl ⟨rfl, rfl, rfl, rfl, rfl⟩ rfl rfl rfl rfl rfl (by kernel_rfl) Tryz.func3 (by kernel_rfl)
    (of_decide_eq_true (by kernel_rfl)) (by unfold Func.isWrapper; first | (rw [if_pos (by decide +kernel)]; kernel_rfl) | (rw [if_neg (by decide +kernel)]; exact ⟨rfl, rfl⟩))
    (fun os started H enc _ => lifted os started H enc)
theorem proved : Rows.TopRefusedSaid := over
theorem card_holds : Rows.TopRefusedCardSaid :=
  Claim7.holds_tied_plain_at .later [] [.data] true (true, "920cb83ce9673c7d05502ec7b7badda386e2aa47ff814541096999d97cd5584d") true
    proved (fun _ h => by cases h) (by kernel_rfl) (fun _ h => by cases h) topRefused_row_tie rfl ⟨rfl, rfl⟩ (by kernel_rfl) rfl
    (fun f fn hf hfn => by
      obtain rfl : f = 3 := Option.some.inj ((show Tryz.prog.funcNamed "sackbut/sackbuttop.TopRefused" = some 3 by kernel_rfl).symm.trans hf) |>.symm
      obtain rfl : fn = Tryz.f3 := (Option.some.inj (Tryz.func3.symm.trans hfn)).symm
      exact ⟨by kernel_rfl, fun j t ht => by
        rw [Tryz.params3] at ht
        have hm := Array.mem_of_getElem? ht
        have hall : (Tryz.f3.params.toList.all fun u => !Tryz.prog.wantsStandIn u) = true := by kernel_rfl
        rw [Tryz.params3] at hall
        have h1 := List.all_eq_true.1 hall t (by simpa using hm)
        exact (show Tryz.prog.wantsStandIn t = false by simpa using h1)⟩)
    (by kernel_rfl)
end Go.Proofs.YtkolmgkbdhbmhaaGreatDoor.topRefused
namespace Go.Proofs.YtkolmgkbdhbmhaaGreatDoor
/-- The statement, under a short name, for the claim. -/
theorem topRefused_card_holds : Rows.TopRefusedCardSaid := topRefused.card_holds
#print axioms topRefused_card_holds
end Go.Proofs.YtkolmgkbdhbmhaaGreatDoor

