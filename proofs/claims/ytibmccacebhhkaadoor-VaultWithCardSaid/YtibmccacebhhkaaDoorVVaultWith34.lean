/- VaultWith: what the claim's theorem reaches of this seat's texts, part 34, put together by this project's own program (bale.py); conditions: those of each theorem. -/
import Derived.Test.YtibmccacebhhkaaDoorVVaultWith31
import Derived.Test.YtibmccacebhhkaaDoorVVaultWith32
import Derived.Test.YtibmccacebhhkaaDoorVVaultWith33
import Derived.Test.YtibmccacebhhkaaDoorRows
import Derived.Test.YtibmccacebhhkaaDoorTie
import Derived.Test.YtibmccacebhhkaaDoorCards
import Derived.WalkKit
import Derived.ProofKit
import Derived.OpenShut
import Derived.ShutString
import Derived.ChangeOld
import Derived.Below
import Derived.SizedLaws
import Derived.SevenTiedAt
import Derived.LaidMore
import Derived.Stop.Joined
namespace Go.Proofs.YtibmccacebhhkaaDoor.vaultWith
open Go.ChangeShapes Go.WideShapes Go.ChangeAt Go.RowKit Go.Proofs.YtibmccacebhhkaaDoor.HV Go.Proofs.YtibmccacebhhkaaDoorW.PrintWords Go.Proofs.YtibmccacebhhkaaDoorW.PrintLast
open Go.ChangeMaps (open_string shut_string)
set_option linter.unusedVariables false
set_option linter.unusedSimpArgs false
theorem own : ownKnob Tryd.prog.godebug = none := by kernel_rfl
theorem laidOut : laidOutB Tryd.prog = true := by kernel_rfl
set_option maxRecDepth 100000 in
theorem lifted (os : Os) (started : os.Started) (H : Type) (enc : TypeId × Value → H) :
    ReturnsInHanded {} Tryd.checked os 7 .any (fun w args => (Rows.vaultWithSpec.pre enc Tryd.prog Tryd.f7 Rows.vaultWithRow.domain false w args ∧ laidMetH Tryd.prog Laid.L w) ∧ sizedMet enc Tryd.prog Tryd.f7 (OpenSpec.ofChange Rows.vaultWithSpec) false w args) (Rows.vaultWithSpec.post enc Tryd.prog Tryd.f7 false true false false) := by
  refine returnsInHanded_of_change_and (C := Tryd.checked) (X := fun w _ => laidMetH Tryd.prog Laid.L w) (fun _ _ _ hh h => h.of_heap hh) own started (by kernel_rfl) Tryd.func7
    (ChangeSpec.witness_shaped (enc := enc) (C := Tryd.checked) (os := os) (X := fun w _ => laidMetH Tryd.prog Laid.L w) false (World.doorLaid Tryd.prog 400 os) #[.slice none 0 0, .agg #[.string ByteArray.empty, .slice none 0 0]] 8 rfl (World.shaped_of_RefB (by kernel_rfl) (by kernel_rfl)) (by kernel_rfl) (by kernel_rfl) (by kernel_rfl) (Laid.door_met os _)) ?_
  intro W base args ds gs before hval0 hW hcnd hsz0 hL _
  have hG := Laid.of_laid hL
  clear hL
  have hval : ∀ (j : Nat) t v, Tryd.f7.params[j]? = some t → args[j]? = some v → Value.okWide Tryd.prog W .any base t v := hval0
  have hW' := hW
  obtain ⟨p, q, hA0, hV, rfl, hfz, hnd⟩ := hW
  have hA : DataW.TrodAll enc Tryd.prog W 0 (fun _ => true) true Tryd.f7.params.toList args.toList ds p := hA0
  rw [Tryd.params7] at hA hval
  obtain ⟨v0, vs0, d0, ds0, p0, q0, hargs, rfl, rfl, h0, r0⟩ := trodAll_cons hA
  obtain ⟨v1, vs1, d1, ds1, p1, q1, rfl, rfl, rfl, h1, r1⟩ := trodAll_cons r0
  obtain ⟨rfl, rfl, rfl⟩ := trodAll_nil r1
  obtain rfl : args = #[v0, v1] := by cases args; simp_all
  obtain ⟨rfl, rfl⟩ := trodVars_none hV
  have k0 := h0
  have lt0 : ∀ x ∈ p0, x.block < W.heap.size := by obtain ⟨m, hm⟩ := k0; exact DataW.trod_lt m _ _ _ hm
  obtain ⟨A0, l0, c0, rfl, hc0, hr0, w0⟩ := Rd.slice_arg Tryd.underlying34 (Rd.opens_slice Tryd.underlying34 (by kernel_rfl) (Rd.opens_iso (fun s : S49 => (s.f0, s.f1)) (fun t => (⟨t.1, t.2⟩ : S49)) (fun _ => rfl) (Rd.opens_struct Tryd.underlying49 (by kernel_rfl) (Rd.opensF_cons rfl (by kernel_rfl) (Rd.opens_string Tryd.underlying9) (Rd.opensF_last rfl (by kernel_rfl) (Rd.opens_slice Tryd.underlying22 (by kernel_rfl) (Rd.opens_int Tryd.underlying5))))))) (hval 0 34 v0 rfl rfl) h0
  have k1 := h1
  have lt1 : ∀ x ∈ p1, x.block < W.heap.size := by obtain ⟨m, hm⟩ := k1; exact DataW.trod_lt m _ _ _ hm
  obtain ⟨s1, cs1, rfl, hK1, w1⟩ := Rd.struct_arg Tryd.underlying49 (Rd.opens_struct Tryd.underlying49 (by kernel_rfl) (Rd.opensF_cons rfl (by kernel_rfl) (Rd.opens_string Tryd.underlying9) (Rd.opensF_last rfl (by kernel_rfl) (Rd.opens_slice Tryd.underlying22 (by kernel_rfl) (Rd.opens_int Tryd.underlying5))))) (hval 1 49 v1 rfl rfl) h1
  obtain ⟨_, _, he1_1, rfl, ⟨A1_1, c1_1, rfl, hc1_1, hr1_1⟩⟩ := hK1
  obtain rfl : cs1 = #[.string s1.1, .slice A1_1 (s1.2).length c1_1] := by apply Array.toList_inj.1; rw [he1_1]; rfl
  clear hA0 hval0 hsz0
  have h := Pure.VaultWith l0 (s1.1) (s1.2) (hr0.2.1) w0 (w1.1) (hr1_1.2.1) (w1.2)
  refine (sackbutlaw25_VaultWith.calls A0 c0 l0 (s1.1) A1_1 c1_1 s1.2 true W hr0 hc0 hr1_1 hc1_1 hG h).mono fun e W' ⟨he, hd⟩ => ?_
  have bel : Below W.heap.size W W' := hd
  subst he
  exact ⟨_, rfl, _, _, _, [], _, [], hW', trodAll_mk1 (shut_bool Tryd.underlying4 _), (trodAll_cons_mk (Below.trod laidOut (by kernel_rfl) (of_decide_eq_true (by kernel_rfl)) k0 bel lt0) (trodAll_cons_mk (Below.trod laidOut (by kernel_rfl) (of_decide_eq_true (by kernel_rfl)) k1 bel lt1) trodAll_mk0)), rfl, bel.frame _, fun h => by cases h⟩
theorem over : Rows.vaultWithRow.holds Tryd.pinned (OpenSpec.ofChange Rows.vaultWithSpec) :=
  OpenClaim.holds_of_wide 7 Tryd.f7 rfl rfl rfl rfl rfl rfl rfl ⟨rfl, rfl, rfl, rfl, rfl⟩ rfl rfl rfl rfl rfl (by kernel_rfl) Tryd.func7 (by kernel_rfl)
    (of_decide_eq_true (by kernel_rfl)) (by unfold Func.isWrapper; first | (rw [if_pos (by decide +kernel)]; kernel_rfl) | (rw [if_neg (by decide +kernel)]; exact ⟨rfl, rfl⟩))
    (fun os started H enc _ => lifted os started H enc)
theorem proved : Rows.VaultWithSaid := over
theorem card_holds : Rows.VaultWithCardSaid :=
  Claim7.holds_tied_plain_at .later [] [.data] true (true, "befd33c438df96eb8918c194a9cbb05a43a1793848649395ecc58b965139a69d") false
    proved (fun _ h => by cases h) (by kernel_rfl) (fun _ h => by cases h) vaultWith_row_tie rfl ⟨rfl, rfl⟩ (by kernel_rfl) rfl
    (fun f fn hf hfn => by
      obtain rfl : f = 7 := Option.some.inj ((show Tryd.prog.funcNamed "sackbut/sackbutlaw25.VaultWith" = some 7 by kernel_rfl).symm.trans hf) |>.symm
      obtain rfl : fn = Tryd.f7 := (Option.some.inj (Tryd.func7.symm.trans hfn)).symm
      exact ⟨by kernel_rfl, fun j t ht => by
        rw [Tryd.params7] at ht
        have hm := Array.mem_of_getElem? ht
        have hall : (Tryd.f7.params.toList.all fun u => !Tryd.prog.wantsStandIn u) = true := by kernel_rfl
        rw [Tryd.params7] at hall
        have h1 := List.all_eq_true.1 hall t (by simpa using hm)
        exact (show Tryd.prog.wantsStandIn t = false by simpa using h1)⟩)
    (by kernel_rfl)
end Go.Proofs.YtibmccacebhhkaaDoor.vaultWith
namespace Go.Proofs.YtibmccacebhhkaaDoor
/-- The statement, under a short name, for the claim. -/
theorem vaultWith_card_holds : Rows.VaultWithCardSaid := vaultWith.card_holds
#print axioms vaultWith_card_holds
end Go.Proofs.YtibmccacebhhkaaDoor

