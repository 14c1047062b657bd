/- WaveEnds: what the claim's theorem reaches of this seat's texts, part 19, put together by this project's own program (bale.py); conditions: those of each theorem. -/
import Derived.Test.YtliidobbkfmndaaVWaveEnds17
import Derived.Test.YtliidobbkfmndaaVWaveEnds18
import Derived.Test.YtliidobbkfmndaaRows
import Derived.WalkKit
import Derived.ProofKit
import Derived.OpenShut
import Derived.ShutString
import Derived.ChangeOld
import Derived.Below
import Derived.SizedLaws
namespace Go.Proofs.Ytliidobbkfmndaa.waveEnds
open Go.ChangeShapes Go.WideShapes Go.ChangeAt Go.RowKit Go.Proofs.Ytliidobbkfmndaa.HW2 Go.Proofs.YtliidobbkfmndaaW.PrintWords Go.Proofs.YtliidobbkfmndaaW.PrintLast
open Go.ChangeMaps (open_string shut_string)
set_option linter.unusedVariables false
set_option linter.unusedSimpArgs false
theorem own : ownKnob Try.prog.godebug = none := by kernel_rfl
theorem laidOut : laidOutB Try.prog = true := by kernel_rfl
set_option maxRecDepth 100000 in
theorem lifted (os : Os) (started : os.Started) (H : Type) (enc : TypeId × Value → H) :
    ReturnsInHanded {} Try.checked os 4 .any (Rows.waveEndsSpec.pre6 enc Try.prog Try.f4 Rows.waveEndsRow.domain false) (Rows.waveEndsSpec.post enc Try.prog Try.f4 false true false false) := by
  refine returnsInHanded_of_change_sized (C := Try.checked) own started (by kernel_rfl) Try.func4
    (ChangeSpec.witness6 (enc := enc) (C := Try.checked) false ⟨#[], #[.agg #[.int .i64 0, .int .i64 0, .bool false, .int .i64 0, .int .i64 0, .int .i64 0, .int .i64 0], .slice none 0 0, .int .u16 0], []⟩ 8 (by kernel_rfl) (by kernel_rfl) (by kernel_rfl) (by kernel_rfl)) ?_
  intro W base args ds gs before hval0 hW hcnd hsz0 _
  have hval : ∀ (j : Nat) t v, Try.f4.params[j]? = some t → args[j]? = some v → Value.okWide Try.prog W .any base t v := hval0
  have hW' := hW
  obtain ⟨p, q, hA0, hV, rfl, hfz, hnd⟩ := hW
  have hA : DataW.TrodAll enc Try.prog W 0 (fun _ => true) true Try.f4.params.toList args.toList ds p := hA0
  rw [Try.params4] at hA hval
  obtain ⟨v0, vs0, d0, ds0, p0, q0, hargs, rfl, rfl, h0, r0⟩ := trodAll_cons hA
  obtain ⟨v1, vs1, d1, ds1, p1, q1, rfl, rfl, rfl, h1, r1⟩ := trodAll_cons r0
  obtain ⟨v2, vs2, d2, ds2, p2, q2, rfl, rfl, rfl, h2, r2⟩ := trodAll_cons r1
  obtain ⟨rfl, rfl, rfl⟩ := trodAll_nil r2
  obtain rfl : args = #[v0, v1, v2] := by cases args; simp_all
  obtain ⟨rfl, rfl⟩ := trodVars_none hV
  have k0 := h0
  have lt0 : ∀ x ∈ p0, x.block < W.heap.size := by obtain ⟨m, hm⟩ := k0; exact DataW.trod_lt m _ _ _ hm
  obtain ⟨s0, cs0, rfl, hK0, w0⟩ := Rd.struct_arg Try.underlying23 (Rd.opens_struct Try.underlying23 (by kernel_rfl) (Rd.opensF_cons rfl (by kernel_rfl) (Rd.opens_int Try.underlying3) (Rd.opensF_cons rfl (by kernel_rfl) (Rd.opens_int Try.underlying3) (Rd.opensF_cons rfl (by kernel_rfl) (Rd.opens_bool Try.underlying4) (Rd.opensF_cons rfl (by kernel_rfl) (Rd.opens_int Try.underlying3) (Rd.opensF_cons rfl (by kernel_rfl) (Rd.opens_int Try.underlying3) (Rd.opensF_cons rfl (by kernel_rfl) (Rd.opens_int Try.underlying3) (Rd.opensF_last rfl (by kernel_rfl) (Rd.opens_int Try.underlying3))))))))) (hval 0 23 v0 rfl rfl) h0
  obtain ⟨_, _, he0_1, rfl, ⟨_, _, he0_2, rfl, ⟨_, _, he0_3, rfl, ⟨_, _, he0_4, rfl, ⟨_, _, he0_5, rfl, ⟨_, _, he0_6, rfl, rfl⟩⟩⟩⟩⟩⟩ := hK0
  obtain rfl : cs0 = #[.int .i64 s0.1, .int .i64 s0.2.1, .bool s0.2.2.1, .int .i64 s0.2.2.2.1, .int .i64 s0.2.2.2.2.1, .int .i64 s0.2.2.2.2.2.1, .int .i64 s0.2.2.2.2.2.2] := by apply Array.toList_inj.1; rw [he0_1]; simp only [he0_2, he0_3, he0_4, he0_5, he0_6, List.cons_append, List.nil_append, List.singleton_append]
  have k1 := h1
  have lt1 : ∀ x ∈ p1, x.block < W.heap.size := by obtain ⟨m, hm⟩ := k1; exact DataW.trod_lt m _ _ _ hm
  obtain ⟨A1, l1, c1, rfl, hc1, hr1, w1⟩ := Rd.slice_arg Try.underlying24 (Rd.opens_slice Try.underlying24 (by kernel_rfl) (Rd.opens_slice Try.underlying40 (by kernel_rfl) (Rd.opens_int Try.underlying3))) (hval 1 24 v1 rfl rfl) h1
  have k2 := h2
  have lt2 : ∀ x ∈ p2, x.block < W.heap.size := by obtain ⟨m, hm⟩ := k2; exact DataW.trod_lt m _ _ _ hm
  obtain ⟨a2, rfl, _, _, w2⟩ := open_int Try.underlying38 (hval 2 38 v2 rfl rfl) h2
  clear hA0 hval0 hsz0
  obtain ⟨k, h⟩ := Pure.WaveEnds (s0.1) (s0.2.1) (s0.2.2.1) (s0.2.2.2.1) (s0.2.2.2.2.1) (s0.2.2.2.2.2.1) (s0.2.2.2.2.2.2) l1 a2 (w0.1) (w0.2.1) (w0.2.2.2.1) (w0.2.2.2.2.1) (w0.2.2.2.2.2.1) (w0.2.2.2.2.2.2) (hr1.2.1) w1 w2
  refine (sackbutlaw19_WaveEnds.calls k (s0.1) (s0.2.1) (s0.2.2.1) (s0.2.2.2.1) (s0.2.2.2.2.1) (s0.2.2.2.2.2.1) (s0.2.2.2.2.2.2) A1 c1 l1 a2 true W hr1 hc1 h).mono fun e W' ⟨he, hd⟩ => ?_
  have bel : Below W.heap.size W W' := hd
  subst he
  exact ⟨_, rfl, _, _, _, [], _, [], hW', trodAll_mk1 (shut_bool Try.underlying4 _), (trodAll_cons_mk (Below.trod laidOut (by kernel_rfl) (of_decide_eq_true (by kernel_rfl)) k0 bel lt0) (trodAll_cons_mk (Below.trod laidOut (by kernel_rfl) (of_decide_eq_true (by kernel_rfl)) k1 bel lt1) (trodAll_cons_mk (Below.trod laidOut (by kernel_rfl) (of_decide_eq_true (by kernel_rfl)) k2 bel lt2) trodAll_mk0))), rfl, bel.frame _, fun h => by cases h⟩
theorem over : Rows.waveEndsRow.holds Try.pinned (OpenSpec.ofChange Rows.waveEndsSpec) :=
  OpenClaim.holds_of_wide 4 Try.f4 rfl rfl rfl rfl rfl rfl rfl ⟨rfl, rfl, rfl, rfl, rfl⟩ rfl rfl rfl rfl rfl (by kernel_rfl) Try.func4 (by kernel_rfl)
    (of_decide_eq_true (by kernel_rfl)) (by unfold Func.isWrapper; first | (rw [if_pos (by decide +kernel)]; kernel_rfl) | (rw [if_neg (by decide +kernel)]; exact ⟨rfl, rfl⟩))
    (fun os started H enc _ => lifted os started H enc)
theorem proved : Rows.WaveEndsSaid := over
end Go.Proofs.Ytliidobbkfmndaa.waveEnds
namespace Go.Proofs.Ytliidobbkfmndaa
/-- The statement, under a short name, for the claim. -/
theorem waveEnds_holds : Rows.WaveEndsSaid := waveEnds.proved
#print axioms waveEnds_holds
end Go.Proofs.Ytliidobbkfmndaa

