/- What the Go functions come to, as plain Lean functions, and that their calls do just that: written by this project's own program (hp.sh); conditions: those of each theorem. -/
import Derived.Test.YtibmpphnchdheaaDoorHTx0
import Derived.Test.YtibmpphnchdheaaDoorHTx6
namespace Go.Proofs.YtibmpphnchdheaaDoor.HT
open Go.RowKit Go.Proofs.YtibmpphnchdheaaDoorW.PrintWords Go.Proofs.YtibmpphnchdheaaDoorW.PrintLast Go.Proofs.YtibmpphnchdheaaDoorW.PrintMore
attribute [local go_sem] max2_int min2_int max_two min_two max_three min_three max_four min_four   -- for this text's walks alone
set_option linter.unusedVariables false
set_option linter.unusedSimpArgs false

/-! ### toll_Zeros: function 9 -/
def toll_Zeros.f (k : Nat) (a0 : Int) : Option (Int) := (toll_power.f k a0).bind fun t129 => ((toll_times.f k 4294967295 t129).bind fun t130 => (some (Go.bits .xor .u32 t130 4294967295)))
theorem toll_Zeros.mono : ∀ a0 k, LeO (toll_Zeros.f k a0) (toll_Zeros.f (k + 1) a0) := by
  intro a0 k
  unfold toll_Zeros.f
  repeat' first
      | (with_reducible exact toll_power.mono _ _)
      | (with_reducible exact toll_times.mono _ _ _)
      | (with_reducible exact LeO.refl _)
      | (with_reducible exact LeO.none _)
      | (with_reducible refine LeO.ite ?_ ?_)
      | (with_reducible refine LeO.bind ?_ (fun _ => ?_))
      | exact toll_power.mono _ _
      | exact toll_times.mono _ _ _
      | exact LeO.none _
      | refine LeO.ite ?_ ?_
      | refine LeO.bind ?_ (fun _ => ?_)
set_option maxHeartbeats 8000000 in
set_option maxRecDepth 100000 in
theorem toll_Zeros.calls (k : Nat) (a0 : Int) (r : Int) (w : World) (h : toll_Zeros.f k a0 = some r) :
    Calls Tryd.prog 9 #[.int .i64 a0] w fun e w' => e = .returned (.int .u32 r) ∧ Drawn0 w w' := by
  have H : ((toll_power.f k a0).bind fun t129 => ((toll_times.f k 4294967295 t129).bind fun t130 => (some (Go.bits .xor .u32 t130 4294967295)))) = some r := h
  clear h
  replace H := Option.bind_eq_some_iff.mp H
  obtain ⟨t129, A20, H⟩ := H
  replace H : ((toll_times.f k 4294967295 t129).bind fun t130 => (some (Go.bits .xor .u32 t130 4294967295))) = some r := H
  have A2 := Aside0.mk A20
  clear A20
  replace H := Option.bind_eq_some_iff.mp H
  obtain ⟨t130, A30, H⟩ := H
  replace H : (some (Go.bits .xor .u32 t130 4294967295)) = some r := H
  have A3 := Aside0.mk A30
  clear A30
  obtain rfl := Option.some.inj H
  go_enter Tryd.func9, Tryd.ntmps9
  go_wp2_with (first | ((with_reducible refine gate_callee (f := 16) rfl ?_); refine goesL_ (some 4) rfl rfl Tryd.func16 (by kernel_rfl) rfl #[.int .i64 a0] rfl (by (try simp only [List.map_toArray, List.map_cons, List.map_nil]); first | done | rfl | (simp only [List.length_drop, List.length_take]; rfl)) ?_; (with_reducible refine (toll_power.calls k a0 t129 _ A2.out).mono ?_); rintro e w' ⟨rfl, ⟨nd, rfl⟩⟩; refine ⟨_, rfl, ?_⟩) | ((with_reducible refine gate_callee (f := 15) rfl ?_); refine goesL_ (some 5) rfl rfl Tryd.func15 (by kernel_rfl) rfl #[.int .u32 4294967295, .int .u32 t129] rfl (by (try simp only [List.map_toArray, List.map_cons, List.map_nil]); first | done | rfl | (simp only [List.length_drop, List.length_take]; rfl)) ?_; (with_reducible refine (toll_times.calls k 4294967295 t129 t130 _ A3.out).mono ?_); rintro e w' ⟨rfl, ⟨nd, rfl⟩⟩; refine ⟨_, rfl, ?_⟩))
  go_ret
  exact ⟨by first | rfl | (simp; done) | (simp [*]; done), by repeat (first | exact Drawn0.refl _ | apply Drawn0.step)⟩

end Go.Proofs.YtibmpphnchdheaaDoor.HT
