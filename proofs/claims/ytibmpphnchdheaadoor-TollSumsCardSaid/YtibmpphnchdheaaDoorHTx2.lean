/- What the Go functions come to, as plain Lean functions, and that their calls do just that: written by this project's own program (hp.sh); conditions: those of each theorem. -/
import Derived.Test.YtibmpphnchdheaaDoorHTx0
import Derived.Deep.DeepFit
namespace Go.Proofs.YtibmpphnchdheaaDoor.HT
open Go.RowKit Go.Proofs.YtibmpphnchdheaaDoorW.PrintWords Go.Proofs.YtibmpphnchdheaaDoorW.PrintLast Go.Proofs.YtibmpphnchdheaaDoorW.PrintMore
attribute [local go_sem] max2_int min2_int max_two min_two max_three min_three max_four min_four   -- for this text's walks alone
set_option linter.unusedVariables false
set_option linter.unusedSimpArgs false

/-! ### toll_half: function 17, by hand -/
def halvesL : List Int := [0, 498536548, 997073096, 651767980, 1994146192, 1802195444, 1303535960, 1342533948, 3988292384, 4027552580, 3604390888, 3412177804, 2607071920, 2262029012, 2685067896, 3183342108]
/-- The table's cells. -/
def GL (w : World) : Prop := ∀ j, j < 16 → w.cell? ⟨0, j, none⟩ = some (.int .u32 (halvesL.getD j 0))
theorem GL.of_heap {w w' : World} (h : GL w) (e : w'.heap = w.heap) : GL w' := by
  intro j hj
  have h1 := h j hj
  unfold World.cell? at h1 ⊢
  rw [e]
  exact h1
theorem GL.of_below {w W : World} (h : GL w) (hb : Below w.heap.size w W) : GL W := fun j hj => pw_cell_below hb (h j hj)
def toll_half.f (a0 : Int) : Option Int := if 0 ≤ a0 ∧ a0 < 4294967296 then some (Go.bits .xor .u32 (a0 / 16) (halvesL.getD (a0 % 16).toNat 0)) else none
theorem half_and15 (x : Int) (h0 : 0 ≤ x) (h1 : x < 4294967296) : Go.bits .and .u32 x 15 = x % 16 := by
  obtain ⟨n, rfl⟩ := Int.eq_ofNat_of_zero_le h0
  exact bits_mask .u32 32 (by decide) (fun n h0 h1 => by rw [IntKind.wrap_u32]; omega) 4 (by decide) _ h0 h1
set_option maxHeartbeats 800000 in
theorem toll_half.calls (a0 : Int) (r : Int) (w : World) (hG : GL w) (h : toll_half.f a0 = some r) :
    Calls Tryd.prog 17 #[.int .u32 a0] w fun e w' => e = .returned (.int .u32 r) ∧ Drawn0 w w' := by
  unfold toll_half.f at h
  split at h
  · rename_i hb
    obtain ⟨h0, h1⟩ := hb
    obtain rfl := Option.some.inj h
    have hc := hG (a0 % 16).toNat (by omega)
    clear hG h
    generalize hv : halvesL.getD (a0 % 16).toNat 0 = v at hc ⊢
    clear hv
    have ha := half_and15 a0 h0 h1
    have hi0 : 0 ≤ a0 % 16 := by omega
    have hi1 : a0 % 16 < 16 := by omega
    go_enter Tryd.func17, Tryd.ntmps17
    go_wp2
    go_ret
    exact ⟨by first | rfl | (simp; done), ⟨0, rfl⟩⟩
  · cases h

end Go.Proofs.YtibmpphnchdheaaDoor.HT
