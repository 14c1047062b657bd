/- What the Go functions come to, as plain Lean functions, and that their calls do just that: written by this project's own program (hp.sh); conditions: those of each theorem. -/
import Derived.Test.YtibmpphnchdheaaDoorHTx0
import Derived.Test.YtibmpphnchdheaaDoorHTx2
import Derived.Test.YtibmpphnchdheaaDoorHTx3
import Derived.Lib.SlBytesConst
import Derived.WalkSpells
namespace Go.Proofs.YtibmpphnchdheaaDoor.HT
open Go.RowKit Go.Proofs.YtibmpphnchdheaaDoorW.PrintWords Go.Proofs.YtibmpphnchdheaaDoorW.PrintLast Go.Proofs.YtibmpphnchdheaaDoorW.PrintMore
attribute [local go_sem] max2_int min2_int max_two min_two max_three min_three max_four min_four   -- for this text's walks alone
set_option linter.unusedVariables false
set_option linter.unusedSimpArgs false

/-! ### sackbutlaw04_awake: function 6, by hand -/
def sackbutlaw04_awake.f : Option Bool := some true
theorem awake_sum : toll_Sum.f 60 [49, 50, 51, 52, 53, 54, 55, 56, 57] = some 3421780262 := by decide +kernel
theorem reads_marked (w : World) (xs : List Int) (m : Nat × Nat) (hm : xs.length ≤ 1000) : ReadsInt (w.alloc (.cells (nums .u8 xs).toArray 5 m)) .u8 (some ⟨w.heap.size, 0, none⟩) xs.length xs := by
  refine ⟨rfl, by omega, fun _ => ⟨_, rfl, fun j hj => ?_⟩⟩
  rw [add_plain, World.cell?_alloc_mark]
  simp [nums, List.getElem?_eq_getElem hj, List.getD_eq_getElem?_getD]
theorem sackbutlaw04_awake.calls (r : Bool) (w : World) (hG : GL w) (h : sackbutlaw04_awake.f = some r) :
    Calls Tryd.prog 6 #[] w fun e w' => e = .returned (.bool r) ∧ Below w.heap.size w w' := by
  obtain rfl : true = r := Option.some.inj h
  clear h
  have kc := fun (w : World) (C : Array Value) (n c : Nat) => Lib.run_convert_bytes_const (P := Tryd.prog) w 22 5 C n c Tryd.underlying22 Tryd.underlying5
  have hr := Kd.C_of_reads (d := (0 : Int)) (h1 := fun _ => rfl) (reads_marked w [49, 50, 51, 52, 53, 54, 55, 56, 57] (9, 10) (by decide))
  have hb : Below w.heap.size w (w.alloc (.cells (nums .u8 [49, 50, 51, 52, 53, 54, 55, 56, 57]).toArray 5 (9, 10))) := (Below.refl _ _).alloc (Nat.le_refl _) _
  have hC := toll_Sum.calls 60 _ 9 _ _ _ hr (by decide) (hG.of_below hb) awake_sum
  have HC := Aside0.mk hC
  have HB := Aside0.mk hb
  clear hr hb hC hG
  go_enter Tryd.func6, Tryd.ntmps6
  go_wp2_with fail
  refine HC.out.mono ?_
  rintro e w1 ⟨rfl, hb1⟩
  have HB1 := Aside0.mk (below_step HB.out hb1)
  clear hb1 HC HB kc
  go_wp2
  go_ret
  exact ⟨rfl, HB1.out⟩

end Go.Proofs.YtibmpphnchdheaaDoor.HT
