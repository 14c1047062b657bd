/- VaultWith: what the claim's theorem reaches of this seat's texts, part 33, put together by this project's own program (bale.py); conditions: those of each theorem. -/
import Derived.Test.YtibmccacebhhkaaDoorRows
import Derived.WalkKit
import Derived.ProofKit
import Derived.LaidMore
import Derived.OpenShut
import Derived.Stop.Joined
namespace Go.Proofs.YtibmccacebhhkaaDoor.Laid
open Go.ChangeShapes Go.WideShapes Go.ChangeAt Go.RowKit
theorem gH : Tryd.prog.globalNamed "sackbut/toll.halves" = some 0 := by kernel_rfl
theorem tH : (Tryd.prog.globals[0]?).map (·.type) = some 115 := by kernel_rfl
abbrev L : List (String × DataW Unit) := [("sackbut/toll.halves", Rows.laid_sackbut_toll_halves)]
def tab : List Int := [0, 498536548, 997073096, 651767980, 1994146192, 1802195444, 1303535960, 1342533948, 3988292384, 4027552580, 3604390888, 3412177804, 2607071920, 2262029012, 2685067896, 3183342108]
theorem tab_data : (Rows.laid_sackbut_toll_halves : DataW Unit) = .agg (tab.map fun n => .lit (.int .u32 n)) := rfl
theorem door_met (os : Os) (args : Array Value) : laidMetH Tryd.prog L ((World.doorLaid Tryd.prog 400 os).forCall (fun _ _ => 0) ⟨#[], args, []⟩).memory :=
  laidMetH_of_parts3 (fuel := 8) (laidMet_of_run' 8 (by kernel_rfl) (by kernel_rfl)) (by kernel_rfl) (by kernel_rfl)
theorem of_laid {W : World} (h : laidMetH Tryd.prog L W) : ∀ j, j < 16 → W.cell? ⟨0, j, none⟩ = some (.int .u32 (tab.getD j 0)) := by
  rw [MakeChecks.laidMetH_plain _ _ _ (by kernel_rfl)] at h
  obtain ⟨ps, ⟨g0, t0, cs0, f0, p0, q0, hg0, ht0, hv0, hd0, _, _⟩, _, _⟩ := h
  obtain rfl := Option.some.inj (gH.symm.trans hg0)
  obtain rfl := Option.some.inj (tH.symm.trans ht0)
  rw [tab_data] at hd0
  obtain ⟨xs, m1, rfl, hx1, hlen, hn3, hel⟩ := DataW.trod_array Tryd.underlying115 hd0
  have c3 : Tryd.prog.cellsOf 59 = 1 := by kernel_rfl
  have c24 : Tryd.prog.cellsOf 115 = 16 := by kernel_rfl
  rw [c24] at hlen
  simp only [Prod.mk.injEq, DataW.agg.injEq] at hx1
  intro j hj
  have h0 := hel j hj
  rw [c3, Nat.mul_one] at h0
  have hxs : xs[j]? = some xs[j] := List.getElem?_eq_getElem (by omega)
  rw [hxs] at h0
  obtain ⟨k, e1, e2, _⟩ := DataW.trod_int Tryd.underlying59 h0
  have hk : xs[j].1 = .lit (.int .u32 (tab.getD j 0)) := by
    have h1 : (xs.map (·.1))[j]? = (tab.map fun n => (DataW.lit (.int .u32 n) : DataW Unit))[j]? := by rw [hx1.1]
    have ht : j < tab.length := hj
    rw [List.getElem?_map, List.getElem?_map, hxs, List.getElem?_eq_getElem ht] at h1
    simp only [Option.map_some, Option.some.injEq] at h1
    rw [h1, List.getD_eq_getElem?_getD, List.getElem?_eq_getElem ht]
    rfl
  rw [e2] at hk
  simp only [DataW.lit.injEq, Lit.int.injEq, true_and] at hk
  subst hk
  rw [World.var?_cell hg0 hv0 j]
  have hcs : (cs0.toList.drop j).take 1 = [cs0.toList[j]'(by omega)] := by
    rw [List.drop_eq_getElem_cons (by omega), List.take_succ_cons, List.take_zero]
  rw [hcs] at e1
  simp only [List.cons.injEq, and_true] at e1
  rw [← e1]
  simp
end Go.Proofs.YtibmccacebhhkaaDoor.Laid

