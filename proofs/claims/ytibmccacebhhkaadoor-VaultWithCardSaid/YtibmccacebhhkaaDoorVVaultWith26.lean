/- VaultWith: what the claim's theorem reaches of this seat's texts, part 26, put together by this project's own program (bale.py); conditions: those of each theorem. -/
import Derived.Test.YtibmccacebhhkaaDoorVVaultWith5
import Derived.Test.YtibmccacebhhkaaDoorVVaultWith7
import Derived.Test.YtibmccacebhhkaaDoorVVaultWith8
import Derived.Test.YtibmccacebhhkaaDoorVVaultWith12
import Derived.Test.YtibmccacebhhkaaDoorVVaultWith19
import Derived.Test.YtibmccacebhhkaaDoorVVaultWith21
import Derived.Test.YtibmccacebhhkaaDoorVVaultWith25
import Derived.Shelf.Abstract
import Derived.OwnWalk
import Derived.LoopTactic
namespace Go.Proofs.YtibmccacebhhkaaDoor.VaultBack
set_option linter.unusedVariables false
open Go Go.RowKit Go.Proofs.YtibmccacebhhkaaDoor.HV Go.Proofs.YtibmccacebhhkaaDoor.VaultItems Go.Proofs.YtibmccacebhhkaaDoor.VaultUnp Go.Proofs.YtibmccacebhhkaaDoorW.PrintWords Go.Proofs.YtibmccacebhhkaaDoorW.PrintLast

structure Fits (cs : List Int → Int) (L : List S49) : Prop where
  good : goodI L = true
  nm : ∀ x ∈ L, x.f0.size ≤ 255
  len : ∀ x ∈ L, x.f1.length < 16777216
  sum : ∀ x ∈ L, 0 ≤ cs x.f1 ∧ cs x.f1 < 4294967296
end Go.Proofs.YtibmccacebhhkaaDoor.VaultBack

namespace Go.Proofs.YtibmccacebhhkaaDoor.HV
open Go.RowKit Go.Proofs.YtibmccacebhhkaaDoorW.PrintWords Go.Proofs.YtibmccacebhhkaaDoorW.PrintLast Go.Proofs.YtibmccacebhhkaaDoorW.PrintMore
attribute [local go_sem] max2_int min2_int max_two min_two max_three min_three max_four min_four   -- for this text's walks alone
set_option linter.unusedVariables false
set_option linter.unusedSimpArgs false

/-! ### sackbutlaw25_VaultPacks: function 4, by hand -/
structure AsideVP (p : Prop) : Prop where mk :: (out : p)
theorem item_heap : Kd.Heap k49 := Kd.heap_iso _ (Kd.heap_pair Kd.heap_string (Kd.heap_slice 5 (Kd.heap_int .u8)))
/-- 'ref' at a row that is read. -/
theorem law25_ref.gives (K : Nat) (P : Nat → Prop) (A : Option Addr) (c : Nat) (L : List S49) (W : World) (hl : L.length ≤ 100000) (hK : L.length < K) (hV : Kd.V k49 49 W W.heap.size P (.slice A L.length c) L) :
    Calls Tryd.prog 14 #[.slice A L.length c] W fun e w' => ∃ A2 c2, e = .returned (.slice A2 L.length c2) ∧ L.length ≤ c2 ∧ Kd.C k57 w' A2 L.length (L.map toI) ∧ Below W.heap.size W w' := by
  refine (sackbutlaw25_ref.calls K P A c L (L.map toI) W hV (VaultPk.ref_spec L hl K hK)).mono fun e w' ⟨v, he, hN, hb⟩ => ?_
  obtain ⟨A2, c2, ev⟩ := Kd.N_slice hN
  rw [ev] at hN
  obtain ⟨_, h2, h3⟩ := Kd.N_reads' hN
  rw [List.length_map] at ev h2 h3
  exact ⟨A2, c2, by rw [he, ev], h2, h3, hb⟩
theorem few_get {L : List S49} (h : VaultPk.fewB L = true) : L.length ≤ 110 ∧ ∀ x ∈ L, x.f0.size ≤ 60 ∧ x.f1.length ≤ 100 := by
  unfold VaultPk.fewB at h
  simp only [Bool.and_eq_true, List.all_eq_true, decide_eq_true_eq] at h
  refine ⟨h.2, fun x hx => ?_⟩
  have := h.1 x hx
  unfold VaultPk.fewI at this
  simpa only [Bool.and_eq_true, decide_eq_true_eq] using this
end Go.Proofs.YtibmccacebhhkaaDoor.HV

