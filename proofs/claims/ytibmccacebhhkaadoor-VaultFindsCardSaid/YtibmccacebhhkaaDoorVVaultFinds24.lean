/- VaultFinds: what the claim's theorem reaches of this seat's texts, part 24, put together by this project's own program (bale.py); conditions: those of each theorem. -/
import Derived.Test.YtibmccacebhhkaaDoorVVaultFinds5
import Derived.Test.YtibmccacebhhkaaDoorVVaultFinds7
import Derived.Test.YtibmccacebhhkaaDoorVVaultFinds10
import Derived.Test.YtibmccacebhhkaaDoorVVaultFinds13
import Derived.Test.YtibmccacebhhkaaDoorVVaultFinds14
import Derived.Test.YtibmccacebhhkaaDoorVVaultFinds15
import Derived.Test.YtibmccacebhhkaaDoorVVaultFinds20
import Derived.Test.YtibmccacebhhkaaDoorVVaultFinds22
import Derived.Test.YtibmccacebhhkaaDoorVVaultFinds23
import Derived.Shelf.Abstract
import Derived.OwnWalk
import Derived.LoopTactic
namespace Go.Proofs.YtibmccacebhhkaaDoor.HV
open Go.RowKit Go.Proofs.YtibmccacebhhkaaDoorW.PrintWords Go.Proofs.YtibmccacebhhkaaDoorW.PrintLast Go.Proofs.YtibmccacebhhkaaDoorW.PrintMore
attribute [local go_sem] max2_int min2_int max_two min_two max_three min_three max_four min_four   -- for this text's walks alone
set_option linter.unusedVariables false
set_option linter.unusedSimpArgs false

/-! ### sackbutlaw25_VaultNames: function 3, by hand -/
structure AsideLN (p : Prop) : Prop where mk :: (out : p)
/-- The sum of bytes, as a number. -/
def csC (l : List Int) : Int := ((TollMath.crc l : Nat) : Int)
theorem csC_range (l : List Int) (h : ∀ x ∈ l, 0 ≤ x ∧ x < 256) : 0 ≤ csC l ∧ csC l < 4294967296 := by
  have := TollMath.crc_lt l h
  unfold csC
  omega
theorem csC_toll (l : List Int) (h : ∀ x ∈ l, 0 ≤ x ∧ x < 256) (K : Nat) (hK : l.length < K) (hK2 : K ≤ 1000000) : toll_Sum.f K l = some (csC l) := TollSpec.sum_spec l h (by omega) K hK
theorem csC_ref (l : List Int) (h : ∀ x ∈ l, 0 ≤ x ∧ x < 256) (K : Nat) (hK : l.length + 20 < K) (hl : l.length ≤ 100000) : sackbutref04_Sum.f K l = some (csC l) := TollSpec.ref_sum_spec l h hl K hK
end Go.Proofs.YtibmccacebhhkaaDoor.HV

namespace Go.Proofs.YtibmccacebhhkaaDoor.HV
open Go.RowKit Go.Proofs.YtibmccacebhhkaaDoorW.PrintWords Go.Proofs.YtibmccacebhhkaaDoorW.PrintLast Go.Proofs.YtibmccacebhhkaaDoorW.PrintMore
attribute [local go_sem] max2_int min2_int max_two min_two max_three min_three max_four min_four
set_option linter.unusedVariables false
set_option linter.unusedSimpArgs false
structure AsideLF (p : Prop) : Prop where mk :: (out : p)
set_option maxRecDepth 100000 in
set_option maxHeartbeats 2000000 in
theorem law25_finds.long (A : Option Addr) (n c : Nat) (x : ByteArray) (w : World) (hG : GL w) (h : 2000 < n ∨ 60 < x.size) :
    Calls Tryd.prog 6 #[.slice A n c, .string x] w fun e w' => e = .returned (.bool true) ∧ Below w.heap.size w w' := by
  have HAW := AsideLF.mk (fun (W : World) (hW : Below w.heap.size w W) => law25_awake.gives W (hG.of_below hW))
  have HB0 := AsideLF.mk (Below.refl w.heap.size w)
  obtain ⟨m, hm⟩ : ∃ m, x.size = m := ⟨_, rfl⟩
  rw [hm] at h
  have tok1 : True := trivial
  by_cases hi : 2000 < n
  · have hi2 : (2000 : Int) < (n : Int) := by omega
    have hd : decide ((2000 : Int) < (n : Int)) = true := decide_eq_true hi2
    clear hG h hi
    go_enter Tryd.func6, Tryd.ntmps6
    go_wp2_with (first | (go_at_call 8; have _t := tok1; (with_reducible refine (HAW.out _ HB0.out).mono ?_); clear tok1 _t; rintro e w1 ⟨rfl, hb⟩; have HB1 := AsideLF.mk hb; clear hb) | (go_at_call 8; (with_reducible refine (HAW.out _ HB1.out).mono ?_); rintro e w2 ⟨rfl, hb⟩; have HB2 := AsideLF.mk (below_step HB1.out hb); clear hb))
    go_ret
    exact ⟨rfl, HB2.out⟩
  · have hm60 : 60 < m := h.resolve_left hi
    have hd : decide ((2000 : Int) < (n : Int)) = false := decide_eq_false (by omega)
    have hd2 : decide ((60 : Int) < (m : Int)) = true := decide_eq_true (by omega)
    have hi2 : ¬ (2000 : Int) < (n : Int) := by omega
    have hi3 : (60 : Int) < (m : Int) := by omega
    clear hG h hi hm60
    go_enter Tryd.func6, Tryd.ntmps6
    go_wp2_with (first | (go_at_call 8; have _t := tok1; (with_reducible refine (HAW.out _ HB0.out).mono ?_); clear tok1 _t; rintro e w1 ⟨rfl, hb⟩; have HB1 := AsideLF.mk hb; clear hb) | (go_at_call 8; (with_reducible refine (HAW.out _ HB1.out).mono ?_); rintro e w2 ⟨rfl, hb⟩; have HB2 := AsideLF.mk (below_step HB1.out hb); clear hb))
    go_ret
    exact ⟨rfl, HB2.out⟩
set_option maxRecDepth 100000 in
set_option maxHeartbeats 4000000 in
theorem law25_finds.main (A : Option Addr) (b : List Int) (n c : Nat) (x : ByteArray) (w : World) (hG : GL w) (hc : n ≤ c) (hn : n ≤ 2000) (hx : x.size ≤ 60) (hR : Kd.C (Kd.int .u8) w A n b) (hby : ∀ x ∈ b, 0 ≤ x ∧ x < 256) :
    Calls Tryd.prog 6 #[.slice A n c, .string x] w fun e w' => e = .returned (.bool true) ∧ Below w.heap.size w w' := by
  have hcs1 : ∀ l : List Int, (∀ x ∈ l, 0 ≤ x ∧ x < 256) → l.length ≤ n → toll_Sum.f 5000 l = some (csC l) ∧ 0 ≤ csC l ∧ csC l < 4294967296 := fun l hl hm => ⟨csC_toll l hl 5000 (by omega) (by omega), csC_range l hl⟩
  have hcs2 : ∀ l : List Int, (∀ x ∈ l, 0 ≤ x ∧ x < 256) → l.length ≤ n → sackbutref04_Sum.f 5000 l = some (csC l) ∧ 0 ≤ csC l ∧ csC l < 4294967296 := fun l hl hm => ⟨csC_ref l hl 5000 (by omega) (by omega), csC_range l hl⟩
  have HVF := AsideLF.mk (fun (W : World) (hW : Below w.heap.size w W) => vault_find.gives 5000 csC A b n c x W (hG.of_below hW) hc (by omega) (by omega) (Kd.C_below hR hW) hby hcs1)
  have HRF := AsideLF.mk (fun (W : World) (hW : Below w.heap.size w W) => ref_find.gives 5000 csC A b n c x W hc (by omega) (Kd.C_below hR hW) hby hcs2 (fun l hl hb => VaultNum.number_be l hl hb 5000 (by omega)) (fun s hs => VaultNum.right_named s hs 5000 (by omega)))
  have HAW := AsideLF.mk (fun (W : World) (hW : Below w.heap.size w W) => law25_awake.gives W (hG.of_below hW))
  generalize VaultItems.findV csC b x = r at *
  obtain ⟨r1, r2⟩ := r
  have HB0 := AsideLF.mk (Below.refl w.heap.size w)
  obtain ⟨m, hm⟩ : ∃ m, x.size = m := ⟨_, rfl⟩
  rw [hm] at hx
  obtain ⟨k, hk⟩ : ∃ k, r1.length = k := ⟨_, rfl⟩
  have HK := AsideLF.mk hk
  have hi : ¬ (2000 : Int) < (n : Int) := by omega
  have hd : decide ((2000 : Int) < (n : Int)) = false := decide_eq_false hi
  have hi2 : ¬ (60 : Int) < (m : Int) := by omega
  have hd2 : decide ((60 : Int) < (m : Int)) = false := decide_eq_false hi2
  clear hG hR hby hcs1 hcs2 hk
  go_enter Tryd.func6, Tryd.ntmps6
  go_upto_region 5 with (first | (go_at_call 8; (with_reducible refine (HAW.out _ HB0.out).mono ?_); rintro e w1 ⟨rfl, hb⟩; have HB1 := AsideLF.mk hb; clear hb) | (go_at_call 21; (with_reducible refine (HVF.out _ HB1.out).mono ?_); rintro e w2 ⟨A2, c2, rfl, hC, hb⟩; have HB2 := AsideLF.mk (below_step HB1.out hb); have HC2 := AsideLF.mk hC; clear hC hb) | (go_at_call 22; (with_reducible refine (HRF.out _ HB2.out).mono ?_); rintro e w3 ⟨A3, c3, rfl, hcc, hC, hb⟩; have HB3 := AsideLF.mk (below_step HB2.out hb); have hC2 := Kd.C_below HC2.out hb; have hC3 := Kd.C_below hC hb; clear hC hb hcc))
  rw [HK.out] at hC2 hC3
  simp only [HK.out]
  have hv2 := Kd.C_string (P := Tryd.prog) (c := c2) Tryd.underlying22 Tryd.underlying5 Tryd.underlying9 hC2
  have hv3 := Kd.C_string (P := Tryd.prog) (c := c3) Tryd.underlying22 Tryd.underlying5 Tryd.underlying9 hC3
  clear hC2 hC3 HVF HRF HAW
  generalize strOfNums r1 = s at *
  have hq : (s.toList == s.toList) = true := beq_self_eq_true _
  have hq2 : (r2 == r2) = true := beq_self_eq_true _
  go_wp2_with (fail)
  go_ret
  exact ⟨rfl, HB3.out⟩
/-- The law, for the rows: true at every list of bytes. -/
def sackbutlaw25_VaultFinds.f (l0 : List Int) (a1 : ByteArray) : Option Bool := if l0.all (fun x => decide (0 ≤ x ∧ x < 256)) = true then some true else none
theorem sackbutlaw25_VaultFinds.calls (A0 : Option Addr) (c0 : Nat) (l0 : List Int) (a1 : ByteArray) (r : Bool) (w : World) (hr0 : Kd.C (Kd.int .u8) w A0 l0.length l0) (hc0 : l0.length ≤ c0) (hG : GL w) (h : sackbutlaw25_VaultFinds.f l0 a1 = some r) :
    Calls Tryd.prog 6 #[.slice A0 l0.length c0, .string a1] w fun e w' => e = .returned (.bool r) ∧ Below w.heap.size w w' := by
  unfold sackbutlaw25_VaultFinds.f at h
  split at h
  next hd =>
    cases h
    simp only [List.all_eq_true, decide_eq_true_eq] at hd
    by_cases hl : 2000 < l0.length ∨ 60 < a1.size
    · exact law25_finds.long A0 l0.length c0 a1 w hG hl
    · exact law25_finds.main A0 l0 l0.length c0 a1 w hG hc0 (by omega) (by omega) hr0 hd
  next => cases h

end Go.Proofs.YtibmccacebhhkaaDoor.HV

namespace Go.Proofs.YtibmccacebhhkaaDoor.Pure
open Go Go.RowKit Go.Proofs.YtibmccacebhhkaaDoor.HV Go.Proofs.YtibmccacebhhkaaDoorW.PrintWords Go.Proofs.YtibmccacebhhkaaDoorW.PrintLast
/-- VaultFinds: the law in numbers and lists alone. -/
def PureGVaultFinds : Prop := ∀ (l0 : List (Int)) (a1 : ByteArray), l0.length ≤ 9223372036854775807 → (∀ x ∈ l0, (Lit.int .u8 x).wf = true) → a1.size ≤ maxLen → sackbutlaw25_VaultFinds.f l0 a1 = some true
end Go.Proofs.YtibmccacebhhkaaDoor.Pure

namespace Go.Proofs.YtibmccacebhhkaaDoor.Pure
open Go Go.RowKit Go.Proofs.YtibmccacebhhkaaDoor.HV Go.Proofs.YtibmccacebhhkaaDoorW.PrintWords Go.Proofs.YtibmccacebhhkaaDoorW.PrintLast
theorem VaultFinds : PureGVaultFinds := by
  intro l0 a1 _ h0 _
  unfold sackbutlaw25_VaultFinds.f
  rw [if_pos]
  simp only [List.all_eq_true, decide_eq_true_eq]
  exact fun x hx => TollSpec.wf_u8 (h0 x hx)
end Go.Proofs.YtibmccacebhhkaaDoor.Pure

