/- VaultNames: what the claim's theorem reaches of this seat's texts, part 23, put together by this project's own program (bale.py); conditions: those of each theorem. -/
import Derived.Test.YtibmccacebhhkaaDoorVVaultNames5
import Derived.Test.YtibmccacebhhkaaDoorVVaultNames6
import Derived.Test.YtibmccacebhhkaaDoorVVaultNames12
import Derived.Test.YtibmccacebhhkaaDoorVVaultNames15
import Derived.Test.YtibmccacebhhkaaDoorVVaultNames16
import Derived.Test.YtibmccacebhhkaaDoorVVaultNames20
import Derived.Test.YtibmccacebhhkaaDoorVVaultNames21
import Derived.Test.YtibmccacebhhkaaDoorVVaultNames22
import Derived.Shelf.Abstract
import Derived.OwnWalk
import Derived.LoopTactic
namespace Go.Proofs.YtibmccacebhhkaaDoor.HV
open Go.RowKit Go.Proofs.YtibmccacebhhkaaDoorW.PrintWords Go.Proofs.YtibmccacebhhkaaDoorW.PrintLast Go.Proofs.YtibmccacebhhkaaDoorW.PrintMore
attribute [local go_sem] max2_int min2_int max_two min_two max_three min_three max_four min_four   -- for this text's walks alone
set_option linter.unusedVariables false
set_option linter.unusedSimpArgs false

/-! ### sackbutlaw25_VaultNames: function 3, by hand -/
structure AsideLN (p : Prop) : Prop where mk :: (out : p)
/-- The sum of bytes, as a number. -/
def csC (l : List Int) : Int := ((TollMath.crc l : Nat) : Int)
theorem csC_range (l : List Int) (h : ∀ x ∈ l, 0 ≤ x ∧ x < 256) : 0 ≤ csC l ∧ csC l < 4294967296 := by
  have := TollMath.crc_lt l h
  unfold csC
  omega
theorem csC_toll (l : List Int) (h : ∀ x ∈ l, 0 ≤ x ∧ x < 256) (K : Nat) (hK : l.length < K) (hK2 : K ≤ 1000000) : toll_Sum.f K l = some (csC l) := TollSpec.sum_spec l h (by omega) K hK
theorem csC_ref (l : List Int) (h : ∀ x ∈ l, 0 ≤ x ∧ x < 256) (K : Nat) (hK : l.length + 20 < K) (hl : l.length ≤ 100000) : sackbutref04_Sum.f K l = some (csC l) := TollSpec.ref_sum_spec l h hl K hK
set_option maxRecDepth 100000 in
theorem vault_Names.gives (A : Option Addr) (n c : Nat) (w : World) :
    Calls Tryd.prog 10 #[.slice A n c] w fun e w' => e = .returned (.func (.func 27) #[] #[.pointer (some ⟨w.heap.size, 0, none⟩)]) ∧ w' = w.alloc (.cells #[.slice A n c] 22) := by
  go_enter Tryd.func10, Tryd.ntmps10
  go_wp2
  go_ret
  exact ⟨rfl, rfl⟩
set_option maxRecDepth 100000 in
set_option maxHeartbeats 2000000 in
theorem law25_names.long (A : Option Addr) (n c : Nat) (t : Int) (w : World) (hG : GL w) (h : 2000 < n) :
    Calls Tryd.prog 3 #[.slice A n c, .int .u8 t] w fun e w' => e = .returned (.bool true) ∧ Below w.heap.size w w' := by
  have HAW := AsideLN.mk (fun (W : World) (hW : Below w.heap.size w W) => law25_awake.gives W (hG.of_below hW))
  have HB0 := AsideLN.mk (Below.refl w.heap.size w)
  have hi : (2000 : Int) < (n : Int) := by omega
  have hd : decide ((2000 : Int) < (n : Int)) = true := decide_eq_true hi
  have tok1 : True := trivial
  clear hG h
  go_enter Tryd.func3, Tryd.ntmps3
  go_wp2_with (first | (go_at_call 8; have _t := tok1; (with_reducible refine (HAW.out _ HB0.out).mono ?_); clear tok1 _t; rintro e w1 ⟨rfl, hb⟩; have HB1 := AsideLN.mk hb; clear hb) | (go_at_call 8; (with_reducible refine (HAW.out _ HB1.out).mono ?_); rintro e w2 ⟨rfl, hb⟩; have HB2 := AsideLN.mk (below_step HB1.out hb); clear hb))
  go_ret
  exact ⟨rfl, HB2.out⟩
set_option maxRecDepth 100000 in
set_option maxHeartbeats 4000000 in
theorem law25_names.main (A : Option Addr) (b : List Int) (n c t : Nat) (w : World) (hG : GL w) (hc : n ≤ c) (hn : n ≤ 2000) (ht : t < 256) (hR : Kd.C (Kd.int .u8) w A n b) (hby : ∀ x ∈ b, 0 ≤ x ∧ x < 256) :
    Calls Tryd.prog 3 #[.slice A n c, .int .u8 t] w fun e w' => e = .returned (.bool true) ∧ Below w.heap.size w w' := by
  have hbn : b.length = n := hR.1
  have hcs1 : ∀ m, m ≤ n → toll_Sum.f 5000 (b.take m) = some (csC (b.take m)) ∧ 0 ≤ csC (b.take m) ∧ csC (b.take m) < 4294967296 := fun m hm => ⟨csC_toll _ (fun x hx => hby x (List.mem_of_mem_take hx)) 5000 (by rw [List.length_take]; omega) (by omega), csC_range _ (fun x hx => hby x (List.mem_of_mem_take hx))⟩
  have hcs2 : ∀ m, m ≤ n → sackbutref04_Sum.f 5000 (b.take m) = some (csC (b.take m)) ∧ 0 ≤ csC (b.take m) ∧ csC (b.take m) < 4294967296 := fun m hm => ⟨csC_ref _ (fun x hx => hby x (List.mem_of_mem_take hx)) 5000 (by rw [List.length_take]; omega) (by rw [List.length_take]; omega), csC_range _ (fun x hx => hby x (List.mem_of_mem_take hx))⟩
  obtain ⟨at_, hro, _, _⟩ := VaultOpen.open_eq csC b hby
  have HRO := AsideLN.mk (fun (W : World) (hW : Below w.heap.size w W) => ref_open.gives 5000 csC A b n c W hc (by omega) (Kd.C_below hR hW) hby hcs2 (fun l hl hb => VaultNum.number_be l hl hb 5000 (by omega)) (fun s hs => VaultNum.right_named s hs 5000 (by omega)))
  have HNA := AsideLN.mk (fun (w1 W : World) (pb pk pn pw pm m : Nat) (AL : Option Addr) (cL : Nat) h1 h2 h3 h4 h5 h6 h7 h8 h9 h10 h11 h12 h13 => vault_Names1.gives 5000 csC A b n c w w1 W pb pk pn pw pm m AL cL hG hc hR hby hcs1 h1 h2 h3 h4 h5 h6 h7 h8 h9 h10 h11 h12 h13)
  have HAW := AsideLN.mk (fun (W : World) (hW : Below w.heap.size w W) => law25_awake.gives W (hG.of_below hW))
  have hlen := VaultOpen.open_len csC b hby
  rw [hro] at HRO
  generalize openS csC b = r at *
  obtain ⟨E, rest, code⟩ := r
  have HB0 := AsideLN.mk (Below.refl w.heap.size w)
  have hi : ¬ (2000 : Int) < (n : Int) := by omega
  have hd : decide ((2000 : Int) < (n : Int)) = false := decide_eq_false hi
  have ht0 : (0 : Int) ≤ (t : Int) := by omega
  have ht1 : (t : Int) ≤ 255 := by omega
  clear hG hR hby hcs1 hcs2 hro
  go_enter Tryd.func3, Tryd.ntmps3
  go_upto_region 5 with (first | (go_at_call 8; (with_reducible refine (HAW.out _ HB0.out).mono ?_); rintro e w1 ⟨rfl, hb⟩; have HB1 := AsideLN.mk hb; clear hb) | (go_at_call 9; (with_reducible refine (HRO.out _ HB1.out).mono ?_); rintro e w2 ⟨v, rfl, ho, hb⟩; have HB2 := AsideLN.mk (below_step HB1.out hb); have HO2 := AsideLN.mk ho; obtain ⟨Aw, cw, ew⟩ := Kd.R_slice ho; subst ew; clear ho hb))
  obtain ⟨m, hm⟩ : ∃ m : Nat, t % 120 = m := ⟨_, rfl⟩
  have hmi : (t : Int) % 120 = (m : Int) := by omega
  rw [hmi]
  have hm119 : m ≤ 119 := by omega
  obtain ⟨o1, ho1⟩ : ∃ o1, o1 = Obj.cells #[.slice Aw E.length cw] 24 (0, 0) := ⟨_, rfl⟩
  obtain ⟨o2, ho2⟩ : ∃ o2, o2 = Obj.cells #[.int .i64 0] 3 (0, 0) := ⟨_, rfl⟩
  obtain ⟨o3, ho3⟩ : ∃ o3, o3 = Obj.cells #[.int .i64 (m : Int)] 3 (0, 0) := ⟨_, rfl⟩
  obtain ⟨o4, ho4⟩ : ∃ o4, o4 = Obj.cells #[.bool true] 4 (0, 0) := ⟨_, rfl⟩
  have s1 : (w2.alloc o1).heap.size = w2.heap.size + 1 := Array.size_push _
  have s2 : ((w2.alloc o1).alloc o2).heap.size = w2.heap.size + 1 + 1 := by rw [← s1]; exact Array.size_push _
  have s3 : (((w2.alloc o1).alloc o2).alloc o3).heap.size = w2.heap.size + 1 + 1 + 1 := by rw [← s2]; exact Array.size_push _
  have hb23 : Below w2.heap.size w2 ((((w2.alloc o1).alloc o2).alloc o3).alloc o4) := below_alloc (below_alloc (below_alloc (below_alloc (Below.refl _ _) _) _) _) _
  have hC := (Kd.R_reads' HO2.out).2.2
  have hS : NmSt ((((w2.alloc o1).alloc o2).alloc o3).alloc o4) (w2.heap.size + 1 + 1 + 1) (w2.heap.size + 1) w2.heap.size (w2.heap.size + 1 + 1) 0 m Aw cw (E.map toR) := by
    refine ⟨?_, ?_, ?_, ?_, Kd.C_below hC hb23⟩
    · have h := blk_new (((w2.alloc o1).alloc o2).alloc o3) o4
      rw [s3] at h
      rw [h, ho4]
    · have h := blk_new (w2.alloc o1) o2
      rw [s1] at h
      rw [blk_alloc (blk_alloc h o3) o4, ho2]
      rfl
    · rw [blk_alloc (blk_alloc (blk_alloc (blk_new w2 o1) o2) o3) o4, ho1, List.length_map]
    · have h := blk_new ((w2.alloc o1).alloc o2) o3
      rw [s2] at h
      rw [blk_alloc h o4, ho3]
  rw [← ho1, ← ho2, ← ho3, ← ho4]
  have HC2 := AsideLN.mk hC
  generalize (((w2.alloc o1).alloc o2).alloc o3).alloc o4 = w3 at hb23 hS ⊢
  have HCN := AsideLN.mk (HNA.out w2 (w3.alloc (.cells #[.slice A n c] 22)) w3.heap.size (w2.heap.size + 1 + 1 + 1) (w2.heap.size + 1) w2.heap.size (w2.heap.size + 1 + 1) m Aw cw (hS.below ((Below.refl _ _).alloc (Nat.le_refl _) _)) hC (by omega) HB2.out (below_alloc hb23 _) (blk_new w3 _) (by omega) (by omega) (by omega) (by omega) (by omega) (by omega) (by omega))
  clear hC hS hb23 s1 s2 s3 ho1 ho2 ho3 ho4 hmi hm HNA HRO
  have HEL := AsideLN.mk hlen
  generalize hg : w2.heap.size = g at HCN ⊢
  have HGG := AsideLN.mk hg
  clear hg
  go_upto_region 6 with (first | (go_at_call 10; (with_reducible refine (vault_Names.gives A n c _).mono ?_); rintro e w4 ⟨rfl, rfl⟩) | (go_at_call 27; refine (HCN.out).mono ?_; rintro e w5 ⟨rfl, hS5, hb5⟩; have HS5 := AsideLN.mk hS5; have HB5 := AsideLN.mk hb5; clear hS5 hb5))
  obtain ⟨f0, _⟩ := one_cell HS5.out.ok
  obtain ⟨f1, _⟩ := one_cell HS5.out.n
  obtain ⟨f2, _⟩ := one_cell HS5.out.want
  obtain ⟨f3, _⟩ := one_cell HS5.out.m
  rw [List.length_map] at f2
  have HBW := AsideLN.mk (below_step HB2.out (by have h := HB5.out; rw [← HGG.out] at h; exact h))
  obtain ⟨e, he⟩ : ∃ e, E.length = e := ⟨_, rfl⟩
  simp only [he] at f1 f2
  have hcase : (1 < m ∧ m ≤ e ∧ min e (max m 1) = m) ∨ (1 < m ∧ e < m ∧ min e (max m 1) = e) ∨ (m ≤ 1 ∧ 1 ≤ e ∧ min e (max m 1) = 1) ∨ (m ≤ 1 ∧ e < 1 ∧ min e (max m 1) = e) := by omega
  clear HCN HAW he
  rcases hcase with ⟨k1, k2, k3⟩ | ⟨k1, k2, k3⟩ | ⟨k1, k2, k3⟩ | ⟨k1, k2, k3⟩
  all_goals
    rw [k3] at f1
    clear k3
    go_wp2_with (fail)
  all_goals go_ret
  all_goals exact ⟨by first | rfl | (show Ending.returned (.bool (((m : Nat) : Int) == ((e : Nat) : Int))) = _; rw [beq_iff_eq.2 (show ((m : Nat) : Int) = ((e : Nat) : Int) by omega)]) | (show Ending.returned (.bool (((e : Nat) : Int) == ((m : Nat) : Int))) = _; rw [beq_iff_eq.2 (show ((e : Nat) : Int) = ((m : Nat) : Int) by omega)]) | (show Ending.returned (.bool ((1 : Int) == ((e : Nat) : Int))) = _; rw [beq_iff_eq.2 (show (1 : Int) = ((e : Nat) : Int) by omega)]) | (show Ending.returned (.bool (((e : Nat) : Int) == (1 : Int))) = _; rw [beq_iff_eq.2 (show ((e : Nat) : Int) = (1 : Int) by omega)]) | (simp; omega), HBW.out⟩
/-- The law, for the rows: true at every list of bytes. -/
def sackbutlaw25_VaultNames.f (l0 : List Int) (a1 : Int) : Option Bool := if (l0.all (fun x => decide (0 ≤ x ∧ x < 256)) && decide (0 ≤ a1 ∧ a1 < 256)) = true then some true else none
theorem sackbutlaw25_VaultNames.calls (A0 : Option Addr) (c0 : Nat) (l0 : List Int) (a1 : Int) (r : Bool) (w : World) (hr0 : Kd.C (Kd.int .u8) w A0 l0.length l0) (hc0 : l0.length ≤ c0) (hG : GL w) (h : sackbutlaw25_VaultNames.f l0 a1 = some r) :
    Calls Tryd.prog 3 #[.slice A0 l0.length c0, .int .u8 a1] w fun e w' => e = .returned (.bool r) ∧ Below w.heap.size w w' := by
  unfold sackbutlaw25_VaultNames.f at h
  split at h
  next hd =>
    cases h
    simp only [Bool.and_eq_true, List.all_eq_true, decide_eq_true_eq] at hd
    obtain ⟨hby, h0, h1⟩ := hd
    by_cases hl : 2000 < l0.length
    · exact law25_names.long A0 l0.length c0 a1 w hG hl
    · obtain ⟨t, rfl⟩ : ∃ t : Nat, a1 = (t : Int) := ⟨a1.toNat, by omega⟩
      exact law25_names.main A0 l0 l0.length c0 t w hG hc0 (by omega) (by omega) hr0 hby
  next => cases h

end Go.Proofs.YtibmccacebhhkaaDoor.HV

namespace Go.Proofs.YtibmccacebhhkaaDoor.Pure
open Go Go.RowKit Go.Proofs.YtibmccacebhhkaaDoor.HV Go.Proofs.YtibmccacebhhkaaDoorW.PrintWords Go.Proofs.YtibmccacebhhkaaDoorW.PrintLast
/-- VaultNames: the law in numbers and lists alone. -/
def PureGVaultNames : Prop := ∀ (l0 : List (Int)) (a1 : Int), l0.length ≤ 9223372036854775807 → (∀ x ∈ l0, (Lit.int .u8 x).wf = true) → (Lit.int .u8 a1).wf = true → sackbutlaw25_VaultNames.f l0 a1 = some true
end Go.Proofs.YtibmccacebhhkaaDoor.Pure

namespace Go.Proofs.YtibmccacebhhkaaDoor.Pure
open Go Go.RowKit Go.Proofs.YtibmccacebhhkaaDoor.HV Go.Proofs.YtibmccacebhhkaaDoorW.PrintWords Go.Proofs.YtibmccacebhhkaaDoorW.PrintLast
theorem VaultNames : PureGVaultNames := by
  intro l0 a1 _ h0 h1
  unfold sackbutlaw25_VaultNames.f
  rw [if_pos]
  simp only [Bool.and_eq_true, List.all_eq_true, decide_eq_true_eq]
  exact ⟨fun x hx => TollSpec.wf_u8 (h0 x hx), TollSpec.wf_u8 h1⟩
end Go.Proofs.YtibmccacebhhkaaDoor.Pure

