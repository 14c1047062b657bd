/- VaultFinds: what the claim's theorem reaches of this seat's texts, part 12, put together by this project's own program (bale.py); conditions: those of each theorem. -/
import Derived.Test.YtibmccacebhhkaaDoorVVaultFinds5
import Derived.Test.YtibmccacebhhkaaDoorVVaultFinds7
import Derived.Test.YtibmccacebhhkaaDoorVVaultFinds11
import Derived.Laws.BitsLemmas
namespace Go.Proofs.YtibmccacebhhkaaDoor.HV
open Go.RowKit Go.Proofs.YtibmccacebhhkaaDoorW.PrintWords Go.Proofs.YtibmccacebhhkaaDoorW.PrintLast Go.Proofs.YtibmccacebhhkaaDoorW.PrintMore
attribute [local go_sem] max2_int min2_int max_two min_two max_three min_three max_four min_four   -- for this text's walks alone
set_option linter.unusedVariables false
set_option linter.unusedSimpArgs false

/-! ### vault_entry_bytes: function 34 -/
def vault_entry_bytes.f (k : Nat) (a0_0 : ByteArray) (a0_1 : Int) (a0_2 : Int) (l1 : List Int) (a2 : Int) : Option (List Int × Int) := if (wrap64 ((l1.length : Int) - a2)) < a0_1 then (some (([] : List Int), 3)) else (if 0 ≤ a2 then (if a2 ≤ (wrap64 (a2 + a0_1)) then (if (wrap64 (a2 + a0_1)) ≤ (l1.length : Int) then ((slices_Clone_byte_byte.f ((l1.take ((wrap64 (a2 + a0_1)) : Int).toNat).drop (a2 : Int).toNat)).bind fun t152 => ((toll_Sum.f k t152).bind fun t155 => (if (wrap64 (t155)) = a0_2 then (some (t152, 0)) else (some (([] : List Int), 13))))) else (none)) else (none)) else (none))
set_option maxHeartbeats 8000000 in
set_option maxRecDepth 100000 in
theorem vault_entry_bytes.calls (k : Nat) (a0_0 : ByteArray) (a0_1 : Int) (a0_2 : Int) (A1 : Option Addr) (c1 : Nat) (l1 : List Int) (a2 : Int) (r1 : List Int) (r2 : Int) (w : World) (hr1 : Kd.C (Kd.int .u8) w A1 l1.length l1) (hc1 : l1.length ≤ c1) (hG : GL w) (h : vault_entry_bytes.f k a0_0 a0_1 a0_2 l1 a2 = some (r1, r2)) :
    Calls Tryd.prog 34 #[.agg #[.string a0_0, .int .i64 a0_1, .int .i64 a0_2], .slice A1 l1.length c1, .int .i64 a2] w fun e w' => ∃ v0_ : Value, e = .returned (.tuple #[v0_, .int .i64 r2]) ∧ Kd.R (Kd.int .u8) 5 w' w.heap.size (fun _ => True) v0_ r1 ∧ Below w.heap.size w w' := by
  have hu67 := Tryd.underlying67
  have HR1 := Aside0.mk hr1
  have HC1 := Aside0.mk hc1
  clear hr1 hc1
  have HB := Aside0.mk (Below.refl w.heap.size w)
  have H : (if (wrap64 ((l1.length : Int) - a2)) < a0_1 then (some (([] : List Int), 3)) else (if 0 ≤ a2 then (if a2 ≤ (wrap64 (a2 + a0_1)) then (if (wrap64 (a2 + a0_1)) ≤ (l1.length : Int) then ((slices_Clone_byte_byte.f ((l1.take ((wrap64 (a2 + a0_1)) : Int).toNat).drop (a2 : Int).toNat)).bind fun t152 => ((toll_Sum.f k t152).bind fun t155 => (if (wrap64 (t155)) = a0_2 then (some (t152, 0)) else (some (([] : List Int), 13))))) else (none)) else (none)) else (none))) = some (r1, r2) := h
  clear h
  by_cases c4 : (wrap64 ((l1.length : Int) - a2)) < a0_1
  · rw [if_pos c4] at H
    have c4b0 : decide ((wrap64 ((l1.length : Int) - a2)) < a0_1) = true := decide_eq_true c4
    clear c4
    simp only [Option.some.injEq, Prod.mk.injEq] at H
    obtain ⟨rfl, rfl⟩ := H
    go_enter Tryd.func34, Tryd.ntmps34
    go_wp2_with (first | ((with_reducible refine gate_dst (N := 3) rfl ?_); refine box_event ?hg (N := 3) ?hd (cs := #[.string a0_0, .int .i64 a0_1, .int .i64 a0_2]) (t := 67) ?hr ?_; (case hd => rfl); (case hg => rfl); (case hr => first | (go_simp; done) | (go_simp; rfl)); intro gb150 hg w5 hbox hb; have n0_ := Aside0.mk (below_step (by repeat (first | (with_reducible first | exact HB.out | apply below_alloc | apply pw_below_drewN | apply below_drew1) | exact HB.out)) hb); have n1_ := Aside0.mk (hbox); have n2_ := Aside0.mk ((by rw [hg]; exact (below_size (by repeat (first | (with_reducible first | exact HB.out | apply below_alloc | apply pw_below_drewN | apply below_drew1) | exact HB.out))) : w.heap.size ≤ gb150)); have n3_ := Aside0.mk ((by rw [hg]; exact (below_size (by repeat (first | (with_reducible first | exact HB.out | apply below_alloc | apply pw_below_drewN | apply below_drew1) | exact HB.out))) : w.heap.size ≤ gb150)); clear HB; have HB := n0_; have BK150 := n1_; have GW150 := n2_; have GE150 := n3_; clear n0_ n1_ n2_ n3_; clear hb hbox hg; have hcz6_0 : w5.cell? ⟨gb150, 0, none⟩ = some (.string a0_0) := (blk_cell BK150.out 0).trans rfl; have hcz6_1 : w5.cell? ⟨gb150, 1, none⟩ = some (.int .i64 a0_1) := (blk_cell BK150.out 1).trans rfl; have hcz6_2 : w5.cell? ⟨gb150, 2, none⟩ = some (.int .i64 a0_2) := (blk_cell BK150.out 2).trans rfl; have hfz6_0 := blk_frozen BK150.out 0; have hfz6_1 := blk_frozen BK150.out 1; have hfz6_2 := blk_frozen BK150.out 2))
    go_ret2
    exact ⟨_, by first | rfl | (simp [errW_none, errW_some] <;> rfl) | (simp [*, errW_none, errW_some] <;> rfl), by first | exact Kd.R_nil _ _ _ _ _ | exact Kd.N_nil _ _ _ _ _ | exact Kd.V_nil _ _ _ _ _ | exact Kd.Q_nil _ _ _ _ _ | exact Kd.S_nil _ _ _ _ _, by repeat (first | (with_reducible first | exact HB.out | apply below_alloc | apply pw_below_drewN | apply below_drew1 | refine below_set ?_ GE150.out) | exact HB.out)⟩
  · rw [if_neg c4] at H
    have c4b0 : decide ((wrap64 ((l1.length : Int) - a2)) < a0_1) = false := decide_eq_false c4
    clear c4
    by_cases c7 : 0 ≤ a2
    · rw [if_pos c7] at H
      have c7b0 := eq_true c7
      have c7b1 : decide (0 ≤ a2) = true := decide_eq_true c7
      clear c7
      by_cases c8 : a2 ≤ (wrap64 (a2 + a0_1))
      · rw [if_pos c8] at H
        have c8b0 := eq_true c8
        have c8b1 : decide (a2 ≤ (wrap64 (a2 + a0_1))) = true := decide_eq_true c8
        by_cases c9 : (wrap64 (a2 + a0_1)) ≤ (l1.length : Int)
        · rw [if_pos c9] at H
          have c9b0 := eq_true c9
          have c9b1 : decide ((wrap64 (a2 + a0_1)) ≤ (l1.length : Int)) = true := decide_eq_true c9
          replace H := Option.bind_eq_some_iff.mp H
          obtain ⟨t152, A100, H⟩ := H
          replace H : ((toll_Sum.f k t152).bind fun t155 => (if (wrap64 (t155)) = a0_2 then (some (t152, 0)) else (some (([] : List Int), 13)))) = some (r1, r2) := H
          have A10 := Aside0.mk A100
          clear A100
          replace H := Option.bind_eq_some_iff.mp H
          obtain ⟨t155, A110, H⟩ := H
          replace H : (if (wrap64 (t155)) = a0_2 then (some (t152, 0)) else (some (([] : List Int), 13))) = some (r1, r2) := H
          have A11 := Aside0.mk A110
          clear A110
          by_cases c12 : (wrap64 (t155)) = a0_2
          · rw [if_pos c12] at H
            have c12b0 : ((wrap64 (t155)) == a0_2) = true := beq_iff_eq.mpr c12
            have c12b1 : ((wrap64 (t155)) != a0_2) = false := bne_eq_false_iff_eq.mpr c12
            clear c12
            simp only [Option.some.injEq, Prod.mk.injEq] at H
            obtain ⟨rfl, rfl⟩ := H
            go_enter Tryd.func34, Tryd.ntmps34
            try go_wp2_with (first | ((with_reducible refine gate_dst (N := 3) rfl ?_); refine box_event ?hg (N := 3) ?hd (cs := #[.string a0_0, .int .i64 a0_1, .int .i64 a0_2]) (t := 67) ?hr ?_; (case hd => rfl); (case hg => rfl); (case hr => first | (go_simp; done) | (go_simp; rfl)); intro gb150 hg w13 hbox hb; have n0_ := Aside0.mk (below_step (by repeat (first | (with_reducible first | exact HB.out | apply below_alloc | apply pw_below_drewN | apply below_drew1) | exact HB.out)) hb); have n1_ := Aside0.mk (hbox); have n2_ := Aside0.mk ((by rw [hg]; exact (below_size (by repeat (first | (with_reducible first | exact HB.out | apply below_alloc | apply pw_below_drewN | apply below_drew1) | exact HB.out))) : w.heap.size ≤ gb150)); have n3_ := Aside0.mk ((by rw [hg]; exact (below_size (by repeat (first | (with_reducible first | exact HB.out | apply below_alloc | apply pw_below_drewN | apply below_drew1) | exact HB.out))) : w.heap.size ≤ gb150)); clear HB; have HB := n0_; have BK150 := n1_; have GW150 := n2_; have GE150 := n3_; clear n0_ n1_ n2_ n3_; clear hb hbox hg; have hcz14_0 : w13.cell? ⟨gb150, 0, none⟩ = some (.string a0_0) := (blk_cell BK150.out 0).trans rfl; have hcz14_1 : w13.cell? ⟨gb150, 1, none⟩ = some (.int .i64 a0_1) := (blk_cell BK150.out 1).trans rfl; have hcz14_2 : w13.cell? ⟨gb150, 2, none⟩ = some (.int .i64 a0_2) := (blk_cell BK150.out 2).trans rfl; have hfz14_0 := blk_frozen BK150.out 0; have hfz14_1 := blk_frozen BK150.out 1; have hfz14_2 := blk_frozen BK150.out 2; obtain ⟨i015, hi015, _, hsz15, _⟩ := info_parts info5; obtain ⟨A15, hcut15, hA15, hC15⟩ := print_mid_of (P := Tryd.prog) (Value.int .u8) 0 22 5 .i64 .i64 Tryd.underlying22 hi015 hsz15 A1 c1 l1 a2 (wrap64 (a2 + a0_1)) (of_decide_eq_true (by first | (with_reducible assumption) | assumption)) (by first | omega | exact of_decide_eq_true (by first | (with_reducible assumption) | assumption)) (of_decide_eq_true (by first | (with_reducible assumption) | assumption)) HC1.out; have HR151 := Aside0.mk (Kd.C_of_reads (h1 := fun _ => rfl) (hA15 _ (Kd.reads_of_C HR1.out))); have HC151 := Aside0.mk hC15; clear hA15 hC15 hi015 hsz15) | ((with_reducible refine gate_callee (f := 39) rfl ?_); refine goesL_ (some 23) rfl rfl Tryd.func39 (by kernel_rfl) rfl #[.slice A15 ((l1.take ((wrap64 (a2 + a0_1)) : Int).toNat).drop (a2 : Int).toNat).length (c1 - a2.toNat)] rfl (by (try simp only [List.map_toArray, List.map_cons, List.map_nil]); first | done | (rw [show ((l1.take ((wrap64 (a2 + a0_1)) : Int).toNat).drop (a2 : Int).toNat).length = ((wrap64 (a2 + a0_1)).toNat - a2.toNat) from (by rw [List.length_drop, List.length_take]; have h_ : ((wrap64 (a2 + a0_1)) : Int) ≤ (l1.length : Int) := of_decide_eq_true (by first | (with_reducible assumption) | assumption); omega)] <;> rfl) | rfl | (simp only [List.length_drop, List.length_take]; rfl)) ?_; (with_reducible refine (slices_Clone_byte_byte.calls _ _ ((l1.take ((wrap64 (a2 + a0_1)) : Int).toNat).drop (a2 : Int).toNat) t152 _ ?side1 ?side2 A10.out).mono ?_); (case side1 => repeat (first | exact (Kd.C_below HR151.out HB.out) | (with_reducible refine Kd.C_alloc ?_ _) | (with_reducible refine Kd.C_drewN ?_ _) | (with_reducible refine Kd.C_drew ?_))); (case side2 => exact HC151.out); rintro e w16 ⟨v153, rfl, ho0, hb⟩; refine ⟨_, rfl, ?_⟩; have n0_ := Aside0.mk (Kd.R_lower ho0 (below_size (by repeat (first | (with_reducible first | exact HB.out | apply below_alloc | apply pw_below_drewN | apply below_drew1 | refine below_set ?_ GE150.out) | exact HB.out)))); have n1_ := Aside0.mk (blk_below (g := gb150) (o := .cells #[.string a0_0, .int .i64 a0_1, .int .i64 a0_2] 67 (0, 0)) (by (with_reducible repeat (first | refine blk_drewN ?_ _ | refine blk_drew ?_ | refine blk_alloc ?_ _)); exact BK150.out) hb); have n2_ := Aside0.mk (below_step (by repeat (first | (with_reducible first | exact HB.out | apply below_alloc | apply pw_below_drewN | apply below_drew1 | refine below_set ?_ GE150.out) | exact HB.out)) hb); clear BK150; clear HB; have HO154 := n0_; have BK150 := n1_; have HB := n2_; clear n0_ n1_ n2_; (try clear hb); (try clear hb2); (try clear hk); (try clear hi); (try clear ho0)))
            have n0_ := Aside0.mk (Kd.R_drew HO154.out)
            have n1_ := Aside0.mk (blk_drew BK150.out)
            have n2_ := Aside0.mk (below_drew1 HB.out)
            clear HO154
            clear BK150
            clear HB
            have HO154 := n0_
            have BK150 := n1_
            have HB := n2_
            clear n0_ n1_ n2_
            obtain ⟨Ao18, co18, eo18⟩ := Kd.R_slice HO154.out
            (first | subst eo18 | (injection eo18 with f1_ f2_ f3_; have f4_ := f1_.symm; have f5_ := f3_.symm; clear f1_ f2_ f3_; subst f4_; subst f5_))
            refine start_ (n := 6) (S := fun w' => w'.cell? ⟨gb150, 0, none⟩ = some (.string a0_0) ∧ w'.cell? ⟨gb150, 1, none⟩ = some (.int .i64 a0_1) ∧ w'.cell? ⟨gb150, 2, none⟩ = some (.int .i64 a0_2)) (ds := []) #[false, false, false, false, false, false] (by kernel_rfl) rfl rfl ⟨(blk_cell BK150.out 0).trans rfl, (blk_cell BK150.out 1).trans rfl, (blk_cell BK150.out 2).trans rfl⟩ (fun hHeld => ?_)
            generalize w16.drew = w17 at HO154 BK150 HB hHeld ⊢
            refine pure_ (i := 0) (N := some 24) (v := ?_) (a' := ?_) #[true, false, false, false, false, false] rfl rfl (by kernel_rfl) (fun _ _ _ h => h) (Or.inl ⟨by rfl, ?_⟩) ?_ ?_
            rotate_left
            · intro w'
              go_simp
              with_reducible rfl
            rotate_left
            · simp only [Act.put, List.setIfInBounds_toArray, List.set_cons_zero, List.set_cons_succ, i64_w, i32_w]
              rfl
            refine pure_ (i := 3) (N := some 27) (v := ?_) (a' := ?_) #[true, false, false, true, false, false] rfl rfl (by kernel_rfl) (fun _ _ _ h => h) (Or.inl ⟨by rfl, ?_⟩) ?_ ?_
            rotate_left
            · intro w'
              go_simp
              with_reducible rfl
            rotate_left
            · simp only [Act.put, List.setIfInBounds_toArray, List.set_cons_zero, List.set_cons_succ, i64_w, i32_w]
              rfl
            refine take_ (i := 4) (N := some 28) (v := ?_) (a' := ?_) #[true, false, false, true, true, false] rfl rfl (by kernel_rfl) (fun _ _ _ h => h) (Or.inl ⟨by rfl, ?_⟩) hHeld ?_ ?_
            rotate_left
            · rintro w' ⟨s0, s1, s2⟩
              go_simp
              with_reducible rfl
            rotate_left
            · simp only [Act.put, List.setIfInBounds_toArray, List.set_cons_zero, List.set_cons_succ, i64_w, i32_w]
              rfl
            refine one_ (i := 1) (N := some 25) #[true, true, false, true, true, false] rfl rfl (by kernel_rfl) (by decide) (fun K hK => ?_)
            refine goes_ Tryd.func31 (by kernel_rfl) rfl #[.slice Ao18 t152.length co18] (by rfl) rfl rfl (by (try simp only [List.map_toArray, List.map_cons, List.map_nil]); first | done | rfl | (simp only [List.length_drop, List.length_take]; rfl)) ?_
            with_reducible refine (toll_Sum.calls k _ _ t152 t155 _ ?side1 ?side2 ?side3 A11.out).mono ?_
            (case side1 => repeat (first | exact (Kd.R_reads' HO154.out).2.2 | (with_reducible refine Kd.C_alloc ?_ _) | (with_reducible refine Kd.C_drewN ?_ _) | (with_reducible refine Kd.C_drew ?_)))
            (case side2 => exact (Kd.R_reads' HO154.out).2.1)
            (case side3 => first | exact hG | exact GL.of_heap hG rfl | (exact GL.of_below hG (by repeat (first | (with_reducible first | exact HB.out | apply below_alloc | apply pw_below_drewN | apply below_drew1 | refine below_set ?_ GE150.out) | exact HB.out))))
            rintro e w19 ⟨rfl, hb⟩
            refine ⟨_, rfl, ?_⟩
            have n0_ := Aside0.mk (Kd.R_below (by (with_reducible repeat (first | apply Kd.R_alloc | apply Kd.R_drewN | apply Kd.R_drew)); exact HO154.out) hb)
            have n1_ := Aside0.mk (blk_below (g := gb150) (o := .cells #[.string a0_0, .int .i64 a0_1, .int .i64 a0_2] 67 (0, 0)) (by (with_reducible repeat (first | refine blk_drewN ?_ _ | refine blk_drew ?_ | refine blk_alloc ?_ _)); exact BK150.out) hb)
            have n2_ := Aside0.mk (below_step (by repeat (first | (with_reducible first | exact HB.out | apply below_alloc | apply pw_below_drewN | apply below_drew1 | refine below_set ?_ GE150.out) | exact HB.out)) hb)
            clear HO154
            clear BK150
            clear HB
            have HO154 := n0_
            have BK150 := n1_
            have HB := n2_
            clear n0_ n1_ n2_
            (try clear hb)
            (try clear hb2)
            (try clear hk)
            (try clear hi)
            refine hK.out _ _ ⟨(blk_cell BK150.out 0).trans rfl, (blk_cell BK150.out 1).trans rfl, (blk_cell BK150.out 2).trans rfl⟩ (fun hHeld => ?_)
            clear hK K
            refine norm_ (a' := ?_) ?_ ?_
            rotate_left
            · show Act.put _ (some 25) _ = _
              simp only [Act.put, List.setIfInBounds_toArray, List.set_cons_zero, List.set_cons_succ, i64_w, i32_w]
              rfl
            refine pure_ (i := 2) (N := some 26) (v := ?_) (a' := ?_) #[true, true, true, true, true, false] rfl rfl (by kernel_rfl) (fun _ _ _ h => h) (Or.inl ⟨by rfl, ?_⟩) ?_ ?_
            rotate_left
            · intro w'
              go_simp
              with_reducible rfl
            rotate_left
            · simp only [Act.put, List.setIfInBounds_toArray, List.set_cons_zero, List.set_cons_succ, i64_w, i32_w]
              rfl
            refine pure_ (i := 5) (N := some 29) (v := ?_) (a' := ?_) #[true, true, true, true, true, true] rfl rfl (by kernel_rfl) (fun _ _ _ h => h) (Or.inl ⟨by rfl, ?_⟩) ?_ ?_
            rotate_left
            · intro w'
              go_simp
              with_reducible rfl
            rotate_left
            · simp only [Act.put, List.setIfInBounds_toArray, List.set_cons_zero, List.set_cons_succ, i64_w, i32_w]
              rfl
            refine done_ (by kernel_rfl) ?_
            try go_wp2
            go_ret2
            exact ⟨_, by first | rfl | (simp [errW_none, errW_some] <;> rfl) | (simp [*, errW_none, errW_some] <;> rfl), by (with_reducible repeat (first | apply Kd.R_alloc | apply Kd.R_drewN | apply Kd.R_drew)); exact HO154.out, by repeat (first | (with_reducible first | exact HB.out | apply below_alloc | apply pw_below_drewN | apply below_drew1 | refine below_set ?_ GE150.out) | exact HB.out)⟩
          · rw [if_neg c12] at H
            have c12b0 : ((wrap64 (t155)) == a0_2) = false := beq_eq_false_iff_ne.mpr c12
            have c12b1 : ((wrap64 (t155)) != a0_2) = true := bne_iff_ne.mpr c12
            simp only [Option.some.injEq, Prod.mk.injEq] at H
            obtain ⟨rfl, rfl⟩ := H
            go_enter Tryd.func34, Tryd.ntmps34
            try go_wp2_with (first | ((with_reducible refine gate_dst (N := 3) rfl ?_); refine box_event ?hg (N := 3) ?hd (cs := #[.string a0_0, .int .i64 a0_1, .int .i64 a0_2]) (t := 67) ?hr ?_; (case hd => rfl); (case hg => rfl); (case hr => first | (go_simp; done) | (go_simp; rfl)); intro gb150 hg w20 hbox hb; have n0_ := Aside0.mk (below_step (by repeat (first | (with_reducible first | exact HB.out | apply below_alloc | apply pw_below_drewN | apply below_drew1) | exact HB.out)) hb); have n1_ := Aside0.mk (hbox); have n2_ := Aside0.mk ((by rw [hg]; exact (below_size (by repeat (first | (with_reducible first | exact HB.out | apply below_alloc | apply pw_below_drewN | apply below_drew1) | exact HB.out))) : w.heap.size ≤ gb150)); have n3_ := Aside0.mk ((by rw [hg]; exact (below_size (by repeat (first | (with_reducible first | exact HB.out | apply below_alloc | apply pw_below_drewN | apply below_drew1) | exact HB.out))) : w.heap.size ≤ gb150)); clear HB; have HB := n0_; have BK150 := n1_; have GW150 := n2_; have GE150 := n3_; clear n0_ n1_ n2_ n3_; clear hb hbox hg; have hcz21_0 : w20.cell? ⟨gb150, 0, none⟩ = some (.string a0_0) := (blk_cell BK150.out 0).trans rfl; have hcz21_1 : w20.cell? ⟨gb150, 1, none⟩ = some (.int .i64 a0_1) := (blk_cell BK150.out 1).trans rfl; have hcz21_2 : w20.cell? ⟨gb150, 2, none⟩ = some (.int .i64 a0_2) := (blk_cell BK150.out 2).trans rfl; have hfz21_0 := blk_frozen BK150.out 0; have hfz21_1 := blk_frozen BK150.out 1; have hfz21_2 := blk_frozen BK150.out 2; obtain ⟨i022, hi022, _, hsz22, _⟩ := info_parts info5; obtain ⟨A22, hcut22, hA22, hC22⟩ := print_mid_of (P := Tryd.prog) (Value.int .u8) 0 22 5 .i64 .i64 Tryd.underlying22 hi022 hsz22 A1 c1 l1 a2 (wrap64 (a2 + a0_1)) (of_decide_eq_true (by first | (with_reducible assumption) | assumption)) (by first | omega | exact of_decide_eq_true (by first | (with_reducible assumption) | assumption)) (of_decide_eq_true (by first | (with_reducible assumption) | assumption)) HC1.out; have HR151 := Aside0.mk (Kd.C_of_reads (h1 := fun _ => rfl) (hA22 _ (Kd.reads_of_C HR1.out))); have HC151 := Aside0.mk hC22; clear hA22 hC22 hi022 hsz22) | ((with_reducible refine gate_callee (f := 39) rfl ?_); refine goesL_ (some 23) rfl rfl Tryd.func39 (by kernel_rfl) rfl #[.slice A22 ((l1.take ((wrap64 (a2 + a0_1)) : Int).toNat).drop (a2 : Int).toNat).length (c1 - a2.toNat)] rfl (by (try simp only [List.map_toArray, List.map_cons, List.map_nil]); first | done | (rw [show ((l1.take ((wrap64 (a2 + a0_1)) : Int).toNat).drop (a2 : Int).toNat).length = ((wrap64 (a2 + a0_1)).toNat - a2.toNat) from (by rw [List.length_drop, List.length_take]; have h_ : ((wrap64 (a2 + a0_1)) : Int) ≤ (l1.length : Int) := of_decide_eq_true (by first | (with_reducible assumption) | assumption); omega)] <;> rfl) | rfl | (simp only [List.length_drop, List.length_take]; rfl)) ?_; (with_reducible refine (slices_Clone_byte_byte.calls _ _ ((l1.take ((wrap64 (a2 + a0_1)) : Int).toNat).drop (a2 : Int).toNat) t152 _ ?side1 ?side2 A10.out).mono ?_); (case side1 => repeat (first | exact (Kd.C_below HR151.out HB.out) | (with_reducible refine Kd.C_alloc ?_ _) | (with_reducible refine Kd.C_drewN ?_ _) | (with_reducible refine Kd.C_drew ?_))); (case side2 => exact HC151.out); rintro e w23 ⟨v153, rfl, ho0, hb⟩; refine ⟨_, rfl, ?_⟩; have n0_ := Aside0.mk (Kd.R_lower ho0 (below_size (by repeat (first | (with_reducible first | exact HB.out | apply below_alloc | apply pw_below_drewN | apply below_drew1 | refine below_set ?_ GE150.out) | exact HB.out)))); have n1_ := Aside0.mk (blk_below (g := gb150) (o := .cells #[.string a0_0, .int .i64 a0_1, .int .i64 a0_2] 67 (0, 0)) (by (with_reducible repeat (first | refine blk_drewN ?_ _ | refine blk_drew ?_ | refine blk_alloc ?_ _)); exact BK150.out) hb); have n2_ := Aside0.mk (below_step (by repeat (first | (with_reducible first | exact HB.out | apply below_alloc | apply pw_below_drewN | apply below_drew1 | refine below_set ?_ GE150.out) | exact HB.out)) hb); clear BK150; clear HB; have HO154 := n0_; have BK150 := n1_; have HB := n2_; clear n0_ n1_ n2_; (try clear hb); (try clear hb2); (try clear hk); (try clear hi); (try clear ho0)))
            have n0_ := Aside0.mk (Kd.R_drew HO154.out)
            have n1_ := Aside0.mk (blk_drew BK150.out)
            have n2_ := Aside0.mk (below_drew1 HB.out)
            clear HO154
            clear BK150
            clear HB
            have HO154 := n0_
            have BK150 := n1_
            have HB := n2_
            clear n0_ n1_ n2_
            obtain ⟨Ao25, co25, eo25⟩ := Kd.R_slice HO154.out
            (first | subst eo25 | (injection eo25 with f1_ f2_ f3_; have f4_ := f1_.symm; have f5_ := f3_.symm; clear f1_ f2_ f3_; subst f4_; subst f5_))
            refine start_ (n := 6) (S := fun w' => w'.cell? ⟨gb150, 0, none⟩ = some (.string a0_0) ∧ w'.cell? ⟨gb150, 1, none⟩ = some (.int .i64 a0_1) ∧ w'.cell? ⟨gb150, 2, none⟩ = some (.int .i64 a0_2)) (ds := []) #[false, false, false, false, false, false] (by kernel_rfl) rfl rfl ⟨(blk_cell BK150.out 0).trans rfl, (blk_cell BK150.out 1).trans rfl, (blk_cell BK150.out 2).trans rfl⟩ (fun hHeld => ?_)
            generalize w23.drew = w24 at HO154 BK150 HB hHeld ⊢
            refine pure_ (i := 0) (N := some 24) (v := ?_) (a' := ?_) #[true, false, false, false, false, false] rfl rfl (by kernel_rfl) (fun _ _ _ h => h) (Or.inl ⟨by rfl, ?_⟩) ?_ ?_
            rotate_left
            · intro w'
              go_simp
              with_reducible rfl
            rotate_left
            · simp only [Act.put, List.setIfInBounds_toArray, List.set_cons_zero, List.set_cons_succ, i64_w, i32_w]
              rfl
            refine pure_ (i := 3) (N := some 27) (v := ?_) (a' := ?_) #[true, false, false, true, false, false] rfl rfl (by kernel_rfl) (fun _ _ _ h => h) (Or.inl ⟨by rfl, ?_⟩) ?_ ?_
            rotate_left
            · intro w'
              go_simp
              with_reducible rfl
            rotate_left
            · simp only [Act.put, List.setIfInBounds_toArray, List.set_cons_zero, List.set_cons_succ, i64_w, i32_w]
              rfl
            refine take_ (i := 4) (N := some 28) (v := ?_) (a' := ?_) #[true, false, false, true, true, false] rfl rfl (by kernel_rfl) (fun _ _ _ h => h) (Or.inl ⟨by rfl, ?_⟩) hHeld ?_ ?_
            rotate_left
            · rintro w' ⟨s0, s1, s2⟩
              go_simp
              with_reducible rfl
            rotate_left
            · simp only [Act.put, List.setIfInBounds_toArray, List.set_cons_zero, List.set_cons_succ, i64_w, i32_w]
              rfl
            refine one_ (i := 1) (N := some 25) #[true, true, false, true, true, false] rfl rfl (by kernel_rfl) (by decide) (fun K hK => ?_)
            refine goes_ Tryd.func31 (by kernel_rfl) rfl #[.slice Ao25 t152.length co25] (by rfl) rfl rfl (by (try simp only [List.map_toArray, List.map_cons, List.map_nil]); first | done | rfl | (simp only [List.length_drop, List.length_take]; rfl)) ?_
            with_reducible refine (toll_Sum.calls k _ _ t152 t155 _ ?side1 ?side2 ?side3 A11.out).mono ?_
            (case side1 => repeat (first | exact (Kd.R_reads' HO154.out).2.2 | (with_reducible refine Kd.C_alloc ?_ _) | (with_reducible refine Kd.C_drewN ?_ _) | (with_reducible refine Kd.C_drew ?_)))
            (case side2 => exact (Kd.R_reads' HO154.out).2.1)
            (case side3 => first | exact hG | exact GL.of_heap hG rfl | (exact GL.of_below hG (by repeat (first | (with_reducible first | exact HB.out | apply below_alloc | apply pw_below_drewN | apply below_drew1 | refine below_set ?_ GE150.out) | exact HB.out))))
            rintro e w26 ⟨rfl, hb⟩
            refine ⟨_, rfl, ?_⟩
            have n0_ := Aside0.mk (Kd.R_below (by (with_reducible repeat (first | apply Kd.R_alloc | apply Kd.R_drewN | apply Kd.R_drew)); exact HO154.out) hb)
            have n1_ := Aside0.mk (blk_below (g := gb150) (o := .cells #[.string a0_0, .int .i64 a0_1, .int .i64 a0_2] 67 (0, 0)) (by (with_reducible repeat (first | refine blk_drewN ?_ _ | refine blk_drew ?_ | refine blk_alloc ?_ _)); exact BK150.out) hb)
            have n2_ := Aside0.mk (below_step (by repeat (first | (with_reducible first | exact HB.out | apply below_alloc | apply pw_below_drewN | apply below_drew1 | refine below_set ?_ GE150.out) | exact HB.out)) hb)
            clear HO154
            clear BK150
            clear HB
            have HO154 := n0_
            have BK150 := n1_
            have HB := n2_
            clear n0_ n1_ n2_
            (try clear hb)
            (try clear hb2)
            (try clear hk)
            (try clear hi)
            refine hK.out _ _ ⟨(blk_cell BK150.out 0).trans rfl, (blk_cell BK150.out 1).trans rfl, (blk_cell BK150.out 2).trans rfl⟩ (fun hHeld => ?_)
            clear hK K
            refine norm_ (a' := ?_) ?_ ?_
            rotate_left
            · show Act.put _ (some 25) _ = _
              simp only [Act.put, List.setIfInBounds_toArray, List.set_cons_zero, List.set_cons_succ, i64_w, i32_w]
              rfl
            refine pure_ (i := 2) (N := some 26) (v := ?_) (a' := ?_) #[true, true, true, true, true, false] rfl rfl (by kernel_rfl) (fun _ _ _ h => h) (Or.inl ⟨by rfl, ?_⟩) ?_ ?_
            rotate_left
            · intro w'
              go_simp
              with_reducible rfl
            rotate_left
            · simp only [Act.put, List.setIfInBounds_toArray, List.set_cons_zero, List.set_cons_succ, i64_w, i32_w]
              rfl
            refine pure_ (i := 5) (N := some 29) (v := ?_) (a' := ?_) #[true, true, true, true, true, true] rfl rfl (by kernel_rfl) (fun _ _ _ h => h) (Or.inl ⟨by rfl, ?_⟩) ?_ ?_
            rotate_left
            · intro w'
              go_simp
              with_reducible rfl
            rotate_left
            · simp only [Act.put, List.setIfInBounds_toArray, List.set_cons_zero, List.set_cons_succ, i64_w, i32_w]
              rfl
            refine done_ (by kernel_rfl) ?_
            try go_wp2
            go_ret2
            exact ⟨_, by first | rfl | (simp [errW_none, errW_some] <;> rfl) | (simp [*, errW_none, errW_some] <;> rfl), by first | exact Kd.R_nil _ _ _ _ _ | exact Kd.N_nil _ _ _ _ _ | exact Kd.V_nil _ _ _ _ _ | exact Kd.Q_nil _ _ _ _ _ | exact Kd.S_nil _ _ _ _ _, by repeat (first | (with_reducible first | exact HB.out | apply below_alloc | apply pw_below_drewN | apply below_drew1 | refine below_set ?_ GE150.out) | exact HB.out)⟩
        · rw [if_neg c9] at H
          exact absurd H (by simp)
      · rw [if_neg c8] at H
        exact absurd H (by simp)
    · rw [if_neg c7] at H
      exact absurd H (by simp)

-- NOT PRINTED: function 17 (vault_Unpack)

end Go.Proofs.YtibmccacebhhkaaDoor.HV

namespace Go.Proofs.YtibmccacebhhkaaDoor.BitStr
open Go Go.RowKit Go.Proofs.YtibmccacebhhkaaDoor.HV Go.Proofs.YtibmccacebhhkaaDoorW.PrintWords Go.Proofs.YtibmccacebhhkaaDoorW.PrintLast

theorem wrap_id {x : Int} (h0 : -9223372036854775808 ≤ x) (h1 : x < 9223372036854775808) : wrap64 x = x := by unfold wrap64; omega
theorem ba_ext {s t : ByteArray} (h : s.data.toList = t.data.toList) : s = t := by
  cases s with | mk a => cases t with | mk b => congr 1; exact Array.toList_inj.1 h
def str (l : List UInt8) : ByteArray := ⟨l.toArray⟩
theorem str_size (l : List UInt8) : (str l).size = l.length := rfl
theorem str_append (a b : List UInt8) : str a ++ str b = str (a ++ b) := ba_ext (by simp [str])
theorem str_nil : (⟨#[]⟩ : ByteArray) = str [] := rfl
/-- A digit. -/
def dg (v : Nat) : UInt8 := if v % 2 = 1 then 49 else 48
/-- A number as so many bits, the highest first. -/
def putL : Nat → Nat → List UInt8
  | 0, _ => []
  | n + 1, v => putL n (v / 2) ++ [dg v]
theorem putL_length (n v : Nat) : (putL n v).length = n := by induction n generalizing v with | zero => rfl | succ n ih => simp [putL, ih]
theorem nums_one (v : Nat) : strOfNums [(wrap64 (48 + (Int.tmod (v : Int) 2))) % 256] = str [dg v] := by
  have h : Int.tmod (v : Int) 2 = ((v % 2 : Nat) : Int) := by rw [Int.tmod_eq_emod_of_nonneg (by omega)]; omega
  rw [h, wrap_id (by omega) (by omega)]
  unfold dg
  rcases Nat.mod_two_eq_zero_or_one v with e | e <;> rw [e] <;> rfl
theorem put_loop (n : Nat) (hn : n ≤ 1000) : ∀ (d K i v : Nat) (s : List UInt8), i + d = n → d < K → v < 9223372036854775808 → s.length + d ≤ 1000000 →
    sackbutref01_Put.l0 K (v : Int) (n : Int) (str s) (i : Int) = some (str (putL d v ++ s)) := by
  intro d
  induction d with
  | zero =>
    intro K i v s hi hK hv hs
    obtain ⟨K, rfl⟩ : ∃ m, K = m + 1 := ⟨K - 1, by omega⟩
    simp only [sackbutref01_Put.l0]
    rw [if_neg (by omega)]; rfl
  | succ d ih =>
    intro K i v s hi hK hv hs
    obtain ⟨K, rfl⟩ : ∃ m, K = m + 1 := ⟨K - 1, by omega⟩
    simp only [sackbutref01_Put.l0]
    rw [if_pos (by omega), Option.bind_some, nums_one, if_pos (by rw [str_size, str_size]; simp; omega), str_append]
    have hv2 : Int.tdiv (v : Int) 2 = ((v / 2 : Nat) : Int) := by rw [Int.tdiv_eq_ediv_of_nonneg (by omega)]; omega
    rw [hv2, wrap_id (by omega) (by omega), wrap_id (by omega) (by omega)]
    have := ih K (i + 1) (v / 2) ([dg v] ++ s) (by omega) (by omega) (by omega) (by simp; omega)
    rw [show ((i + 1 : Nat) : Int) = (i : Int) + 1 by omega] at this
    rw [this, putL, List.append_assoc]
theorem put_spec (n v K : Nat) (hn : n ≤ 1000) (hK : n < K) (hv : v < 9223372036854775808) : sackbutref01_Put.f K (v : Int) (n : Int) = some (str (putL n v)) := by
  unfold sackbutref01_Put.f
  have := put_loop n hn n K 0 v [] (by omega) hK hv (by simp; omega)
  simpa [str_nil] using this
/-- The number of bits. -/
def numL (l : List UInt8) (a : Nat) : Nat := l.foldl (fun a c => 2 * a + if c = 49 then 1 else 0) a
theorem dg_val (v : Nat) : (if dg v = 49 then 1 else 0) = v % 2 := by
  unfold dg
  rcases Nat.mod_two_eq_zero_or_one v with e | e <;> rw [e] <;> rfl
theorem numL_append (a b : List UInt8) (x : Nat) : numL (a ++ b) x = numL b (numL a x) := by unfold numL; rw [List.foldl_append]
theorem numL_putL (n : Nat) : ∀ v a, numL (putL n v) a = a * 2 ^ n + v % 2 ^ n := by
  induction n with
  | zero => intro v a; simp [putL, numL, Nat.mod_one]
  | succ n ih =>
    intro v a
    show numL (putL n (v / 2) ++ [dg v]) a = _
    rw [numL_append, ih]
    show 2 * _ + _ = _
    rw [dg_val, Nat.pow_succ]
    have h : v % (2 ^ n * 2) = 2 * (v / 2 % 2 ^ n) + v % 2 := by
      rw [Nat.mul_comm, Nat.mod_mul]; omega
    rw [h, Nat.mul_add, show a * (2 ^ n * 2) = 2 * (a * 2 ^ n) by rw [← Nat.mul_assoc, Nat.mul_comm]]
    omega
theorem bt_str (l : List UInt8) (i : Nat) (h : i < l.length) : bt (str l) (i : Int) = ((l[i].toNat : Nat) : Int) := by
  unfold bt
  rw [dif_pos (by rw [Int.toNat_natCast, str_size]; exact h)]
  rfl
theorem number_loop (l : List UInt8) (hl : l.length ≤ 62) : ∀ (d K i a : Nat), i + d = l.length → d < K → a < 2 ^ i →
    sackbutref01_Number.l0 K (str l) (a : Int) (i : Int) = some ((numL (l.drop i) a : Nat) : Int) := by
  intro d
  induction d with
  | zero =>
    intro K i a hi hK ha
    obtain ⟨K, rfl⟩ : ∃ m, K = m + 1 := ⟨K - 1, by omega⟩
    simp only [sackbutref01_Number.l0]
    rw [if_neg (by rw [str_size]; omega), List.drop_eq_nil_of_le (by omega)]; rfl
  | succ d ih =>
    intro K i a hi hK ha
    obtain ⟨K, rfl⟩ : ∃ m, K = m + 1 := ⟨K - 1, by omega⟩
    have hi' : i < l.length := by omega
    have h62 : a < 4611686018427387904 := Nat.lt_of_lt_of_le ha (Nat.le_trans (Nat.pow_le_pow_right (by decide) (show i ≤ 61 by omega)) (by decide))
    have ha1 : 2 * a + 1 < 2 ^ (i + 1) := by rw [Nat.pow_succ]; omega
    simp only [sackbutref01_Number.l0]
    rw [if_pos (by rw [str_size]; omega), if_pos (by omega), bt_str l i hi', List.drop_eq_getElem_cons hi']
    show _ = some ((numL (l.drop (i + 1)) (2 * a + if l[i] = 49 then 1 else 0) : Nat) : Int)
    rw [wrap_id (x := (a : Int) * 2) (by omega) (by omega)]
    by_cases hc : l[i] = 49
    · rw [if_pos (by rw [hc]; rfl), if_pos hc, wrap_id (by omega) (by omega), wrap_id (by omega) (by omega)]
      have := ih K (i + 1) (2 * a + 1) (by omega) (by omega) ha1
      rw [show ((i + 1 : Nat) : Int) = (i : Int) + 1 by omega, show ((2 * a + 1 : Nat) : Int) = (a : Int) * 2 + 1 by omega] at this
      exact this
    · have hc2 : ¬ ((l[i].toNat : Nat) : Int) = 49 := fun h => hc (UInt8.toNat_inj.1 (by show l[i].toNat = 49; omega))
      rw [if_neg hc2, if_neg hc, wrap_id (by omega) (by omega)]
      have := ih K (i + 1) (2 * a + 0) (by omega) (by omega) (by omega)
      rw [show ((i + 1 : Nat) : Int) = (i : Int) + 1 by omega, show ((2 * a + 0 : Nat) : Int) = (a : Int) * 2 by omega] at this
      exact this
theorem number_spec (l : List UInt8) (hl : l.length ≤ 62) (K : Nat) (hK : l.length < K) : sackbutref01_Number.f K (str l) = some ((numL l 0 : Nat) : Int) := by
  unfold sackbutref01_Number.f
  have := number_loop l hl l.length K 0 0 (by omega) hK (by decide)
  simpa using this
/-- Bytes as bits. -/
def bits8 (l : List Nat) : List UInt8 := l.flatMap (putL 8)
theorem bits8_length (l : List Nat) : (bits8 l).length = 8 * l.length := by
  unfold bits8
  induction l with
  | nil => rfl
  | cons x l ih => rw [List.flatMap_cons, List.length_append, putL_length, ih, List.length_cons]; omega
theorem numL_bits8 (l : List Nat) (h : ∀ x ∈ l, x < 256) : ∀ a, numL (bits8 l) a = l.foldl (fun a c => a * 256 + c) a := by
  induction l with
  | nil => intro a; rfl
  | cons x l ih =>
    intro a
    show numL (putL 8 x ++ bits8 l) a = _
    rw [numL_append, numL_putL, ih (fun y hy => h y (by simp [hy])), Nat.mod_eq_of_lt (h x (by simp))]
    rfl
end Go.Proofs.YtibmccacebhhkaaDoor.BitStr

