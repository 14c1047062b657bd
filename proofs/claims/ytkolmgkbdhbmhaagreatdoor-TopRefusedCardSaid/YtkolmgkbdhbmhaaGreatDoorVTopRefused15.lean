/- TopRefused: what the claim's theorem reaches of this seat's texts, part 15, put together by this project's own program (bale.py); conditions: those of each theorem. -/
import Derived.Test.YtkolmgkbdhbmhaaGreatDoorVTopRefused5
import Derived.Test.YtkolmgkbdhbmhaaGreatDoorVTopRefused6
import Derived.Test.YtkolmgkbdhbmhaaGreatDoorVTopRefused7
import Derived.Test.YtkolmgkbdhbmhaaGreatDoorVTopRefused8
import Derived.Test.YtkolmgkbdhbmhaaGreatDoorVTopRefused10
import Derived.Test.YtkolmgkbdhbmhaaGreatDoorVTopRefused12
import Derived.Test.YtkolmgkbdhbmhaaGreatDoorVTopRefused13
import Derived.Test.YtkolmgkbdhbmhaaGreatDoorVTopRefused14
import Derived.Shelf.Abstract
import Derived.OwnWalk
import Derived.LoopN
namespace Go.Proofs.YtkolmgkbdhbmhaaGreatDoor.HT2
open Go.RowKit Go.Proofs.YtkolmgkbdhbmhaaGreatDoorW.PrintWords Go.Proofs.YtkolmgkbdhbmhaaGreatDoorW.PrintLast Go.Proofs.YtkolmgkbdhbmhaaGreatDoorW.PrintMore
attribute [local go_sem] max2_int min2_int max_two min_two max_three min_three max_four min_four   -- for this text's walks alone
set_option linter.unusedVariables false
set_option linter.unusedSimpArgs false

/-! ### sackbuttop_awake: function 5, by hand -/
structure AsideAw (p : Prop) : Prop where mk :: (out : p)
theorem aw1 : stream_check.f 5 1 8 false 1 16 0 0 [[]] 0 0 false false false = some 0 := by decide +kernel
theorem aw2 : pack_Pack.f 5 8 false [[]] = some ([], 0) := by decide +kernel
theorem aw3 : toll_Sum.f 5 [] = some 0 := by decide +kernel
theorem aw4 : ladder_Bytes.f 5 [] = some ([], 0) := by decide +kernel
theorem aw5 : head_Frames.f 1 8 false 1 16 0 0 = some 0 := by decide +kernel
open Go.Proofs.YtkolmgkbdhbmhaaGreatDoor.AnyOrder Go.Proofs.YtkolmgkbdhbmhaaGreatDoor.AnyLit in
set_option maxRecDepth 100000 in
set_option maxHeartbeats 4000000 in
theorem stream_Encode_awake.gives (A1 : Option Addr) (w : World) (hG : GL w) (hr1 : Kd.C (Kd.slice 3 (Kd.int .i64)) w A1 1 [[]]) :
    Calls Tryz.prog 8 #[.agg #[.int .i64 1, .int .i64 8, .bool false, .int .i64 1, .int .i64 16, .int .i64 0, .int .i64 0], .slice A1 1 1, .agg #[.int .i64 0, .int .i64 0, .bool false, .bool false, .bool false]] w fun e w' => ∃ (v0_ : Value) (zs : List Int), e = .returned (.tuple #[v0_, .int .i64 0]) ∧ zs.length = 20 ∧ Kd.R (Kd.int .u8) 5 w' w.heap.size (fun _ => True) v0_ zs ∧ Below w.heap.size w w' := by
  have hu23 := Tryz.underlying23
  have hu26 := Tryz.underlying26
  have HCK := AsideAw.mk (fun (W : World) (hW : Below w.heap.size w W) => stream_check.calls 5 1 8 false 1 16 0 0 A1 1 [[]] 0 0 false false false 0 W (Kd.C_below hr1 hW) (Nat.le_refl _) aw1)
  have HFR := AsideAw.mk (fun W => head_Frames.calls 1 8 false 1 16 0 0 0 W aw5)
  have HFO := AsideAw.mk (fun W => head_Form.calls 1 8 false 1 16 0 0 8 false W (by rfl))
  have HPK := AsideAw.mk (fun (W : World) (hW : Below w.heap.size w W) => pack_Pack.calls 5 8 false A1 1 [[]] [] 0 W (Kd.C_below hr1 hW) (Nat.le_refl _) aw2)
  have HGL := AsideAw.mk hG
  clear hr1 hG
  go_enter Tryz.func8, Tryz.ntmps8
  go_wp2_with (first | ((with_reducible refine gate_dst (N := 3) rfl ?_); refine box_event ?hg (N := 3) ?hd (cs := #[.int .i64 1, .int .i64 8, .bool false, .int .i64 1, .int .i64 16, .int .i64 0, .int .i64 0]) (t := 23) ?hr ?_; (case hd => rfl); (case hg => rfl); (case hr => first | (go_simp; done) | (go_simp; rfl)); intro g1 hg0_ wx hx1 hb1; clear hg0_; have HX1 := AsideAw.mk hx1; have HB1 := AsideAw.mk hb1; clear hx1 hb1; have f0 := (blk_cell HX1.out 0).trans rfl; have f1 := (blk_cell HX1.out 1).trans rfl; have f2 := (blk_cell HX1.out 2).trans rfl; have f3 := (blk_cell HX1.out 3).trans rfl; have f4 := (blk_cell HX1.out 4).trans rfl; have f5 := (blk_cell HX1.out 5).trans rfl; have f6 := (blk_cell HX1.out 6).trans rfl) | ((with_reducible refine gate_dst (N := 5) rfl ?_); refine box_event ?hg (N := 5) ?hd (cs := #[.int .i64 0, .int .i64 0, .bool false, .bool false, .bool false]) (t := 26) ?hr ?_; (case hd => rfl); (case hg => rfl); (case hr => first | (go_simp; done) | (go_simp; rfl)); intro g2 hg0_ wy hy1 hb2; clear hg0_; have HY2 := AsideAw.mk hy1; have HX2 := AsideAw.mk (blk_below HX1.out hb2); have HB2 := AsideAw.mk (below_step HB1.out hb2); clear hy1 hb2; clear f0 f1 f2 f3 f4 f5 f6; have f0 := (blk_cell HX2.out 0).trans rfl; have f1 := (blk_cell HX2.out 1).trans rfl; have f2 := (blk_cell HX2.out 2).trans rfl; have f3 := (blk_cell HX2.out 3).trans rfl; have f4 := (blk_cell HX2.out 4).trans rfl; have f5 := (blk_cell HX2.out 5).trans rfl; have f6 := (blk_cell HX2.out 6).trans rfl; have h0 := (blk_cell HY2.out 0).trans rfl; have h1 := (blk_cell HY2.out 1).trans rfl; have h2 := (blk_cell HY2.out 2).trans rfl; have h3 := (blk_cell HY2.out 3).trans rfl; have h4 := (blk_cell HY2.out 4).trans rfl) | (go_at_call 15; refine (HCK.out _ HB2.out).mono ?_; rintro e w3 ⟨rfl, hd⟩; have HX3 := AsideAw.mk (blk_below HX2.out hd); have HB3 := AsideAw.mk (below_step HB2.out hd); clear hd; clear f0 f1 f2 f3 f4 f5 f6; clear h0 h1 h2 h3 h4; have f0 := (blk_cell HX3.out 0).trans rfl; have f1 := (blk_cell HX3.out 1).trans rfl; have f2 := (blk_cell HX3.out 2).trans rfl; have f3 := (blk_cell HX3.out 3).trans rfl; have f4 := (blk_cell HX3.out 4).trans rfl; have f5 := (blk_cell HX3.out 5).trans rfl; have f6 := (blk_cell HX3.out 6).trans rfl) | ((with_reducible refine gate_dst (N := 9) rfl ?_); refine box_event ?hg (N := 9) ?hd (cs := #[.slice none 0 0, .int .i64 0]) (t := 47) ?hr ?_; (case hd => rfl); (case hg => rfl); (case hr => first | (go_simp; done) | (go_simp; rfl)); intro p hgp_ wp hp4 hb4; have HP4 := AsideAw.mk hp4; have HX4 := AsideAw.mk (blk_below HX3.out hb4); have HB4 := AsideAw.mk (below_step HB3.out hb4); have HL4 := AsideAw.mk hgp_; clear hp4 hb4 hgp_; clear f0 f1 f2 f3 f4 f5 f6; have f0 := (blk_cell HX4.out 0).trans rfl; have f1 := (blk_cell HX4.out 1).trans rfl; have f2 := (blk_cell HX4.out 2).trans rfl; have f3 := (blk_cell HX4.out 3).trans rfl; have f4 := (blk_cell HX4.out 4).trans rfl; have f5 := (blk_cell HX4.out 5).trans rfl; have f6 := (blk_cell HX4.out 6).trans rfl) | (go_at_call 16; refine (HFR.out _).mono ?_; rintro e w5 ⟨rfl, hd⟩; have HP5 := AsideAw.mk (blk_below HP4.out hd); have HX5 := AsideAw.mk (blk_below HX4.out hd); have HB5 := AsideAw.mk (below_step HB4.out hd); clear hd; clear f0 f1 f2 f3 f4 f5 f6; have f0 := (blk_cell HX5.out 0).trans rfl; have f1 := (blk_cell HX5.out 1).trans rfl; have f2 := (blk_cell HX5.out 2).trans rfl; have f3 := (blk_cell HX5.out 3).trans rfl; have f4 := (blk_cell HX5.out 4).trans rfl; have f5 := (blk_cell HX5.out 5).trans rfl; have f6 := (blk_cell HX5.out 6).trans rfl))
  clear f0 f1 f2 f3 f4 f5 f6
  go_loopg [10, 30] 0 (fun gg s10 s30 wr => s10 = .slice none 0 0 ∧ s30 = .int .i64 0 ∧ wr = w5)
  case atStart => exact ⟨rfl, rfl, rfl⟩
  case round =>
    obtain ⟨rfl, rfl, rfl⟩ := hrel
    have f0 := (blk_cell HX5.out 0).trans rfl; have f1 := (blk_cell HX5.out 1).trans rfl; have f2 := (blk_cell HX5.out 2).trans rfl; have f3 := (blk_cell HX5.out 3).trans rfl; have f4 := (blk_cell HX5.out 4).trans rfl; have f5 := (blk_cell HX5.out 5).trans rfl; have f6 := (blk_cell HX5.out 6).trans rfl
    go_wp2_with (first | (go_at_call 23; refine (HFO.out _).mono ?_; rintro e w6 ⟨rfl, hd⟩; have HP6 := AsideAw.mk (blk_below HP5.out hd); have HX6 := AsideAw.mk (blk_below HX5.out hd); have HB6 := AsideAw.mk (below_step HB5.out hd); clear hd; clear f0 f1 f2 f3 f4 f5 f6; have f0 := (blk_cell HX6.out 0).trans rfl; have f1 := (blk_cell HX6.out 1).trans rfl; have f2 := (blk_cell HX6.out 2).trans rfl; have f3 := (blk_cell HX6.out 3).trans rfl; have f4 := (blk_cell HX6.out 4).trans rfl; have f5 := (blk_cell HX6.out 5).trans rfl; have f6 := (blk_cell HX6.out 6).trans rfl) | (go_at_call 22; refine (HPK.out _ HB6.out).mono ?_; rintro e w7 ⟨v7, rfl, ho7, hd⟩; have HP7 := AsideAw.mk (blk_below HP6.out hd); have HX7 := AsideAw.mk (blk_below HX6.out hd); have HB7 := AsideAw.mk (below_step HB6.out hd); have HO7 := AsideAw.mk ho7; clear hd ho7; clear f0 f1 f2 f3 f4 f5 f6; have f0 := (blk_cell HX7.out 0).trans rfl; have f1 := (blk_cell HX7.out 1).trans rfl; have f2 := (blk_cell HX7.out 2).trans rfl; have f3 := (blk_cell HX7.out 3).trans rfl; have f4 := (blk_cell HX7.out 4).trans rfl; have f5 := (blk_cell HX7.out 5).trans rfl; have f6 := (blk_cell HX7.out 6).trans rfl))
    obtain ⟨A7, c7, e7⟩ := Kd.R_slice HO7.out
    rw [List.length_nil] at e7
    subst e7
    have HSU := AsideAw.mk (show Calls Tryz.prog 25 #[.slice A7 0 c7] w7.drew fun e w' => e = .returned (.int .u32 0) ∧ Below w7.drew.heap.size w7.drew w' by
      obtain ⟨q1, q2, q3⟩ := Kd.R_reads' HO7.out
      exact toll_Sum.calls 5 A7 c7 [] 0 w7.drew q3 (Nat.zero_le _) ((HGL.out.of_below HB7.out).of_heap rfl) aw3)
    refine start_ (n := 10) (S := fun w' => w'.cell? ⟨g1, 0, none⟩ = some (.int .i64 1) ∧ w'.cell? ⟨g1, 1, none⟩ = some (.int .i64 8) ∧ w'.cell? ⟨g1, 2, none⟩ = some (.bool false) ∧ w'.cell? ⟨g1, 3, none⟩ = some (.int .i64 1) ∧ w'.cell? ⟨g1, 4, none⟩ = some (.int .i64 16) ∧ w'.cell? ⟨g1, 5, none⟩ = some (.int .i64 0) ∧ w'.cell? ⟨g1, 6, none⟩ = some (.int .i64 0)) (ds := []) #[false, false, false, false, false, false, false, false, false, false] (by kernel_rfl) rfl rfl ⟨f0, f1, f2, f3, f4, f5, f6⟩ (fun hHeld => ?_)
    refine pure_ (i := 1) (N := some 72) (v := ?_) (a' := ?_) #[false, true, false, false, false, false, false, false, false, false] rfl rfl (by kernel_rfl) (fun _ _ _ h => h) (Or.inl ⟨by rfl, ?_⟩) ?_ ?_
    rotate_left
    · intro w'
      go_simp
      with_reducible rfl
    rotate_left
    · simp only [Act.put, List.setIfInBounds_toArray, List.set_cons_zero, List.set_cons_succ, i64_w, i32_w]
      rfl
    refine take_ (i := 0) (N := some 71) (v := ?_) (a' := ?_) #[true, true, false, false, false, false, false, false, false, false] rfl rfl (by kernel_rfl) (fun _ _ _ h => h) (Or.inl ⟨by rfl, ?_⟩) hHeld ?_ ?_
    rotate_left
    · rintro w' ⟨s0, s1, s2, s3, s4, s5, s6⟩
      go_simp
      with_reducible rfl
    rotate_left
    · simp only [Act.put, List.setIfInBounds_toArray, List.set_cons_zero, List.set_cons_succ, i64_w, i32_w]
      rfl
    refine one_ (i := 2) (N := some 73) #[true, true, true, false, false, false, false, false, false, false] rfl rfl (by kernel_rfl) (by decide) (fun K hK => ?_)
    refine goes_ Tryz.func25 (by kernel_rfl) rfl #[.slice A7 0 c7] (by rfl) rfl rfl (by simp only [List.map_toArray, List.map_cons, List.map_nil]; rfl) ?_
    with_reducible refine (HSU.out).mono ?_
    rintro e w8 ⟨rfl, hd8⟩
    refine ⟨_, rfl, ?_⟩
    have hX8 := blk_below (w := w7.drew) HX7.out hd8
    have hP8 := blk_below (w := w7.drew) HP7.out hd8
    have hB8 := below_step (below_drew HB7.out) hd8
    refine hK.out _ _ ⟨(blk_cell hX8 0).trans rfl, (blk_cell hX8 1).trans rfl, (blk_cell hX8 2).trans rfl, (blk_cell hX8 3).trans rfl, (blk_cell hX8 4).trans rfl, (blk_cell hX8 5).trans rfl, (blk_cell hX8 6).trans rfl⟩ (fun hHeld => ?_)
    clear hK K
    refine norm_ (a' := ?_) ?_ ?_
    rotate_left
    · show Act.put _ (some 73) _ = _
      simp only [Act.put, List.setIfInBounds_toArray, List.set_cons_zero, List.set_cons_succ, i64_w, i32_w]
      rfl
    refine pure_ (i := 3) (N := some 74) (v := ?_) (a' := ?_) #[true, true, true, true, false, false, false, false, false, false] rfl rfl (by kernel_rfl) (fun _ _ _ h => h) (Or.inl ⟨by rfl, ?_⟩) ?_ ?_
    rotate_left
    · intro w'
      go_simp
      with_reducible rfl
    rotate_left
    · simp only [Act.put, List.setIfInBounds_toArray, List.set_cons_zero, List.set_cons_succ, i64_w, i32_w]
      rfl
    refine one_ (i := 4) (N := some 75) #[true, true, true, true, true, false, false, false, false, false] rfl rfl (by kernel_rfl) (by decide) (fun K hK => ?_)
    refine goes_ Tryz.func24 (by kernel_rfl) rfl #[.agg #[.int .i64 1, .int .i64 8, .bool false, .int .i64 1, .int .i64 16, .int .i64 0, .int .i64 0, .int .u32 0]] (by rfl) rfl rfl (by simp only [List.map_toArray, List.map_cons, List.map_nil]; rfl) ?_
    with_reducible refine (head_Bytes.gives 0 (by decide) _).mono ?_
    rintro e w9 ⟨v9, zs, rfl, hz9, ho9, hd9⟩
    refine ⟨_, rfl, ?_⟩
    obtain ⟨A9, c9, e9⟩ := Kd.R_slice ho9
    subst e9
    have HF := AsideAw.mk (show slices_Concat_byte_byte.f [zs, [], []] = some zs by unfold slices_Concat_byte_byte.f; rw [if_pos ⟨by simp, fun x hx => by simp at hx; rcases hx with rfl | rfl <;> simp_all⟩]; simp)
    have hX9 := blk_below hX8 hd9
    have hP9 := blk_below hP8 hd9
    have hB9 := below_step hB8 hd9
    have HZ9 := AsideAw.mk hz9
    have HO9 := AsideAw.mk (Kd.R_lower ho9 hB8.size)
    have HX9 := AsideAw.mk hX9
    have HP9 := AsideAw.mk hP9
    have HB9 := AsideAw.mk hB9
    refine hK.out _ _ ⟨(blk_cell hX9 0).trans rfl, (blk_cell hX9 1).trans rfl, (blk_cell hX9 2).trans rfl, (blk_cell hX9 3).trans rfl, (blk_cell hX9 4).trans rfl, (blk_cell hX9 5).trans rfl, (blk_cell hX9 6).trans rfl⟩ (fun hHeld => ?_)
    clear hK K
    refine norm_ (a' := ?_) ?_ ?_
    rotate_left
    · show Act.put _ (some 75) _ = _
      simp only [Act.put, List.setIfInBounds_toArray, List.set_cons_zero, List.set_cons_succ, i64_w, i32_w]
      rfl
    refine pure_ (i := 5) (N := some 70) (v := ?_) (a' := ?_) #[true, true, true, true, true, true, false, false, false, false] rfl rfl (by kernel_rfl) (fun _ _ _ h => h) (Or.inl ⟨by rfl, ?_⟩) ?_ ?_
    rotate_left
    · intro w'
      go_simp
      with_reducible rfl
    rotate_left
    · simp only [Act.put, List.setIfInBounds_toArray, List.set_cons_zero, List.set_cons_succ, i64_w, i32_w]
      rfl
    refine pure_ (i := 6) (N := some 76) (v := ?_) (a' := ?_) #[true, true, true, true, true, true, true, false, false, false] rfl rfl (by kernel_rfl) (fun _ _ _ h => h) (Or.inl ⟨by rfl, ?_⟩) ?_ ?_
    rotate_left
    · intro w'
      go_simp
      with_reducible rfl
    rotate_left
    · simp only [Act.put, List.setIfInBounds_toArray, List.set_cons_zero, List.set_cons_succ, i64_w, i32_w]
      rfl
    refine pure_ (i := 7) (N := some 77) (v := ?_) (a' := ?_) #[true, true, true, true, true, true, true, true, false, false] rfl rfl (by kernel_rfl) (fun _ _ _ h => h) (Or.inl ⟨by rfl, ?_⟩) ?_ ?_
    rotate_left
    · intro w'
      go_simp
      with_reducible rfl
    rotate_left
    · simp only [Act.put, List.setIfInBounds_toArray, List.set_cons_zero, List.set_cons_succ, i64_w, i32_w]
      rfl
    refine pure_ (i := 8) (N := some 17) (v := ?_) (a' := ?_) #[true, true, true, true, true, true, true, true, true, false] rfl rfl (by kernel_rfl) (fun _ _ _ h => h) (Or.inl ⟨by rfl, ?_⟩) ?_ ?_
    rotate_left
    · intro w'
      go_simp
      with_reducible rfl
    rotate_left
    · simp only [Act.put, List.setIfInBounds_toArray, List.set_cons_zero, List.set_cons_succ, i64_w, i32_w]
      rfl
    refine pure_ (i := 9) (N := some 18) (v := ?_) (a' := ?_) #[true, true, true, true, true, true, true, true, true, true] rfl rfl (by kernel_rfl) (fun _ _ _ h => h) (Or.inl ⟨by rfl, ?_⟩) ?_ ?_
    rotate_left
    · intro w'
      go_simp
      with_reducible rfl
    rotate_left
    · simp only [Act.put, List.setIfInBounds_toArray, List.set_cons_zero, List.set_cons_succ, i64_w, i32_w]
      rfl
    refine done_ (by kernel_rfl) ?_

    clear hHeld hX8 hP8 hB8 hX9 hP9 hB9 ho9 hd8 hd9 hz9 f0 f1 f2 f3 f4 f5 f6
    have HN := AsideAw.mk (fun W => (show Kd.C (Kd.int .i64) W none 0 [] from ⟨rfl, by decide, fun h => absurd h (by simp)⟩))
    have f0 := (blk_cell HX9.out 0).trans rfl; have f1 := (blk_cell HX9.out 1).trans rfl; have f2 := (blk_cell HX9.out 2).trans rfl; have f3 := (blk_cell HX9.out 3).trans rfl; have f4 := (blk_cell HX9.out 4).trans rfl; have f5 := (blk_cell HX9.out 5).trans rfl; have f6 := (blk_cell HX9.out 6).trans rfl
    go_wp2_with (first | (go_at_call 27; refine (stream_units.gives _ _).mono ?_; rintro e w10 ⟨rfl, hd⟩; have HP10 := AsideAw.mk (blk_below HP9.out hd); have HB10 := AsideAw.mk (below_step HB9.out hd); have HO10 := AsideAw.mk (Kd.R_below HO9.out hd); clear hd f0 f1 f2 f3 f4 f5 f6) | (go_at_call 26; refine (ladder_Bytes.calls 5 none 0 [] [] 0 _ (HN.out _) (Nat.le_refl _) aw4).mono ?_; rintro e w11 ⟨v11, rfl, ho11, hd⟩; obtain ⟨A11, c11, e11⟩ := Kd.R_slice ho11; rw [List.length_nil] at e11; subst e11; have HP11 := AsideAw.mk (blk_below HP10.out hd); have HB11 := AsideAw.mk (below_step HB10.out hd); have HO11 := AsideAw.mk (Kd.R_below HO10.out hd); have HI11 := AsideAw.mk (Kd.R_lower ho11 HB10.out.size); clear hd ho11) | (go_at_call 29; refine (pipe_Bytes.gives p p 0 0 (.slice none 0 0) [] _ ⟨Nat.le_refl _, blk_lt HP11.out, HP11.out, World.ownsRow_nil _ _ _ _, by simp [Value.ownBlock], by omega, by omega, by simp⟩ (by omega)).mono ?_; rintro e w12 ⟨v12, ys, rfl, hy1, hy2, ho12, hd⟩; obtain rfl : ys = [] := List.eq_nil_of_length_eq_zero (by omega); obtain ⟨A12, c12, e12⟩ := Kd.R_slice ho12; rw [List.length_nil] at e12; subst e12; have HB12 := AsideAw.mk (below_step HB11.out hd); have HO12 := AsideAw.mk (Kd.R_below HO11.out hd); have HI12 := AsideAw.mk (Kd.R_below HI11.out hd); have HJ12 := AsideAw.mk (Kd.R_lower ho12 HB11.out.size); clear hd ho12 hy1 hy2) | (go_at_call 28; have hrows := RowsAre.cons (row_of_R HO12.out) (RowsAre.cons (row_of_R HI12.out) (RowsAre.cons (row_of_R HJ12.out) RowsAre.nil)); rw [HZ9.out] at hrows; have hC := rows_made (e := 5) (E := 32) hrows (by simp); refine (slices_Concat_byte_byte.calls _ 3 [zs, [], []] zs _ hC (Nat.le_refl _) HF.out).mono ?_; rintro e w14 ⟨v14, rfl, ho14, hd⟩; have HO14 := AsideAw.mk ho14; have HD14 := AsideAw.mk hd; clear hrows hC ho14 hd))
    go_ret2
    have hal := below_step HB12.out ((Below.refl w12.heap.size w12).alloc (Nat.le_refl _) (Obj.cells #[.slice A9 20 c9, .slice A11 0 c11, .slice A12 0 c12] 32))
    exact ⟨_, _, rfl, HZ9.out, Kd.R_lower HO14.out hal.size, hal.trans (HD14.out.mono hal.size)⟩
theorem one_nil {w : World} {g t : Nat} (h : w.heap[g]? = some (.cells #[.slice none 0 0] t (0, 0))) : Kd.C (Kd.slice 3 (Kd.int .i64)) w (some ⟨g, 0, none⟩) 1 [[]] := by
  refine ⟨rfl, by decide, fun _ => ⟨⟨g, 0, none⟩, rfl, fun j p hj => ?_⟩⟩
  obtain ⟨rfl, rfl⟩ : j = 0 ∧ p = [] := by
    cases j with
    | zero => simp at hj; exact ⟨rfl, hj⟩
    | succ j => simp at hj
  refine ⟨[.slice none 0 0], rfl, ⟨none, 0, rfl, Nat.le_refl _, ⟨rfl, by decide, fun h => absurd h (by simp)⟩⟩, fun i u hi => ?_⟩
  cases i with
  | succ i => simp at hi
  | zero =>
    simp only [List.getElem?_cons_zero, Option.some.injEq] at hi
    subst hi
    exact (blk_cell h 0).trans rfl
def sackbuttop_awake.f : Option Bool := some true
set_option maxRecDepth 100000 in
set_option maxHeartbeats 4000000 in
theorem sackbuttop_awake.calls (r : Bool) (w : World) (hG : GL w) (h : sackbuttop_awake.f = some r) :
    Calls Tryz.prog 5 #[] w fun e w' => e = .returned (.bool r) ∧ Below w.heap.size w w' := by
  obtain rfl : true = r := Option.some.inj h
  clear h
  have HGL := AsideAw.mk hG
  clear hG
  go_enter Tryz.func5, Tryz.ntmps5
  go_wp2_with (go_at_call 8; have hb1 : Below w.heap.size w (w.alloc (Obj.cells #[.slice none 0 0] 37)) := (Below.refl _ _).alloc (Nat.le_refl _) _; refine (stream_Encode_awake.gives _ _ (HGL.out.of_below hb1) (one_nil (heap_alloc_new _ _))).mono ?_; rintro e w1 ⟨v1, zs, rfl, hz, ho, hd⟩; obtain ⟨A, c, e1⟩ := Kd.R_slice ho; rw [hz] at e1; subst e1; have HB := AsideAw.mk (hb1.trans (hd.mono hb1.size)); clear hd ho hb1)
  go_ret
  exact ⟨rfl, HB.out⟩

end Go.Proofs.YtkolmgkbdhbmhaaGreatDoor.HT2

namespace Go.Proofs.YtkolmgkbdhbmhaaGreatDoor.HT2
open Go.RowKit Go.Proofs.YtkolmgkbdhbmhaaGreatDoorW.PrintWords Go.Proofs.YtkolmgkbdhbmhaaGreatDoorW.PrintLast Go.Proofs.YtkolmgkbdhbmhaaGreatDoorW.PrintMore
attribute [local go_sem] max2_int min2_int max_two min_two max_three min_three max_four min_four   -- for this text's walks alone
set_option linter.unusedVariables false
set_option linter.unusedSimpArgs false

/-! ### sackbuttop_TopRefused: function 3 -/
def sackbuttop_TopRefused.j0 : Nat → Bool → Int → Int → Bool → Int → Int → Int → Int → List (List Int) → Int → Int → Bool → Bool → Bool → Option (Bool)
  | 0, _, _, _, _, _, _, _, _, _, _, _, _, _, _ => none
  | k + 1, x17, x198000, x198001, x198002, x198003, x198004, x198005, x198006, x198007, x198008, x198009, x198010, x198011, x198012 => if x17 = true then ((sackbuttop_awake.f).bind fun t200 => (some t200)) else ((sackbutref18_Check.f k x198000 x198001 x198002 x198003 x198004 x198005 x198006 x198007 x198008 x198009 x198010 x198011 x198012).bind fun t201 => (if t201 = 0 then (some true) else ((stream_Encode.f k x198000 x198001 x198002 x198003 x198004 x198005 x198006 x198007 x198008 x198009 x198010 x198011 x198012).bind fun bt202 => (if bt202.2 = t201 then (some ((bt202.1.length : Int) == 0)) else (some false)))))
def sackbuttop_TopRefused.f (k : Nat) (a0_0 : Int) (a0_1 : Int) (a0_2 : Bool) (a0_3 : Int) (a0_4 : Int) (a0_5 : Int) (a0_6 : Int) (l0_7 : List (List Int)) (a0_8 : Int) (a0_9 : Int) (a0_10 : Bool) (a0_11 : Bool) (a0_12 : Bool) : Option (Bool) := (sackbuttop_awake.f).bind fun t198 => (if t198 = true then ((sackbutlaw18_Soon.f k a0_0 a0_1 a0_2 a0_3 a0_4 a0_5 a0_6 l0_7 a0_8 a0_9 a0_10 a0_11 a0_12).bind fun t199 => (sackbuttop_TopRefused.j0 k (!t199) a0_0 a0_1 a0_2 a0_3 a0_4 a0_5 a0_6 l0_7 a0_8 a0_9 a0_10 a0_11 a0_12)) else (sackbuttop_TopRefused.j0 k true a0_0 a0_1 a0_2 a0_3 a0_4 a0_5 a0_6 l0_7 a0_8 a0_9 a0_10 a0_11 a0_12))
set_option maxHeartbeats 8000000 in
set_option maxRecDepth 100000 in
theorem sackbuttop_TopRefused.calls (k : Nat) (a0_0 : Int) (a0_1 : Int) (a0_2 : Bool) (a0_3 : Int) (a0_4 : Int) (a0_5 : Int) (a0_6 : Int) (A0_7 : Option Addr) (c0_7 : Nat) (l0_7 : List (List Int)) (a0_8 : Int) (a0_9 : Int) (a0_10 : Bool) (a0_11 : Bool) (a0_12 : Bool) (r : Bool) (w : World) (hr0_7 : Kd.C (Kd.slice 3 (Kd.int .i64)) w A0_7 l0_7.length l0_7) (hc0_7 : l0_7.length ≤ c0_7) (hG : GL w) (h : sackbuttop_TopRefused.f k a0_0 a0_1 a0_2 a0_3 a0_4 a0_5 a0_6 l0_7 a0_8 a0_9 a0_10 a0_11 a0_12 = some r) :
    Calls Tryz.prog 3 #[.agg #[.int .i64 a0_0, .int .i64 a0_1, .bool a0_2, .int .i64 a0_3, .int .i64 a0_4, .int .i64 a0_5, .int .i64 a0_6, .slice A0_7 l0_7.length c0_7, .int .i64 a0_8, .int .i64 a0_9, .bool a0_10, .bool a0_11, .bool a0_12]] w fun e w' => e = .returned (.bool r) ∧ Below w.heap.size w w' := by
  have hu28 := Tryz.underlying28
  have hu23 := Tryz.underlying23
  have hu26 := Tryz.underlying26
  have HR0_7 := Aside0.mk hr0_7
  have HC0_7 := Aside0.mk hc0_7
  clear hr0_7 hc0_7
  have HB := Aside0.mk (Below.refl w.heap.size w)
  have H : ((sackbuttop_awake.f).bind fun t198 => (if t198 = true then ((sackbutlaw18_Soon.f k a0_0 a0_1 a0_2 a0_3 a0_4 a0_5 a0_6 l0_7 a0_8 a0_9 a0_10 a0_11 a0_12).bind fun t199 => (sackbuttop_TopRefused.j0 k (!t199) a0_0 a0_1 a0_2 a0_3 a0_4 a0_5 a0_6 l0_7 a0_8 a0_9 a0_10 a0_11 a0_12)) else (sackbuttop_TopRefused.j0 k true a0_0 a0_1 a0_2 a0_3 a0_4 a0_5 a0_6 l0_7 a0_8 a0_9 a0_10 a0_11 a0_12))) = some r := h
  clear h
  have HC2 := Aside0.mk H
  clear H
  go_enter Tryz.func3, Tryz.ntmps3
  go_upto_region 1 with (first | ((with_reducible refine gate_dst (N := 1) rfl ?_); (try (refine gate_guard (by rfl) ?_; dsimp only)); refine box_event ?hg (N := 1) ?hd (cs := #[.int .i64 a0_0, .int .i64 a0_1, .bool a0_2, .int .i64 a0_3, .int .i64 a0_4, .int .i64 a0_5, .int .i64 a0_6, .slice A0_7 l0_7.length c0_7, .int .i64 a0_8, .int .i64 a0_9, .bool a0_10, .bool a0_11, .bool a0_12]) (t := 28) ?hr ?_; (case hd => rfl); (case hg => rfl); (case hr => first | (go_simp; done) | (go_simp; rfl)); intro gb197 hg w3 hbox hb; have n0_ := Aside0.mk (below_step (by repeat (first | (with_reducible first | exact HB.out | apply below_alloc | apply pw_below_drewN | apply below_drew1) | exact HB.out)) hb); have n1_ := Aside0.mk (hbox); have n2_ := Aside0.mk ((by rw [hg]; exact (below_size (by repeat (first | (with_reducible first | exact HB.out | apply below_alloc | apply pw_below_drewN | apply below_drew1) | exact HB.out))) : w.heap.size ≤ gb197)); have n3_ := Aside0.mk ((by rw [hg]; exact (below_size (by repeat (first | (with_reducible first | exact HB.out | apply below_alloc | apply pw_below_drewN | apply below_drew1) | exact HB.out))) : w.heap.size ≤ gb197)); clear HB; have HB := n0_; have BK197 := n1_; have GW197 := n2_; have GE197 := n3_; clear n0_ n1_ n2_ n3_; clear hb hbox hg))
  (try simp only [Act.put, List.setIfInBounds_toArray, List.set_cons_zero, List.set_cons_succ])
  go_cut [17] (fun v17 wc => ∃ (kq : Nat) (x17_1 : Bool), v17 = .bool x17_1 ∧ Aside0 (sackbuttop_TopRefused.j0 kq x17_1 a0_0 a0_1 a0_2 a0_3 a0_4 a0_5 a0_6 l0_7 a0_8 a0_9 a0_10 a0_11 a0_12 = some r) ∧ Aside0 (kq ≤ k) ∧ Aside0 (wc.heap[gb197]? = some (.cells #[.int .i64 a0_0, .int .i64 a0_1, .bool a0_2, .int .i64 a0_3, .int .i64 a0_4, .int .i64 a0_5, .int .i64 a0_6, (.slice A0_7 l0_7.length c0_7), .int .i64 a0_8, .int .i64 a0_9, .bool a0_10, .bool a0_11, .bool a0_12] 28 (0, 0))) ∧ Aside0 (Below w.heap.size w wc))
  case first =>
    have H := HC2.out
    clear HC2
    replace H := Option.bind_eq_some_iff.mp H
    obtain ⟨t198, A40, H⟩ := H
    replace H : (if t198 = true then ((sackbutlaw18_Soon.f k a0_0 a0_1 a0_2 a0_3 a0_4 a0_5 a0_6 l0_7 a0_8 a0_9 a0_10 a0_11 a0_12).bind fun t199 => (sackbuttop_TopRefused.j0 k (!t199) a0_0 a0_1 a0_2 a0_3 a0_4 a0_5 a0_6 l0_7 a0_8 a0_9 a0_10 a0_11 a0_12)) else (sackbuttop_TopRefused.j0 k true a0_0 a0_1 a0_2 a0_3 a0_4 a0_5 a0_6 l0_7 a0_8 a0_9 a0_10 a0_11 a0_12)) = some r := H
    have A4 := Aside0.mk A40
    clear A40
    by_cases c5 : t198 = true
    · subst c5
      have H1 : ((sackbutlaw18_Soon.f k a0_0 a0_1 a0_2 a0_3 a0_4 a0_5 a0_6 l0_7 a0_8 a0_9 a0_10 a0_11 a0_12).bind fun t199 => (sackbuttop_TopRefused.j0 k (!t199) a0_0 a0_1 a0_2 a0_3 a0_4 a0_5 a0_6 l0_7 a0_8 a0_9 a0_10 a0_11 a0_12)) = some r := by rw [if_pos rfl] at H; exact H
      clear H
      have H := H1
      clear H1
      replace H := Option.bind_eq_some_iff.mp H
      obtain ⟨t199, A60, H⟩ := H
      replace H : (sackbuttop_TopRefused.j0 k (!t199) a0_0 a0_1 a0_2 a0_3 a0_4 a0_5 a0_6 l0_7 a0_8 a0_9 a0_10 a0_11 a0_12) = some r := H
      have A6 := Aside0.mk A60
      clear A60
      have H' := Aside0.mk H
      clear H
      go_wp2_with (first | ((with_reducible refine gate_callee (f := 5) rfl ?_); refine goesL_ (some 6) rfl rfl Tryz.func5 (by kernel_rfl) rfl #[] rfl (by (try simp only [List.map_toArray, List.map_cons, List.map_nil]); first | done | rfl | (simp only [List.length_drop, List.length_take]; rfl)) ?_; (with_reducible refine (sackbuttop_awake.calls  true _ ?side1 A4.out).mono ?_); (case side1 => first | exact hG | exact GL.of_heap hG rfl | (exact GL.of_below hG (by repeat (first | (with_reducible first | exact HB.out | apply below_alloc | apply pw_below_drewN | apply below_drew1 | refine below_set ?_ GE197.out) | exact HB.out)))); rintro e w7 ⟨rfl, hb⟩; refine ⟨_, rfl, ?_⟩; have n0_ := Aside0.mk (blk_below (g := gb197) (o := .cells #[.int .i64 a0_0, .int .i64 a0_1, .bool a0_2, .int .i64 a0_3, .int .i64 a0_4, .int .i64 a0_5, .int .i64 a0_6, .slice A0_7 l0_7.length c0_7, .int .i64 a0_8, .int .i64 a0_9, .bool a0_10, .bool a0_11, .bool a0_12] 28 (0, 0)) (by (with_reducible repeat (first | refine blk_drewN ?_ _ | refine blk_drew ?_ | refine blk_alloc ?_ _)); exact BK197.out) hb); have n1_ := Aside0.mk (below_step (by repeat (first | (with_reducible first | exact HB.out | apply below_alloc | apply pw_below_drewN | apply below_drew1 | refine below_set ?_ GE197.out) | exact HB.out)) hb); clear BK197; clear HB; have BK197 := n0_; have HB := n1_; clear n0_ n1_; (try clear hb); (try clear hb2); (try clear hk); (try clear hi); have hcz8_0 : w7.cell? ⟨gb197, 0, none⟩ = some (.int .i64 a0_0) := (blk_cell BK197.out 0).trans rfl; have hcz8_1 : w7.cell? ⟨gb197, 1, none⟩ = some (.int .i64 a0_1) := (blk_cell BK197.out 1).trans rfl; have hcz8_2 : w7.cell? ⟨gb197, 2, none⟩ = some (.bool a0_2) := (blk_cell BK197.out 2).trans rfl; have hcz8_3 : w7.cell? ⟨gb197, 3, none⟩ = some (.int .i64 a0_3) := (blk_cell BK197.out 3).trans rfl; have hcz8_4 : w7.cell? ⟨gb197, 4, none⟩ = some (.int .i64 a0_4) := (blk_cell BK197.out 4).trans rfl; have hcz8_5 : w7.cell? ⟨gb197, 5, none⟩ = some (.int .i64 a0_5) := (blk_cell BK197.out 5).trans rfl; have hcz8_6 : w7.cell? ⟨gb197, 6, none⟩ = some (.int .i64 a0_6) := (blk_cell BK197.out 6).trans rfl; have hcz8_7 : w7.cell? ⟨gb197, 7, none⟩ = some (.slice A0_7 l0_7.length c0_7) := (blk_cell BK197.out 7).trans rfl; have hcz8_8 : w7.cell? ⟨gb197, 8, none⟩ = some (.int .i64 a0_8) := (blk_cell BK197.out 8).trans rfl; have hcz8_9 : w7.cell? ⟨gb197, 9, none⟩ = some (.int .i64 a0_9) := (blk_cell BK197.out 9).trans rfl; have hcz8_10 : w7.cell? ⟨gb197, 10, none⟩ = some (.bool a0_10) := (blk_cell BK197.out 10).trans rfl; have hcz8_11 : w7.cell? ⟨gb197, 11, none⟩ = some (.bool a0_11) := (blk_cell BK197.out 11).trans rfl; have hcz8_12 : w7.cell? ⟨gb197, 12, none⟩ = some (.bool a0_12) := (blk_cell BK197.out 12).trans rfl; have hfz8_0 := blk_frozen BK197.out 0; have hfz8_1 := blk_frozen BK197.out 1; have hfz8_2 := blk_frozen BK197.out 2; have hfz8_3 := blk_frozen BK197.out 3; have hfz8_4 := blk_frozen BK197.out 4; have hfz8_5 := blk_frozen BK197.out 5; have hfz8_6 := blk_frozen BK197.out 6; have hfz8_7 := blk_frozen BK197.out 7; have hfz8_8 := blk_frozen BK197.out 8; have hfz8_9 := blk_frozen BK197.out 9; have hfz8_10 := blk_frozen BK197.out 10; have hfz8_11 := blk_frozen BK197.out 11; have hfz8_12 := blk_frozen BK197.out 12) | (go_at_call 6; (with_reducible refine (sackbutlaw18_Soon.calls k a0_0 a0_1 a0_2 a0_3 a0_4 a0_5 a0_6 _ _ l0_7 a0_8 a0_9 a0_10 a0_11 a0_12 t199 _ ?side1 ?side2 A6.out).mono ?_); (case side1 => repeat (first | exact (Kd.C_below HR0_7.out HB.out) | (with_reducible refine Kd.C_alloc ?_ _) | (with_reducible refine Kd.C_drewN ?_ _) | (with_reducible refine Kd.C_drew ?_))); (case side2 => exact HC0_7.out); rintro e w9 ⟨rfl, hb⟩; have n0_ := Aside0.mk (blk_below (g := gb197) (o := .cells #[.int .i64 a0_0, .int .i64 a0_1, .bool a0_2, .int .i64 a0_3, .int .i64 a0_4, .int .i64 a0_5, .int .i64 a0_6, .slice A0_7 l0_7.length c0_7, .int .i64 a0_8, .int .i64 a0_9, .bool a0_10, .bool a0_11, .bool a0_12] 28 (0, 0)) (by (with_reducible repeat (first | refine blk_drewN ?_ _ | refine blk_drew ?_ | refine blk_alloc ?_ _)); exact BK197.out) hb); have n1_ := Aside0.mk (below_step (by repeat (first | (with_reducible first | exact HB.out | apply below_alloc | apply pw_below_drewN | apply below_drew1 | refine below_set ?_ GE197.out) | exact HB.out)) hb); clear BK197; clear HB; have BK197 := n0_; have HB := n1_; clear n0_ n1_; (try clear hb); (try clear hb2); (try clear hk); (try clear hi)))
      go_meet
      case rel => exact ⟨_, (!t199), (by first | rfl | (simp; done) | (simp [*]; done)), H', ⟨by first | omega | exact Nat.le_refl _⟩, ⟨by (with_reducible repeat (first | refine blk_drewN ?_ _ | refine blk_drew ?_ | refine blk_alloc ?_ _)); exact BK197.out⟩, ⟨by repeat (first | (with_reducible first | exact HB.out | apply below_alloc | apply pw_below_drewN | apply below_drew1 | refine below_set ?_ GE197.out) | exact HB.out)⟩⟩
    · replace c5 := Bool.eq_false_iff.mpr c5
      subst c5
      have H1 : (sackbuttop_TopRefused.j0 k true a0_0 a0_1 a0_2 a0_3 a0_4 a0_5 a0_6 l0_7 a0_8 a0_9 a0_10 a0_11 a0_12) = some r := by rw [if_neg (show ¬ (false = true) by decide)] at H; exact H
      clear H
      have H := H1
      clear H1
      have H' := Aside0.mk H
      clear H
      go_wp2_with (first | ((with_reducible refine gate_callee (f := 5) rfl ?_); refine goesL_ (some 6) rfl rfl Tryz.func5 (by kernel_rfl) rfl #[] rfl (by (try simp only [List.map_toArray, List.map_cons, List.map_nil]); first | done | rfl | (simp only [List.length_drop, List.length_take]; rfl)) ?_; (with_reducible refine (sackbuttop_awake.calls  false _ ?side1 A4.out).mono ?_); (case side1 => first | exact hG | exact GL.of_heap hG rfl | (exact GL.of_below hG (by repeat (first | (with_reducible first | exact HB.out | apply below_alloc | apply pw_below_drewN | apply below_drew1 | refine below_set ?_ GE197.out) | exact HB.out)))); rintro e w10 ⟨rfl, hb⟩; refine ⟨_, rfl, ?_⟩; have n0_ := Aside0.mk (blk_below (g := gb197) (o := .cells #[.int .i64 a0_0, .int .i64 a0_1, .bool a0_2, .int .i64 a0_3, .int .i64 a0_4, .int .i64 a0_5, .int .i64 a0_6, .slice A0_7 l0_7.length c0_7, .int .i64 a0_8, .int .i64 a0_9, .bool a0_10, .bool a0_11, .bool a0_12] 28 (0, 0)) (by (with_reducible repeat (first | refine blk_drewN ?_ _ | refine blk_drew ?_ | refine blk_alloc ?_ _)); exact BK197.out) hb); have n1_ := Aside0.mk (below_step (by repeat (first | (with_reducible first | exact HB.out | apply below_alloc | apply pw_below_drewN | apply below_drew1 | refine below_set ?_ GE197.out) | exact HB.out)) hb); clear BK197; clear HB; have BK197 := n0_; have HB := n1_; clear n0_ n1_; (try clear hb); (try clear hb2); (try clear hk); (try clear hi)))
      go_meet
      case rel => exact ⟨_, (true), (by first | rfl | (simp; done) | (simp [*]; done)), H', ⟨by first | omega | exact Nat.le_refl _⟩, ⟨by (with_reducible repeat (first | refine blk_drewN ?_ _ | refine blk_drew ?_ | refine blk_alloc ?_ _)); exact BK197.out⟩, ⟨by repeat (first | (with_reducible first | exact HB.out | apply below_alloc | apply pw_below_drewN | apply below_drew1 | refine below_set ?_ GE197.out) | exact HB.out)⟩⟩
  case rest =>
    clear HC2
    try clear p2
    try clear c3
    try clear c5
    try clear hcz8_0
    try clear hcz8_1
    try clear hcz8_10
    try clear hcz8_11
    try clear hcz8_12
    try clear hcz8_2
    try clear hcz8_3
    try clear hcz8_4
    try clear hcz8_5
    try clear hcz8_6
    try clear hcz8_7
    try clear hcz8_8
    try clear hcz8_9
    try clear hfz8_0
    try clear hfz8_1
    try clear hfz8_10
    try clear hfz8_11
    try clear hfz8_12
    try clear hfz8_2
    try clear hfz8_3
    try clear hfz8_4
    try clear hfz8_5
    try clear hfz8_6
    try clear hfz8_7
    try clear hfz8_8
    try clear hfz8_9
    obtain ⟨kq, x17_1, rfl, HA, HJ1, BK197, HB⟩ := hcut
    cases kq with
    | zero => exact absurd HA.out (by simp [sackbuttop_TopRefused.j0])
    | succ kj1 =>
      have H := HA.out
      clear HA
      simp only [sackbuttop_TopRefused.j0] at H
      by_cases c11 : x17_1 = true
      · subst c11
        have H1 : ((sackbuttop_awake.f).bind fun t200 => (some t200)) = some r := by rw [if_pos rfl] at H; exact H
        clear H
        have H := H1
        clear H1
        replace H := Option.bind_eq_some_iff.mp H
        obtain ⟨t200, A120, H⟩ := H
        replace H : (some t200) = some r := H
        have A12 := Aside0.mk A120
        clear A120
        obtain rfl := Option.some.inj H
        go_wp2_with (first | ((with_reducible refine gate_callee (f := 5) rfl ?_); refine goesL_ (some 18) rfl rfl Tryz.func5 (by kernel_rfl) rfl #[] rfl (by (try simp only [List.map_toArray, List.map_cons, List.map_nil]); first | done | rfl | (simp only [List.length_drop, List.length_take]; rfl)) ?_; (with_reducible refine (sackbuttop_awake.calls  t200 _ ?side1 A12.out).mono ?_); (case side1 => first | exact hG | exact GL.of_heap hG rfl | (exact GL.of_below hG (by repeat (first | (with_reducible first | exact HB.out | apply below_alloc | apply pw_below_drewN | apply below_drew1 | refine below_set ?_ GE197.out) | exact HB.out)))); rintro e w13 ⟨rfl, hb⟩; refine ⟨_, rfl, ?_⟩; have n0_ := Aside0.mk (blk_below (g := gb197) (o := .cells #[.int .i64 a0_0, .int .i64 a0_1, .bool a0_2, .int .i64 a0_3, .int .i64 a0_4, .int .i64 a0_5, .int .i64 a0_6, .slice A0_7 l0_7.length c0_7, .int .i64 a0_8, .int .i64 a0_9, .bool a0_10, .bool a0_11, .bool a0_12] 28 (0, 0)) (by (with_reducible repeat (first | refine blk_drewN ?_ _ | refine blk_drew ?_ | refine blk_alloc ?_ _)); exact BK197.out) hb); have n1_ := Aside0.mk (below_step (by repeat (first | (with_reducible first | exact HB.out | apply below_alloc | apply pw_below_drewN | apply below_drew1 | refine below_set ?_ GE197.out) | exact HB.out)) hb); clear BK197; clear HB; have BK197 := n0_; have HB := n1_; clear n0_ n1_; (try clear hb); (try clear hb2); (try clear hk); (try clear hi)))
        go_ret
        exact ⟨by first | rfl | (simp [errW_none, errW_some] <;> rfl) | (simp [*, errW_none, errW_some] <;> rfl), by repeat (first | (with_reducible first | exact HB.out | apply below_alloc | apply pw_below_drewN | apply below_drew1 | refine below_set ?_ GE197.out) | exact HB.out)⟩
      · replace c11 := Bool.eq_false_iff.mpr c11
        subst c11
        have H1 : ((sackbutref18_Check.f kj1 a0_0 a0_1 a0_2 a0_3 a0_4 a0_5 a0_6 l0_7 a0_8 a0_9 a0_10 a0_11 a0_12).bind fun t201 => (if t201 = 0 then (some true) else ((stream_Encode.f kj1 a0_0 a0_1 a0_2 a0_3 a0_4 a0_5 a0_6 l0_7 a0_8 a0_9 a0_10 a0_11 a0_12).bind fun bt202 => (if bt202.2 = t201 then (some ((bt202.1.length : Int) == 0)) else (some false))))) = some r := by rw [if_neg (show ¬ (false = true) by decide)] at H; exact H
        clear H
        have H := H1
        clear H1
        replace H := Option.bind_eq_some_iff.mp H
        obtain ⟨t201, A140, H⟩ := H
        replace H : (if t201 = 0 then (some true) else ((stream_Encode.f kj1 a0_0 a0_1 a0_2 a0_3 a0_4 a0_5 a0_6 l0_7 a0_8 a0_9 a0_10 a0_11 a0_12).bind fun bt202 => (if bt202.2 = t201 then (some ((bt202.1.length : Int) == 0)) else (some false)))) = some r := H
        have A14 := Aside0.mk A140
        clear A140
        by_cases c15 : t201 = 0
        · rw [if_pos c15] at H
          have c15b0 : (t201 == 0) = true := beq_iff_eq.mpr c15
          have c15b1 : (t201 != 0) = false := bne_eq_false_iff_eq.mpr c15
          clear c15
          obtain rfl := Option.some.inj H
          have hcz16_0 : wc.cell? ⟨gb197, 0, none⟩ = some (.int .i64 a0_0) := (blk_cell BK197.out 0).trans rfl
          have hcz16_1 : wc.cell? ⟨gb197, 1, none⟩ = some (.int .i64 a0_1) := (blk_cell BK197.out 1).trans rfl
          have hcz16_2 : wc.cell? ⟨gb197, 2, none⟩ = some (.bool a0_2) := (blk_cell BK197.out 2).trans rfl
          have hcz16_3 : wc.cell? ⟨gb197, 3, none⟩ = some (.int .i64 a0_3) := (blk_cell BK197.out 3).trans rfl
          have hcz16_4 : wc.cell? ⟨gb197, 4, none⟩ = some (.int .i64 a0_4) := (blk_cell BK197.out 4).trans rfl
          have hcz16_5 : wc.cell? ⟨gb197, 5, none⟩ = some (.int .i64 a0_5) := (blk_cell BK197.out 5).trans rfl
          have hcz16_6 : wc.cell? ⟨gb197, 6, none⟩ = some (.int .i64 a0_6) := (blk_cell BK197.out 6).trans rfl
          have hcz16_7 : wc.cell? ⟨gb197, 7, none⟩ = some (.slice A0_7 l0_7.length c0_7) := (blk_cell BK197.out 7).trans rfl
          have hcz16_8 : wc.cell? ⟨gb197, 8, none⟩ = some (.int .i64 a0_8) := (blk_cell BK197.out 8).trans rfl
          have hcz16_9 : wc.cell? ⟨gb197, 9, none⟩ = some (.int .i64 a0_9) := (blk_cell BK197.out 9).trans rfl
          have hcz16_10 : wc.cell? ⟨gb197, 10, none⟩ = some (.bool a0_10) := (blk_cell BK197.out 10).trans rfl
          have hcz16_11 : wc.cell? ⟨gb197, 11, none⟩ = some (.bool a0_11) := (blk_cell BK197.out 11).trans rfl
          have hcz16_12 : wc.cell? ⟨gb197, 12, none⟩ = some (.bool a0_12) := (blk_cell BK197.out 12).trans rfl
          have hfz16_0 := blk_frozen BK197.out 0
          have hfz16_1 := blk_frozen BK197.out 1
          have hfz16_2 := blk_frozen BK197.out 2
          have hfz16_3 := blk_frozen BK197.out 3
          have hfz16_4 := blk_frozen BK197.out 4
          have hfz16_5 := blk_frozen BK197.out 5
          have hfz16_6 := blk_frozen BK197.out 6
          have hfz16_7 := blk_frozen BK197.out 7
          have hfz16_8 := blk_frozen BK197.out 8
          have hfz16_9 := blk_frozen BK197.out 9
          have hfz16_10 := blk_frozen BK197.out 10
          have hfz16_11 := blk_frozen BK197.out 11
          have hfz16_12 := blk_frozen BK197.out 12
          go_wp2_with (first | ((with_reducible refine gate_callee (f := 7) rfl ?_); refine goesL_ (some 25) rfl rfl Tryz.func7 (by kernel_rfl) rfl #[.agg #[.int .i64 a0_0, .int .i64 a0_1, .bool a0_2, .int .i64 a0_3, .int .i64 a0_4, .int .i64 a0_5, .int .i64 a0_6], .slice A0_7 l0_7.length c0_7, .agg #[.int .i64 a0_8, .int .i64 a0_9, .bool a0_10, .bool a0_11, .bool a0_12]] rfl (by (try simp only [List.map_toArray, List.map_cons, List.map_nil]); first | done | rfl | (simp only [List.length_drop, List.length_take]; rfl)) ?_; (with_reducible refine (sackbutref18_Check.calls kj1 a0_0 a0_1 a0_2 a0_3 a0_4 a0_5 a0_6 _ _ l0_7 a0_8 a0_9 a0_10 a0_11 a0_12 t201 _ ?side1 ?side2 A14.out).mono ?_); (case side1 => repeat (first | exact (Kd.C_below HR0_7.out HB.out) | (with_reducible refine Kd.C_alloc ?_ _) | (with_reducible refine Kd.C_drewN ?_ _) | (with_reducible refine Kd.C_drew ?_))); (case side2 => exact HC0_7.out); rintro e w17 ⟨rfl, hb⟩; refine ⟨_, rfl, ?_⟩; have n0_ := Aside0.mk (blk_below (g := gb197) (o := .cells #[.int .i64 a0_0, .int .i64 a0_1, .bool a0_2, .int .i64 a0_3, .int .i64 a0_4, .int .i64 a0_5, .int .i64 a0_6, .slice A0_7 l0_7.length c0_7, .int .i64 a0_8, .int .i64 a0_9, .bool a0_10, .bool a0_11, .bool a0_12] 28 (0, 0)) (by (with_reducible repeat (first | refine blk_drewN ?_ _ | refine blk_drew ?_ | refine blk_alloc ?_ _)); exact BK197.out) hb); have n1_ := Aside0.mk (below_step (by repeat (first | (with_reducible first | exact HB.out | apply below_alloc | apply pw_below_drewN | apply below_drew1 | refine below_set ?_ GE197.out) | exact HB.out)) hb); clear BK197; clear HB; have BK197 := n0_; have HB := n1_; clear n0_ n1_; (try clear hb); (try clear hb2); (try clear hk); (try clear hi)))
          go_ret
          exact ⟨by first | rfl | (simp [errW_none, errW_some] <;> rfl) | (simp [*, errW_none, errW_some] <;> rfl), by repeat (first | (with_reducible first | exact HB.out | apply below_alloc | apply pw_below_drewN | apply below_drew1 | refine below_set ?_ GE197.out) | exact HB.out)⟩
        · rw [if_neg c15] at H
          have c15b0 : (t201 == 0) = false := beq_eq_false_iff_ne.mpr c15
          have c15b1 : (t201 != 0) = true := bne_iff_ne.mpr c15
          replace H := Option.bind_eq_some_iff.mp H
          obtain ⟨⟨t202, t205⟩, A180, H⟩ := H
          replace H : (if t205 = t201 then (some ((t202.length : Int) == 0)) else (some false)) = some r := H
          have A18 := Aside0.mk A180
          clear A180
          by_cases c19 : t205 = t201
          · rw [if_pos c19] at H
            have c19b0 : (t205 == t201) = true := beq_iff_eq.mpr c19
            have c19b1 : (t205 != t201) = false := bne_eq_false_iff_eq.mpr c19
            clear c19
            obtain rfl := Option.some.inj H
            have hcz20_0 : wc.cell? ⟨gb197, 0, none⟩ = some (.int .i64 a0_0) := (blk_cell BK197.out 0).trans rfl
            have hcz20_1 : wc.cell? ⟨gb197, 1, none⟩ = some (.int .i64 a0_1) := (blk_cell BK197.out 1).trans rfl
            have hcz20_2 : wc.cell? ⟨gb197, 2, none⟩ = some (.bool a0_2) := (blk_cell BK197.out 2).trans rfl
            have hcz20_3 : wc.cell? ⟨gb197, 3, none⟩ = some (.int .i64 a0_3) := (blk_cell BK197.out 3).trans rfl
            have hcz20_4 : wc.cell? ⟨gb197, 4, none⟩ = some (.int .i64 a0_4) := (blk_cell BK197.out 4).trans rfl
            have hcz20_5 : wc.cell? ⟨gb197, 5, none⟩ = some (.int .i64 a0_5) := (blk_cell BK197.out 5).trans rfl
            have hcz20_6 : wc.cell? ⟨gb197, 6, none⟩ = some (.int .i64 a0_6) := (blk_cell BK197.out 6).trans rfl
            have hcz20_7 : wc.cell? ⟨gb197, 7, none⟩ = some (.slice A0_7 l0_7.length c0_7) := (blk_cell BK197.out 7).trans rfl
            have hcz20_8 : wc.cell? ⟨gb197, 8, none⟩ = some (.int .i64 a0_8) := (blk_cell BK197.out 8).trans rfl
            have hcz20_9 : wc.cell? ⟨gb197, 9, none⟩ = some (.int .i64 a0_9) := (blk_cell BK197.out 9).trans rfl
            have hcz20_10 : wc.cell? ⟨gb197, 10, none⟩ = some (.bool a0_10) := (blk_cell BK197.out 10).trans rfl
            have hcz20_11 : wc.cell? ⟨gb197, 11, none⟩ = some (.bool a0_11) := (blk_cell BK197.out 11).trans rfl
            have hcz20_12 : wc.cell? ⟨gb197, 12, none⟩ = some (.bool a0_12) := (blk_cell BK197.out 12).trans rfl
            have hfz20_0 := blk_frozen BK197.out 0
            have hfz20_1 := blk_frozen BK197.out 1
            have hfz20_2 := blk_frozen BK197.out 2
            have hfz20_3 := blk_frozen BK197.out 3
            have hfz20_4 := blk_frozen BK197.out 4
            have hfz20_5 := blk_frozen BK197.out 5
            have hfz20_6 := blk_frozen BK197.out 6
            have hfz20_7 := blk_frozen BK197.out 7
            have hfz20_8 := blk_frozen BK197.out 8
            have hfz20_9 := blk_frozen BK197.out 9
            have hfz20_10 := blk_frozen BK197.out 10
            have hfz20_11 := blk_frozen BK197.out 11
            have hfz20_12 := blk_frozen BK197.out 12
            go_wp2_with (first | ((with_reducible refine gate_callee (f := 7) rfl ?_); refine goesL_ (some 25) rfl rfl Tryz.func7 (by kernel_rfl) rfl #[.agg #[.int .i64 a0_0, .int .i64 a0_1, .bool a0_2, .int .i64 a0_3, .int .i64 a0_4, .int .i64 a0_5, .int .i64 a0_6], .slice A0_7 l0_7.length c0_7, .agg #[.int .i64 a0_8, .int .i64 a0_9, .bool a0_10, .bool a0_11, .bool a0_12]] rfl (by (try simp only [List.map_toArray, List.map_cons, List.map_nil]); first | done | rfl | (simp only [List.length_drop, List.length_take]; rfl)) ?_; (with_reducible refine (sackbutref18_Check.calls kj1 a0_0 a0_1 a0_2 a0_3 a0_4 a0_5 a0_6 _ _ l0_7 a0_8 a0_9 a0_10 a0_11 a0_12 t201 _ ?side1 ?side2 A14.out).mono ?_); (case side1 => repeat (first | exact (Kd.C_below HR0_7.out HB.out) | (with_reducible refine Kd.C_alloc ?_ _) | (with_reducible refine Kd.C_drewN ?_ _) | (with_reducible refine Kd.C_drew ?_))); (case side2 => exact HC0_7.out); rintro e w21 ⟨rfl, hb⟩; refine ⟨_, rfl, ?_⟩; have n0_ := Aside0.mk (blk_below (g := gb197) (o := .cells #[.int .i64 a0_0, .int .i64 a0_1, .bool a0_2, .int .i64 a0_3, .int .i64 a0_4, .int .i64 a0_5, .int .i64 a0_6, .slice A0_7 l0_7.length c0_7, .int .i64 a0_8, .int .i64 a0_9, .bool a0_10, .bool a0_11, .bool a0_12] 28 (0, 0)) (by (with_reducible repeat (first | refine blk_drewN ?_ _ | refine blk_drew ?_ | refine blk_alloc ?_ _)); exact BK197.out) hb); have n1_ := Aside0.mk (below_step (by repeat (first | (with_reducible first | exact HB.out | apply below_alloc | apply pw_below_drewN | apply below_drew1 | refine below_set ?_ GE197.out) | exact HB.out)) hb); clear BK197; clear HB; have BK197 := n0_; have HB := n1_; clear n0_ n1_; (try clear hb); (try clear hb2); (try clear hk); (try clear hi); have hcz22_0 : w21.cell? ⟨gb197, 0, none⟩ = some (.int .i64 a0_0) := (blk_cell BK197.out 0).trans rfl; have hcz22_1 : w21.cell? ⟨gb197, 1, none⟩ = some (.int .i64 a0_1) := (blk_cell BK197.out 1).trans rfl; have hcz22_2 : w21.cell? ⟨gb197, 2, none⟩ = some (.bool a0_2) := (blk_cell BK197.out 2).trans rfl; have hcz22_3 : w21.cell? ⟨gb197, 3, none⟩ = some (.int .i64 a0_3) := (blk_cell BK197.out 3).trans rfl; have hcz22_4 : w21.cell? ⟨gb197, 4, none⟩ = some (.int .i64 a0_4) := (blk_cell BK197.out 4).trans rfl; have hcz22_5 : w21.cell? ⟨gb197, 5, none⟩ = some (.int .i64 a0_5) := (blk_cell BK197.out 5).trans rfl; have hcz22_6 : w21.cell? ⟨gb197, 6, none⟩ = some (.int .i64 a0_6) := (blk_cell BK197.out 6).trans rfl; have hcz22_7 : w21.cell? ⟨gb197, 7, none⟩ = some (.slice A0_7 l0_7.length c0_7) := (blk_cell BK197.out 7).trans rfl; have hcz22_8 : w21.cell? ⟨gb197, 8, none⟩ = some (.int .i64 a0_8) := (blk_cell BK197.out 8).trans rfl; have hcz22_9 : w21.cell? ⟨gb197, 9, none⟩ = some (.int .i64 a0_9) := (blk_cell BK197.out 9).trans rfl; have hcz22_10 : w21.cell? ⟨gb197, 10, none⟩ = some (.bool a0_10) := (blk_cell BK197.out 10).trans rfl; have hcz22_11 : w21.cell? ⟨gb197, 11, none⟩ = some (.bool a0_11) := (blk_cell BK197.out 11).trans rfl; have hcz22_12 : w21.cell? ⟨gb197, 12, none⟩ = some (.bool a0_12) := (blk_cell BK197.out 12).trans rfl; have hfz22_0 := blk_frozen BK197.out 0; have hfz22_1 := blk_frozen BK197.out 1; have hfz22_2 := blk_frozen BK197.out 2; have hfz22_3 := blk_frozen BK197.out 3; have hfz22_4 := blk_frozen BK197.out 4; have hfz22_5 := blk_frozen BK197.out 5; have hfz22_6 := blk_frozen BK197.out 6; have hfz22_7 := blk_frozen BK197.out 7; have hfz22_8 := blk_frozen BK197.out 8; have hfz22_9 := blk_frozen BK197.out 9; have hfz22_10 := blk_frozen BK197.out 10; have hfz22_11 := blk_frozen BK197.out 11; have hfz22_12 := blk_frozen BK197.out 12) | ((with_reducible refine gate_callee (f := 8) rfl ?_); refine goesL_ (some 35) rfl rfl Tryz.func8 (by kernel_rfl) rfl #[.agg #[.int .i64 a0_0, .int .i64 a0_1, .bool a0_2, .int .i64 a0_3, .int .i64 a0_4, .int .i64 a0_5, .int .i64 a0_6], .slice A0_7 l0_7.length c0_7, .agg #[.int .i64 a0_8, .int .i64 a0_9, .bool a0_10, .bool a0_11, .bool a0_12]] rfl (by (try simp only [List.map_toArray, List.map_cons, List.map_nil]); first | done | rfl | (simp only [List.length_drop, List.length_take]; rfl)) ?_; (with_reducible refine (stream_Encode.calls kj1 a0_0 a0_1 a0_2 a0_3 a0_4 a0_5 a0_6 _ _ l0_7 a0_8 a0_9 a0_10 a0_11 a0_12 t202 t205 _ ?side1 ?side2 A18.out).mono ?_); (case side1 => repeat (first | exact (Kd.C_below HR0_7.out HB.out) | (with_reducible refine Kd.C_alloc ?_ _) | (with_reducible refine Kd.C_drewN ?_ _) | (with_reducible refine Kd.C_drew ?_))); (case side2 => exact HC0_7.out); rintro e w23 ⟨v203, rfl, ho0, hb⟩; refine ⟨_, rfl, ?_⟩; have n0_ := Aside0.mk (Kd.R_lower ho0 (below_size (by repeat (first | (with_reducible first | exact HB.out | apply below_alloc | apply pw_below_drewN | apply below_drew1 | refine below_set ?_ GE197.out) | exact HB.out)))); have n1_ := Aside0.mk (blk_below (g := gb197) (o := .cells #[.int .i64 a0_0, .int .i64 a0_1, .bool a0_2, .int .i64 a0_3, .int .i64 a0_4, .int .i64 a0_5, .int .i64 a0_6, .slice A0_7 l0_7.length c0_7, .int .i64 a0_8, .int .i64 a0_9, .bool a0_10, .bool a0_11, .bool a0_12] 28 (0, 0)) (by (with_reducible repeat (first | refine blk_drewN ?_ _ | refine blk_drew ?_ | refine blk_alloc ?_ _)); exact BK197.out) hb); have n2_ := Aside0.mk (below_step (by repeat (first | (with_reducible first | exact HB.out | apply below_alloc | apply pw_below_drewN | apply below_drew1 | refine below_set ?_ GE197.out) | exact HB.out)) hb); clear BK197; clear HB; have HO204 := n0_; have BK197 := n1_; have HB := n2_; clear n0_ n1_ n2_; (try clear hb); (try clear hb2); (try clear hk); (try clear hi); (try clear ho0); obtain ⟨Ao24, co24, eo24⟩ := Kd.R_slice HO204.out; subst eo24))
            go_ret
            exact ⟨by first | rfl | (simp [errW_none, errW_some] <;> rfl) | (simp [*, errW_none, errW_some] <;> rfl), by repeat (first | (with_reducible first | exact HB.out | apply below_alloc | apply pw_below_drewN | apply below_drew1 | refine below_set ?_ GE197.out) | exact HB.out)⟩
          · rw [if_neg c19] at H
            have c19b0 : (t205 == t201) = false := beq_eq_false_iff_ne.mpr c19
            have c19b1 : (t205 != t201) = true := bne_iff_ne.mpr c19
            obtain rfl := Option.some.inj H
            have hcz25_0 : wc.cell? ⟨gb197, 0, none⟩ = some (.int .i64 a0_0) := (blk_cell BK197.out 0).trans rfl
            have hcz25_1 : wc.cell? ⟨gb197, 1, none⟩ = some (.int .i64 a0_1) := (blk_cell BK197.out 1).trans rfl
            have hcz25_2 : wc.cell? ⟨gb197, 2, none⟩ = some (.bool a0_2) := (blk_cell BK197.out 2).trans rfl
            have hcz25_3 : wc.cell? ⟨gb197, 3, none⟩ = some (.int .i64 a0_3) := (blk_cell BK197.out 3).trans rfl
            have hcz25_4 : wc.cell? ⟨gb197, 4, none⟩ = some (.int .i64 a0_4) := (blk_cell BK197.out 4).trans rfl
            have hcz25_5 : wc.cell? ⟨gb197, 5, none⟩ = some (.int .i64 a0_5) := (blk_cell BK197.out 5).trans rfl
            have hcz25_6 : wc.cell? ⟨gb197, 6, none⟩ = some (.int .i64 a0_6) := (blk_cell BK197.out 6).trans rfl
            have hcz25_7 : wc.cell? ⟨gb197, 7, none⟩ = some (.slice A0_7 l0_7.length c0_7) := (blk_cell BK197.out 7).trans rfl
            have hcz25_8 : wc.cell? ⟨gb197, 8, none⟩ = some (.int .i64 a0_8) := (blk_cell BK197.out 8).trans rfl
            have hcz25_9 : wc.cell? ⟨gb197, 9, none⟩ = some (.int .i64 a0_9) := (blk_cell BK197.out 9).trans rfl
            have hcz25_10 : wc.cell? ⟨gb197, 10, none⟩ = some (.bool a0_10) := (blk_cell BK197.out 10).trans rfl
            have hcz25_11 : wc.cell? ⟨gb197, 11, none⟩ = some (.bool a0_11) := (blk_cell BK197.out 11).trans rfl
            have hcz25_12 : wc.cell? ⟨gb197, 12, none⟩ = some (.bool a0_12) := (blk_cell BK197.out 12).trans rfl
            have hfz25_0 := blk_frozen BK197.out 0
            have hfz25_1 := blk_frozen BK197.out 1
            have hfz25_2 := blk_frozen BK197.out 2
            have hfz25_3 := blk_frozen BK197.out 3
            have hfz25_4 := blk_frozen BK197.out 4
            have hfz25_5 := blk_frozen BK197.out 5
            have hfz25_6 := blk_frozen BK197.out 6
            have hfz25_7 := blk_frozen BK197.out 7
            have hfz25_8 := blk_frozen BK197.out 8
            have hfz25_9 := blk_frozen BK197.out 9
            have hfz25_10 := blk_frozen BK197.out 10
            have hfz25_11 := blk_frozen BK197.out 11
            have hfz25_12 := blk_frozen BK197.out 12
            go_wp2_with (first | ((with_reducible refine gate_callee (f := 7) rfl ?_); refine goesL_ (some 25) rfl rfl Tryz.func7 (by kernel_rfl) rfl #[.agg #[.int .i64 a0_0, .int .i64 a0_1, .bool a0_2, .int .i64 a0_3, .int .i64 a0_4, .int .i64 a0_5, .int .i64 a0_6], .slice A0_7 l0_7.length c0_7, .agg #[.int .i64 a0_8, .int .i64 a0_9, .bool a0_10, .bool a0_11, .bool a0_12]] rfl (by (try simp only [List.map_toArray, List.map_cons, List.map_nil]); first | done | rfl | (simp only [List.length_drop, List.length_take]; rfl)) ?_; (with_reducible refine (sackbutref18_Check.calls kj1 a0_0 a0_1 a0_2 a0_3 a0_4 a0_5 a0_6 _ _ l0_7 a0_8 a0_9 a0_10 a0_11 a0_12 t201 _ ?side1 ?side2 A14.out).mono ?_); (case side1 => repeat (first | exact (Kd.C_below HR0_7.out HB.out) | (with_reducible refine Kd.C_alloc ?_ _) | (with_reducible refine Kd.C_drewN ?_ _) | (with_reducible refine Kd.C_drew ?_))); (case side2 => exact HC0_7.out); rintro e w26 ⟨rfl, hb⟩; refine ⟨_, rfl, ?_⟩; have n0_ := Aside0.mk (blk_below (g := gb197) (o := .cells #[.int .i64 a0_0, .int .i64 a0_1, .bool a0_2, .int .i64 a0_3, .int .i64 a0_4, .int .i64 a0_5, .int .i64 a0_6, .slice A0_7 l0_7.length c0_7, .int .i64 a0_8, .int .i64 a0_9, .bool a0_10, .bool a0_11, .bool a0_12] 28 (0, 0)) (by (with_reducible repeat (first | refine blk_drewN ?_ _ | refine blk_drew ?_ | refine blk_alloc ?_ _)); exact BK197.out) hb); have n1_ := Aside0.mk (below_step (by repeat (first | (with_reducible first | exact HB.out | apply below_alloc | apply pw_below_drewN | apply below_drew1 | refine below_set ?_ GE197.out) | exact HB.out)) hb); clear BK197; clear HB; have BK197 := n0_; have HB := n1_; clear n0_ n1_; (try clear hb); (try clear hb2); (try clear hk); (try clear hi); have hcz27_0 : w26.cell? ⟨gb197, 0, none⟩ = some (.int .i64 a0_0) := (blk_cell BK197.out 0).trans rfl; have hcz27_1 : w26.cell? ⟨gb197, 1, none⟩ = some (.int .i64 a0_1) := (blk_cell BK197.out 1).trans rfl; have hcz27_2 : w26.cell? ⟨gb197, 2, none⟩ = some (.bool a0_2) := (blk_cell BK197.out 2).trans rfl; have hcz27_3 : w26.cell? ⟨gb197, 3, none⟩ = some (.int .i64 a0_3) := (blk_cell BK197.out 3).trans rfl; have hcz27_4 : w26.cell? ⟨gb197, 4, none⟩ = some (.int .i64 a0_4) := (blk_cell BK197.out 4).trans rfl; have hcz27_5 : w26.cell? ⟨gb197, 5, none⟩ = some (.int .i64 a0_5) := (blk_cell BK197.out 5).trans rfl; have hcz27_6 : w26.cell? ⟨gb197, 6, none⟩ = some (.int .i64 a0_6) := (blk_cell BK197.out 6).trans rfl; have hcz27_7 : w26.cell? ⟨gb197, 7, none⟩ = some (.slice A0_7 l0_7.length c0_7) := (blk_cell BK197.out 7).trans rfl; have hcz27_8 : w26.cell? ⟨gb197, 8, none⟩ = some (.int .i64 a0_8) := (blk_cell BK197.out 8).trans rfl; have hcz27_9 : w26.cell? ⟨gb197, 9, none⟩ = some (.int .i64 a0_9) := (blk_cell BK197.out 9).trans rfl; have hcz27_10 : w26.cell? ⟨gb197, 10, none⟩ = some (.bool a0_10) := (blk_cell BK197.out 10).trans rfl; have hcz27_11 : w26.cell? ⟨gb197, 11, none⟩ = some (.bool a0_11) := (blk_cell BK197.out 11).trans rfl; have hcz27_12 : w26.cell? ⟨gb197, 12, none⟩ = some (.bool a0_12) := (blk_cell BK197.out 12).trans rfl; have hfz27_0 := blk_frozen BK197.out 0; have hfz27_1 := blk_frozen BK197.out 1; have hfz27_2 := blk_frozen BK197.out 2; have hfz27_3 := blk_frozen BK197.out 3; have hfz27_4 := blk_frozen BK197.out 4; have hfz27_5 := blk_frozen BK197.out 5; have hfz27_6 := blk_frozen BK197.out 6; have hfz27_7 := blk_frozen BK197.out 7; have hfz27_8 := blk_frozen BK197.out 8; have hfz27_9 := blk_frozen BK197.out 9; have hfz27_10 := blk_frozen BK197.out 10; have hfz27_11 := blk_frozen BK197.out 11; have hfz27_12 := blk_frozen BK197.out 12) | ((with_reducible refine gate_callee (f := 8) rfl ?_); refine goesL_ (some 35) rfl rfl Tryz.func8 (by kernel_rfl) rfl #[.agg #[.int .i64 a0_0, .int .i64 a0_1, .bool a0_2, .int .i64 a0_3, .int .i64 a0_4, .int .i64 a0_5, .int .i64 a0_6], .slice A0_7 l0_7.length c0_7, .agg #[.int .i64 a0_8, .int .i64 a0_9, .bool a0_10, .bool a0_11, .bool a0_12]] rfl (by (try simp only [List.map_toArray, List.map_cons, List.map_nil]); first | done | rfl | (simp only [List.length_drop, List.length_take]; rfl)) ?_; (with_reducible refine (stream_Encode.calls kj1 a0_0 a0_1 a0_2 a0_3 a0_4 a0_5 a0_6 _ _ l0_7 a0_8 a0_9 a0_10 a0_11 a0_12 t202 t205 _ ?side1 ?side2 A18.out).mono ?_); (case side1 => repeat (first | exact (Kd.C_below HR0_7.out HB.out) | (with_reducible refine Kd.C_alloc ?_ _) | (with_reducible refine Kd.C_drewN ?_ _) | (with_reducible refine Kd.C_drew ?_))); (case side2 => exact HC0_7.out); rintro e w28 ⟨v203, rfl, ho0, hb⟩; refine ⟨_, rfl, ?_⟩; have n0_ := Aside0.mk (Kd.R_lower ho0 (below_size (by repeat (first | (with_reducible first | exact HB.out | apply below_alloc | apply pw_below_drewN | apply below_drew1 | refine below_set ?_ GE197.out) | exact HB.out)))); have n1_ := Aside0.mk (blk_below (g := gb197) (o := .cells #[.int .i64 a0_0, .int .i64 a0_1, .bool a0_2, .int .i64 a0_3, .int .i64 a0_4, .int .i64 a0_5, .int .i64 a0_6, .slice A0_7 l0_7.length c0_7, .int .i64 a0_8, .int .i64 a0_9, .bool a0_10, .bool a0_11, .bool a0_12] 28 (0, 0)) (by (with_reducible repeat (first | refine blk_drewN ?_ _ | refine blk_drew ?_ | refine blk_alloc ?_ _)); exact BK197.out) hb); have n2_ := Aside0.mk (below_step (by repeat (first | (with_reducible first | exact HB.out | apply below_alloc | apply pw_below_drewN | apply below_drew1 | refine below_set ?_ GE197.out) | exact HB.out)) hb); clear BK197; clear HB; have HO204 := n0_; have BK197 := n1_; have HB := n2_; clear n0_ n1_ n2_; (try clear hb); (try clear hb2); (try clear hk); (try clear hi); (try clear ho0)))
            go_ret
            exact ⟨by first | rfl | (simp [errW_none, errW_some] <;> rfl) | (simp [*, errW_none, errW_some] <;> rfl), by repeat (first | (with_reducible first | exact HB.out | apply below_alloc | apply pw_below_drewN | apply below_drew1 | refine below_set ?_ GE197.out) | exact HB.out)⟩

end Go.Proofs.YtkolmgkbdhbmhaaGreatDoor.HT2

namespace Go.Proofs.YtkolmgkbdhbmhaaGreatDoor.Pure
open Go Go.RowKit Go.Proofs.YtkolmgkbdhbmhaaGreatDoor.HT2 Go.Proofs.YtkolmgkbdhbmhaaGreatDoorW.PrintWords Go.Proofs.YtkolmgkbdhbmhaaGreatDoorW.PrintLast
/-- TopRefused: the law in numbers and lists alone. -/
def PureGTopRefused : Prop := ∀ (a0_0 : Int) (a0_1 : Int) (a0_2 : Bool) (a0_3 : Int) (a0_4 : Int) (a0_5 : Int) (a0_6 : Int) (l0_7 : List (List (Int))) (a0_8 : Int) (a0_9 : Int) (a0_10 : Bool) (a0_11 : Bool) (a0_12 : Bool), (Lit.int .i64 a0_0).wf = true → (Lit.int .i64 a0_1).wf = true → (Lit.int .i64 a0_3).wf = true → (Lit.int .i64 a0_4).wf = true → (Lit.int .i64 a0_5).wf = true → (Lit.int .i64 a0_6).wf = true → l0_7.length ≤ 9223372036854775807 → (∀ x ∈ l0_7, (∀ y ∈ x, (Lit.int .i64 y).wf = true)) → (Lit.int .i64 a0_8).wf = true → (Lit.int .i64 a0_9).wf = true → ∃ k, sackbuttop_TopRefused.f k a0_0 a0_1 a0_2 a0_3 a0_4 a0_5 a0_6 l0_7 a0_8 a0_9 a0_10 a0_11 a0_12 = some true
end Go.Proofs.YtkolmgkbdhbmhaaGreatDoor.Pure

namespace Go.Proofs.YtkolmgkbdhbmhaaGreatDoor.Pure
open Go Go.RowKit Go.Proofs.YtkolmgkbdhbmhaaGreatDoor.HT2 Go.Proofs.YtkolmgkbdhbmhaaGreatDoor.PackSpec Go.Proofs.YtkolmgkbdhbmhaaGreatDoor.PackDoc Go.Proofs.YtkolmgkbdhbmhaaGreatDoor.TopSpec Go.Proofs.YtkolmgkbdhbmhaaGreatDoorW.PrintWords Go.Proofs.YtkolmgkbdhbmhaaGreatDoorW.PrintLast
section
variable (a0 a1 : Int) (a2 : Bool) (a3 a4 a5 a6 : Int) (l : List (List Int)) (b0 b1 : Int) (b2 b3 b4 : Bool)
/-- Whether a world is soon told: an answer, and what it means for the rows. -/
theorem soon_loop (hl : l.length ≤ 9223372036854775807) : ∀ (d i : Nat), i + d = l.length → ∃ s : Bool, (∀ K, d < K → sackbutlaw18_Soon.l0 K l l (l.length : Int) (i : Int) a0 a1 a2 a3 a4 a5 a6 b0 b1 b2 b3 b4 = some s) ∧ (s = true → (∀ x ∈ l.drop i, x.length ≤ 300) ∧ l.length ≤ 4) := by
  intro d
  induction d with
  | zero =>
    intro i hi
    refine ⟨if (l.length : Int) ≤ 4 then (if b0 ≤ 4 then (if b2 = true then (if a4 ≤ 16 then ((l.length : Int) == 1) else false) else true) else false) else false, fun K hK => ?_, fun h => ?_⟩
    · obtain ⟨K, rfl⟩ : ∃ m, K = m + 1 := ⟨K - 1, by omega⟩
      simp only [sackbutlaw18_Soon.l0]
      rw [if_neg (by omega)]
      (repeat' split) <;> rfl
    · rw [List.drop_eq_nil_of_le (by omega)]
      refine ⟨fun x hx => absurd hx (by simp), ?_⟩
      by_cases h4 : (l.length : Int) ≤ 4
      · omega
      · rw [if_neg h4] at h; cases h
  | succ d ih =>
    intro i hi
    have hi' : i < l.length := by omega
    by_cases h3 : ((l[i].length : Nat) : Int) > 300
    · refine ⟨false, fun K hK => ?_, fun h => by cases h⟩
      obtain ⟨K, rfl⟩ : ∃ m, K = m + 1 := ⟨K - 1, by omega⟩
      simp only [sackbutlaw18_Soon.l0]
      rw [if_pos (by omega), if_pos (by omega), if_pos (by omega), rd1_nat l i hi', if_pos h3]
    · obtain ⟨s, h1, h2⟩ := ih (i + 1) (by omega)
      refine ⟨s, fun K hK => ?_, fun h => ?_⟩
      · obtain ⟨K, rfl⟩ : ∃ m, K = m + 1 := ⟨K - 1, by omega⟩
        simp only [sackbutlaw18_Soon.l0]
        rw [if_pos (by omega), if_pos (by omega), if_pos (by omega), rd1_nat l i hi', if_neg h3, wrap_id (by omega) (by omega)]
        have e := h1 K (by omega)
        rw [show ((i + 1 : Nat) : Int) = (i : Int) + 1 by omega] at e
        exact e
      · obtain ⟨q1, q2⟩ := h2 h
        refine ⟨fun x hx => ?_, q2⟩
        rw [List.drop_eq_getElem_cons hi', List.mem_cons] at hx
        rcases hx with rfl | hx
        · omega
        · exact q1 x hx
/-- What is wrong with a world whose configuration is good, and whose rows are as many as are told. -/
def codeR : Int := if codeC a1 l = 0 then (if choiceB b0 b1 = true then 0 else 1) else codeC a1 l
theorem range_code (c : Int) : (if c = 0 then (if b0 < 0 then some 1 else if b0 > 16 then some 1 else if b1 < 0 then some 1 else if b1 > 4 then some 1 else some 0) else some c : Option Int) = some (if c = 0 then (if choiceB b0 b1 = true then 0 else 1) else c) := by
  unfold choiceB
  by_cases hc : c = 0
  · rw [if_pos hc, if_pos hc]
    by_cases h1 : b0 < 0
    · simp [h1]
    · by_cases h2 : 16 < b0
      · simp [h1, h2]
      · by_cases h3 : b1 < 0
        · simp [h1, h2, h3]
        · by_cases h4 : 4 < b1
          · simp [h1, h2, h3, h4]
          · simp [h1, h2, h3, h4]
  · rw [if_neg hc, if_neg hc]
theorem doc_loop (hl : l.length ≤ 4) (hr : ∀ x ∈ l, x.length ≤ 300) : ∀ (d K i : Nat), i + d = l.length → d + 6001 ≤ K → sackbutref18_Check.l0 K l (l.length : Int) (i : Int) a0 a1 a2 a3 a4 a5 a6 b0 b1 b2 b3 b4 = some (if (l.drop i).any (notC a6) = true then 8 else codeR a1 l b0 b1) := by
  intro d
  induction d with
  | zero =>
    intro K i hi hK
    obtain ⟨K, rfl⟩ : ∃ m, K = m + 1 := ⟨K - 1, by omega⟩
    simp only [sackbutref18_Check.l0]
    rw [if_neg (by omega), List.drop_eq_nil_of_le (by omega)]
    unfold sackbutref18_form.f
    rw [Option.bind_some]
    simp only []
    rw [rk_check a1 a2 l (by omega) hr K (by omega), Option.bind_some, range_code]
    rfl
  | succ d ih =>
    intro K i hi hK
    obtain ⟨K, rfl⟩ : ∃ m, K = m + 1 := ⟨K - 1, by omega⟩
    have hi' : i < l.length := by omega
    simp only [sackbutref18_Check.l0]
    rw [if_pos (by omega), if_pos (by omega), if_pos (by omega), rd1_nat l i hi', List.drop_eq_getElem_cons hi', List.any_cons, wrap_id (by omega) (by omega)]
    have e := ih K (i + 1) (by omega) (by omega)
    rw [show ((i + 1 : Nat) : Int) = (i : Int) + 1 by omega] at e
    by_cases h : (l[i].length : Int) = a6
    · rw [if_pos h, e, show notC a6 l[i] = false from decide_eq_false (by simpa using h), Bool.false_or]
    · rw [if_neg h, show notC a6 l[i] = true from decide_eq_true h, Bool.true_or, if_pos rfl]
/-- What is wrong with a world. -/
def codeT : Int := if GoodC a0 a1 a3 a4 a5 a6 then (if (l.length : Int) = a0 then (if l.any (notC a6) = true then 8 else codeR a1 l b0 b1) else 8) else 7
theorem doc_check (hl : l.length ≤ 4) (hr : ∀ x ∈ l, x.length ≤ 300) (K : Nat) (hK : 7000 ≤ K) : sackbutref18_Check.f K a0 a1 a2 a3 a4 a5 a6 l b0 b1 b2 b3 b4 = some (codeT a0 a1 a3 a4 a5 a6 l b0 b1) := by
  unfold sackbutref18_Check.f codeT
  rw [ref_good, Option.bind_some]
  by_cases G : GoodC a0 a1 a3 a4 a5 a6
  · rw [decide_eq_true G, if_pos rfl, if_pos G]
    by_cases h : (l.length : Int) = a0
    · rw [if_pos h, if_pos h]
      have e := doc_loop a0 a1 a2 a3 a4 a5 a6 l b0 b1 b2 b3 b4 hl hr l.length K 0 (by omega) (by omega)
      rw [List.drop_zero] at e
      exact e
    · rw [if_neg h, if_neg h]
  · rw [decide_eq_false G, if_neg (by decide), if_neg G]
theorem str_check (hl : l.length ≤ 4) (hr : ∀ x ∈ l, x.length ≤ 300) (K : Nat) (hK : 7000 ≤ K) : stream_check.f K a0 a1 a2 a3 a4 a5 a6 l b0 b1 b2 b3 b4 = some (codeT a0 a1 a3 a4 a5 a6 l b0 b1) := by
  unfold stream_check.f codeT
  rw [head_good, Option.bind_some]
  by_cases G : GoodC a0 a1 a3 a4 a5 a6
  · rw [decide_eq_true G, if_pos rfl, if_pos G]
    by_cases h : (l.length : Int) = a0
    · rw [if_pos h, if_pos h]
      by_cases hn : l.any (notC a6) = true
      · rw [if_pos hn, if_pos hn]
      · rw [if_neg hn, if_neg hn, pk_check a1 a2 l (by omega) hr K (by omega), Option.bind_some]
        unfold codeR
        by_cases hc : codeC a1 l = 0
        · rw [if_pos hc, if_pos hc]; split <;> rfl
        · rw [if_neg hc, if_neg hc]
    · rw [if_neg h, if_neg h]
  · rw [decide_eq_false G, if_neg (by decide), if_neg G]
end
theorem TopRefused : PureGTopRefused := by
  intro a0 a1 a2 a3 a4 a5 a6 l b0 b1 b2 b3 b4 _ _ _ _ _ _ hl _ _ _
  obtain ⟨s, h1, h2⟩ := soon_loop a0 a1 a2 a3 a4 a5 a6 l b0 b1 b2 b3 b4 hl l.length 0 (by omega)
  refine ⟨l.length + 8000, ?_⟩
  unfold sackbuttop_TopRefused.f
  rw [show sackbuttop_awake.f = some true from rfl, Option.bind_some, if_pos rfl]
  unfold sackbutlaw18_Soon.f
  have e := h1 (l.length + 8000) (by omega)
  rw [show ((0 : Nat) : Int) = 0 from rfl] at e
  rw [e, Option.bind_some]
  cases s with
  | false =>
    show sackbuttop_TopRefused.j0 (l.length + 7999 + 1) _ _ _ _ _ _ _ _ _ _ _ _ _ _ = _
    simp only [sackbuttop_TopRefused.j0]
    rfl
  | true =>
    obtain ⟨q1, q2⟩ := h2 rfl
    rw [List.drop_zero] at q1
    show sackbuttop_TopRefused.j0 (l.length + 7999 + 1) _ _ _ _ _ _ _ _ _ _ _ _ _ _ = _
    simp only [sackbuttop_TopRefused.j0]
    rw [if_neg (by decide), doc_check a0 a1 a2 a3 a4 a5 a6 l b0 b1 b2 b3 b4 q2 q1 _ (by omega), Option.bind_some]
    by_cases h0 : codeT a0 a1 a3 a4 a5 a6 l b0 b1 = 0
    · rw [if_pos h0]
    · rw [if_neg h0]
      unfold stream_Encode.f
      rw [str_check a0 a1 a2 a3 a4 a5 a6 l b0 b1 b2 b3 b4 q2 q1 _ (by omega), Option.bind_some, if_neg h0, Option.bind_some, if_pos rfl]
      rfl
end Go.Proofs.YtkolmgkbdhbmhaaGreatDoor.Pure

