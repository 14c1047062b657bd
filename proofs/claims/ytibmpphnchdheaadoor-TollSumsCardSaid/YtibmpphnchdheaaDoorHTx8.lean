/- What the Go functions come to, as plain Lean functions, and that their calls do just that: written by this project's own program (hp.sh); conditions: those of each theorem. -/
import Derived.Test.YtibmpphnchdheaaDoorHTx0
import Derived.Test.YtibmpphnchdheaaDoorHTx2
import Derived.Test.YtibmpphnchdheaaDoorHTx3
import Derived.Test.YtibmpphnchdheaaDoorHTx4
import Derived.Test.YtibmpphnchdheaaDoorHTx6
import Derived.Test.YtibmpphnchdheaaDoorHTx7
import Derived.Test.YtibmpphnchdheaaDoorTollRef
namespace Go.Proofs.YtibmpphnchdheaaDoor.HT
open Go.RowKit Go.Proofs.YtibmpphnchdheaaDoorW.PrintWords Go.Proofs.YtibmpphnchdheaaDoorW.PrintLast Go.Proofs.YtibmpphnchdheaaDoorW.PrintMore
attribute [local go_sem] max2_int min2_int max_two min_two max_three min_three max_four min_four   -- for this text's walks alone
set_option linter.unusedVariables false
set_option linter.unusedSimpArgs false

/-! ### sackbutlaw04_TollSums: function 4, by hand -/
open Go.Proofs.YtibmpphnchdheaaDoor.TollMath Go.Proofs.YtibmpphnchdheaaDoor.TollSpec
structure AsideT (p : Prop) : Prop where mk :: (out : p)
def sackbutlaw04_TollSums.f (l0 : List Int) (a1 : Int) : Option Bool := if (∀ x ∈ l0, 0 ≤ x ∧ x < 256) ∧ 0 ≤ a1 ∧ a1 < 65536 then some true else none
theorem zeros_made (W : World) (m : Nat) (hm : m ≤ 9223372036854775807) : Kd.C (Kd.int .u8) (W.alloc (.cells (madeCells #[.int .u8 0] m) 5)) (some ⟨W.heap.size, 0, none⟩) m (List.replicate m 0) := by
  obtain ⟨A, c, e, hr⟩ := own_reads (own_made W 0 5 .u8 m (Nat.zero_le _) hm)
  injection e with e1 e2 e3
  subst e1
  exact Kd.C_of_reads (d := (0 : Int)) (h1 := fun _ => rfl) hr
theorem ref_zero (m : Nat) (hm : m < 2000) (B : Nat) (W : World) (h : Kd.C (Kd.int .u8) W (some ⟨B, 0, none⟩) m (List.replicate m 0)) :
    Calls Tryd.prog 8 #[.slice (some ⟨B, 0, none⟩) m m] W fun e w' => e = .returned (.int .u32 ((crc (List.replicate m 0) : Nat) : Int)) ∧ Drawn0 W w' := by
  have hl : (List.replicate m (0 : Int)).length = m := List.length_replicate
  have := sackbutref04_Sum.calls 2100 (some ⟨B, 0, none⟩) m (List.replicate m 0) _ W (by rw [hl]; exact h) (by rw [hl]; exact Nat.le_refl _) (ref_sum_spec _ (bytes_zeros m) (by rw [hl]; omega) 2100 (by rw [hl]; omega))
  rw [hl] at this
  exact this
theorem cv_string {W : World} {A : Option Addr} {n c : Nat} {l : List Int} (h : Kd.C (Kd.int .u8) W A n l) : Sem.run Tryd.prog (Go.convert 22 9 (.slice A n c)) W = .ok (.string (strOfNums l)) W :=
  Kd.C_string Tryd.underlying22 Tryd.underlying5 Tryd.underlying9 h
set_option maxRecDepth 100000 in
set_option maxHeartbeats 8000000 in
theorem sums_walk (A0 : Option Addr) (c0 : Nat) (l0 : List Int) (a1 : Int) (w : World) (hr0 : Kd.C (Kd.int .u8) w A0 l0.length l0) (hc0 : l0.length ≤ c0) (hG : GL w) (hb0 : Bytes l0) (hl : l0.length ≤ 1000) (ha : 0 ≤ a1 ∧ a1 < 65536) :
    Calls Tryd.prog 4 #[.slice A0 l0.length c0, .int .u16 a1] w fun e w' => e = .returned (.bool true) ∧ Below w.heap.size w w' := by
  have HR := AsideT.mk hr0
  have HC := AsideT.mk hc0
  have hb := AsideT.mk hb0
  have HG := AsideT.mk hG
  clear hr0 hc0 hb0 hG
  obtain ⟨m, hm⟩ := Int.eq_ofNat_of_zero_le (show 0 ≤ a1 % 2000 by omega)
  have hm2 : m < 2000 := by omega
  have HM := AsideT.mk hm
  clear hm
  obtain ⟨ha0, ha1⟩ := ha
  have c1b : decide (1000 < (l0.length : Int)) = false := decide_eq_false (by omega)
  have c1c : decide (1000 < l0.length) = false := decide_eq_false (by omega)
  have tq := Tryd.underlying22
  have hmk := print_make (P := Tryd.prog) 22 5 .u8 1 Tryd.underlying22 (by kernel_rfl) (by decide) m (by omega)
  have HMK := AsideT.mk hmk
  clear hmk
  go_enter Tryd.func4, Tryd.ntmps4
  go_upto_region 5 with (first | ((with_reducible refine gate_callee (f := 6) rfl ?_); refine goesL_ (some 7) rfl rfl Tryd.func6 (by kernel_rfl) rfl #[] rfl (by (try simp only [List.map_toArray, List.map_cons, List.map_nil]); first | done | rfl) ?_; refine (sackbutlaw04_awake.calls true _ HG.out rfl).mono ?_; rintro e w8 ⟨rfl, hb1⟩; refine ⟨_, rfl, ?_⟩; have HB1 := AsideT.mk hb1; clear hb1) | ((with_reducible refine gate_dst (N := 15) rfl ?_); refine Kd.R_lit (Kd.int .u8) _ 5 ?hg (N := 15) ?hd (xs := ([] : List Int)) (inner := []) (ok := fun _ => True) (okp := fun _ => True) ?hr ?hp (fun _ hk => hk) trivial (Below.refl _ _) (Nat.le_refl _) (by simp) ?_; (case hd => rfl); (case hg => rfl); (case hr => first | (go_simp; done) | (go_simp; rfl)); (case hp => exact (Reps.none _ _)); intro v113 w18 ho19 hb2 hg_ hnew_; clear hg_ hnew_; have HO := AsideT.mk (Kd.R_lower ho19 (below_size HB1.out)); have HB2 := AsideT.mk (below_step HB1.out hb2); clear hb2 ho19) | ((with_reducible refine gate_builtin (b := .append) (xs := #[.tmp 15, .tmp 16]) rfl ?_); at_builtin; refine Kd.R_append_rows (Kd.int .u8) (w0 := w) w.heap.size rfl (.tmp 15) (.tmp 16) 22 5 (.int .u8 0) 1 rfl tq (by kernel_rfl) rfl (by decide) (by omega) v113 ([] : List Int) l0 _ _ _ (fun _ => True) (fun _ => False) rfl rfl ?aO ?aR (fun _ _ h => h) (fun _ h => h.elim) ?aF ?aB ?aS ?aL ?_; (case aR => exact Kd.C_below HR.out HB2.out); (case aB => exact HB2.out); (case aF => exact (fun _ _ => trivial)); (case aO => exact HO.out); (case aS => exact below_size HB2.out); (case aL => simp; omega); intro v116 w20 ho2 hb3 hg2 hat2; have HO2 := AsideT.mk ho2; have HB := AsideT.mk hb3; clear ho2 hb3 hg2 hat2))
  have hoR : Kd.R (Kd.int .u8) 5 w20 w.heap.size (fun _ => True) v116 l0 := by simpa using HO2.out
  obtain ⟨Ao, co, rfl, hoc, hO⟩ := Kd.R_reads hoR
  have ho := AsideT.mk (Kd.C_drew hO)
  have HOC := AsideT.mk hoc
  clear hoR hO HO HO2 HB1 HB2 hoc
  have HBD := AsideT.mk (below_drew1 HB.out)
  clear HB
  have HB := HBD
  clear HBD
  rw [HM.out]
  clear HM
  have hmk := HMK.out
  refine start_ (n := 21) (S := fun w' => Sem.run Tryd.prog (Go.convert 22 9 (.slice Ao l0.length co)) w' = .ok (.string (strOfNums l0)) w' ∧ Sem.run Tryd.prog (Go.convert 22 9 (.slice A0 l0.length c0)) w' = .ok (.string (strOfNums l0)) w') (ds := []) #[false, false, false, false, false, false, false, false, false, false, false, false, false, false, false, false, false, false, false, false, false] (by kernel_rfl) rfl rfl ⟨(cv_string ho.out), (cv_string (Kd.C_below HR.out HB.out))⟩ (fun hHeld => ?_)
  refine pure_ (i := 0) (N := some 21) (v := ?_) (a' := ?_) #[true, false, false, false, false, false, false, false, false, false, false, false, false, false, false, false, false, false, false, false, false] rfl rfl (by kernel_rfl) (fun _ _ _ h => h) (Or.inl ⟨by rfl, ?_⟩) ?_ ?_
  rotate_left
  · intro w'
    go_simp
    with_reducible rfl
  rotate_left
  · simp only [Act.put, List.setIfInBounds_toArray, List.set_cons_zero, List.set_cons_succ, i64_w, i32_w]
    rfl
  refine pure_ (i := 2) (N := some 23) (v := ?_) (a' := ?_) #[true, false, true, false, false, false, false, false, false, false, false, false, false, false, false, false, false, false, false, false, false] rfl rfl (by kernel_rfl) (fun _ _ _ h => h) (Or.inl ⟨by rfl, ?_⟩) ?_ ?_
  rotate_left
  · intro w'
    go_simp
    with_reducible rfl
  rotate_left
  · simp only [Act.put, List.setIfInBounds_toArray, List.set_cons_zero, List.set_cons_succ, i64_w, i32_w]
    rfl
  refine one_ (i := 1) (N := some 22) #[true, true, true, false, false, false, false, false, false, false, false, false, false, false, false, false, false, false, false, false, false] rfl rfl (by kernel_rfl) (by decide) (fun K hK => ?_)
  refine goes_ Tryd.func7 (by kernel_rfl) rfl #[.slice Ao l0.length co] (by rfl) rfl rfl (by simp only [List.map_toArray, List.map_cons, List.map_nil]; rfl) ?_
  with_reducible refine (toll_Sum.calls 1100 Ao co l0 _ _ ho.out HOC.out (HG.out.of_below HB.out) (sum_spec l0 hb.out (by omega) 1100 (by omega))).mono ?_
  rintro e w3 ⟨rfl, hb3⟩
  refine ⟨_, rfl, ?_⟩
  have ho3 := AsideT.mk (Kd.C_below ho.out hb3)
  have HB3 := AsideT.mk (below_step HB.out hb3)
  clear hb3
  refine hK.out _ _ ⟨(cv_string ho3.out), (cv_string (Kd.C_below HR.out HB3.out))⟩ (fun hHeld => ?_)
  clear hK K
  refine norm_ (a' := ?_) ?_ ?_
  rotate_left
  · show Act.put _ (some 22) _ = _
    simp only [Act.put, List.setIfInBounds_toArray, List.set_cons_zero, List.set_cons_succ, i64_w, i32_w]
    rfl
  refine one_ (i := 3) (N := some 24) #[true, true, true, true, false, false, false, false, false, false, false, false, false, false, false, false, false, false, false, false, false] rfl rfl (by kernel_rfl) (by decide) (fun K hK => ?_)
  refine goes_ Tryd.func8 (by kernel_rfl) rfl #[.slice A0 l0.length c0] (by rfl) rfl rfl (by simp only [List.map_toArray, List.map_cons, List.map_nil]; rfl) ?_
  with_reducible refine (sackbutref04_Sum.calls 1100 A0 c0 l0 _ _ (Kd.C_below HR.out HB3.out) HC.out (ref_sum_spec l0 hb.out (by omega) 1100 (by omega))).mono ?_
  rintro e w4 ⟨rfl, hd4⟩
  refine ⟨_, rfl, ?_⟩
  have ho4 := AsideT.mk (Kd.C_below ho3.out hd4.below)
  have HB4 := AsideT.mk (below_step HB3.out hd4.below)
  clear hd4
  refine hK.out _ _ ⟨(cv_string ho4.out), (cv_string (Kd.C_below HR.out HB4.out))⟩ (fun hHeld => ?_)
  clear hK K
  refine norm_ (a' := ?_) ?_ ?_
  rotate_left
  · show Act.put _ (some 24) _ = _
    simp only [Act.put, List.setIfInBounds_toArray, List.set_cons_zero, List.set_cons_succ, i64_w, i32_w]
    rfl
  refine pure_ (i := 4) (N := some 25) (v := ?_) (a' := ?_) #[true, true, true, true, true, false, false, false, false, false, false, false, false, false, false, false, false, false, false, false, false] rfl rfl (by kernel_rfl) (fun _ _ _ h => h) (Or.inl ⟨by rfl, ?_⟩) ?_ ?_
  rotate_left
  · intro w'
    go_simp
    with_reducible rfl
  rotate_left
  · simp only [Act.put, List.setIfInBounds_toArray, List.set_cons_zero, List.set_cons_succ, i64_w, i32_w]
    rfl
  refine pure_ (i := 5) (N := some 26) (v := ?_) (a' := ?_) #[true, true, true, true, true, true, false, false, false, false, false, false, false, false, false, false, false, false, false, false, false] rfl rfl (by kernel_rfl) (fun _ _ _ h => h) (Or.inl ⟨by rfl, ?_⟩) ?_ ?_
  rotate_left
  · intro w'
    go_simp
    with_reducible rfl
  rotate_left
  · simp only [Act.put, List.setIfInBounds_toArray, List.set_cons_zero, List.set_cons_succ, i64_w, i32_w]
    rfl
  refine pure_ (i := 6) (N := some 27) (v := ?_) (a' := ?_) #[true, true, true, true, true, true, true, false, false, false, false, false, false, false, false, false, false, false, false, false, false] rfl rfl (by kernel_rfl) (fun _ _ _ h => h) (Or.inl ⟨by rfl, ?_⟩) ?_ ?_
  rotate_left
  · intro w'
    go_simp
    with_reducible rfl
  rotate_left
  · simp only [Act.put, List.setIfInBounds_toArray, List.set_cons_zero, List.set_cons_succ, i64_w, i32_w]
    rfl
  refine pure_ (i := 8) (N := some 29) (v := ?_) (a' := ?_) #[true, true, true, true, true, true, true, false, true, false, false, false, false, false, false, false, false, false, false, false, false] rfl rfl (by kernel_rfl) (fun _ _ _ h => h) (Or.inl ⟨by rfl, ?_⟩) ?_ ?_
  rotate_left
  · intro w'
    go_simp
    with_reducible rfl
  rotate_left
  · simp only [Act.put, List.setIfInBounds_toArray, List.set_cons_zero, List.set_cons_succ, i64_w, i32_w]
    rfl
  refine take_ (i := 7) (N := some 28) (v := ?_) (a' := ?_) #[true, true, true, true, true, true, true, true, true, false, false, false, false, false, false, false, false, false, false, false, false] rfl rfl (by kernel_rfl) (fun _ _ _ h => h) (Or.inl ⟨by rfl, ?_⟩) hHeld ?_ ?_
  rotate_left
  · rintro w' ⟨s0, s1⟩
    go_simp
    with_reducible rfl
  rotate_left
  · simp only [Act.put, List.setIfInBounds_toArray, List.set_cons_zero, List.set_cons_succ, i64_w, i32_w]
    rfl
  refine take_ (i := 9) (N := some 30) (v := ?_) (a' := ?_) #[true, true, true, true, true, true, true, true, true, true, false, false, false, false, false, false, false, false, false, false, false] rfl rfl (by kernel_rfl) (fun _ _ _ h => h) (Or.inl ⟨by rfl, ?_⟩) hHeld ?_ ?_
  rotate_left
  · rintro w' ⟨s0, s1⟩
    go_simp
    with_reducible rfl
  rotate_left
  · simp only [Act.put, List.setIfInBounds_toArray, List.set_cons_zero, List.set_cons_succ, i64_w, i32_w]
    rfl
  refine pure_ (i := 10) (N := some 31) (v := ?_) (a' := ?_) #[true, true, true, true, true, true, true, true, true, true, true, false, false, false, false, false, false, false, false, false, false] rfl rfl (by kernel_rfl) (fun _ _ _ h => h) (Or.inl ⟨by rfl, ?_⟩) ?_ ?_
  rotate_left
  · intro w'
    go_simp
    with_reducible rfl
  rotate_left
  · simp only [Act.put, List.setIfInBounds_toArray, List.set_cons_zero, List.set_cons_succ, i64_w, i32_w]
    rfl
  refine pure_ (i := 11) (N := some 32) (v := ?_) (a' := ?_) #[true, true, true, true, true, true, true, true, true, true, true, true, false, false, false, false, false, false, false, false, false] rfl rfl (by kernel_rfl) (fun _ _ _ h => h) (Or.inl ⟨by rfl, ?_⟩) ?_ ?_
  rotate_left
  · intro w'
    go_simp
    with_reducible rfl
  rotate_left
  · simp only [Act.put, List.setIfInBounds_toArray, List.set_cons_zero, List.set_cons_succ, i64_w, i32_w]
    rfl
  refine pure_ (i := 12) (N := some 33) (v := ?_) (a' := ?_) #[true, true, true, true, true, true, true, true, true, true, true, true, true, false, false, false, false, false, false, false, false] rfl rfl (by kernel_rfl) (fun _ _ _ h => h) (Or.inl ⟨by rfl, ?_⟩) ?_ ?_
  rotate_left
  · intro w'
    go_simp
    with_reducible rfl
  rotate_left
  · simp only [Act.put, List.setIfInBounds_toArray, List.set_cons_zero, List.set_cons_succ, i64_w, i32_w]
    rfl
  refine pure_ (i := 13) (N := some 34) (v := ?_) (a' := ?_) #[true, true, true, true, true, true, true, true, true, true, true, true, true, true, false, false, false, false, false, false, false] rfl rfl (by kernel_rfl) (fun _ _ _ h => h) (Or.inl ⟨by rfl, ?_⟩) ?_ ?_
  rotate_left
  · intro w'
    go_simp
    with_reducible rfl
  rotate_left
  · simp only [Act.put, List.setIfInBounds_toArray, List.set_cons_zero, List.set_cons_succ, i64_w, i32_w]
    rfl
  refine pure_ (i := 15) (N := some 36) (v := ?_) (a' := ?_) #[true, true, true, true, true, true, true, true, true, true, true, true, true, true, false, true, false, false, false, false, false] rfl rfl (by kernel_rfl) (fun _ _ _ h => h) (Or.inl ⟨by rfl, ?_⟩) ?_ ?_
  rotate_left
  · intro w'
    go_simp
    with_reducible rfl
  rotate_left
  · simp only [Act.put, List.setIfInBounds_toArray, List.set_cons_zero, List.set_cons_succ, i64_w, i32_w]
    rfl
  refine join_ (σ := Unit) 4 #[true, true, true, true, true, true, true, true, true, true, true, true, true, true, true, true, true, false, false, false, false] (fun _ => [(35, .int .u32 ((crc (List.replicate m 0) : Nat) : Int)), (37, .slice (some ⟨w4.heap.size, 0, none⟩) m m)]) (fun _ w' => (Kd.C (Kd.int .u8) w' Ao l0.length l0 ∧ Below w.heap.size w w') ∧ Kd.C (Kd.int .u8) w' (some ⟨w4.heap.size, 0, none⟩) m (List.replicate m 0)) ?_ ?_
  rotate_left
  · intro hCont
    refine two_ (i := 14) (j := 16) (Ni := some 35) (Nj := some 37) #[true, true, true, true, true, true, true, true, true, true, true, true, true, true, true, true, false, false, false, false, false] #[true, true, true, true, true, true, true, true, true, true, true, true, true, true, false, true, true, false, false, false, false] rfl rfl rfl rfl (by kernel_rfl) (by decide) (by decide) (fun K hK => ?_) (fun K hK => ?_)
    · skip
      refine goes_ Tryd.func9 (by kernel_rfl) rfl #[.int .i64 (m : Int)] (by rfl) rfl rfl (by simp only [List.map_toArray, List.map_cons, List.map_nil]; rfl) ?_
      with_reducible refine (toll_Zeros.calls 300 (m : Int) _ _ (zeros_spec m 300 (by omega) (by omega))).mono ?_
      rintro e w5 ⟨rfl, hd5⟩
      refine ⟨_, rfl, ?_⟩
      have ho5 := AsideT.mk (Kd.C_below ho4.out hd5.below)
      have HB5 := AsideT.mk (below_step HB4.out hd5.below)
      have HS5 := AsideT.mk (show w5.heap.size = w4.heap.size by obtain ⟨⟨q, rfl⟩⟩ := hd5; rfl)
      clear hd5
      refine hK.out _ _ ⟨(cv_string ho5.out), (cv_string (Kd.C_below HR.out HB5.out))⟩ (fun hHeld => ?_)
      clear hK K
      refine norm_ (a' := ?_) ?_ ?_
      rotate_left
      · show Act.put _ (some 35) _ = _
        simp only [Act.put, List.setIfInBounds_toArray, List.set_cons_zero, List.set_cons_succ, i64_w, i32_w]
        rfl
      refine one_ (i := 16) (N := some 37) #[true, true, true, true, true, true, true, true, true, true, true, true, true, true, true, true, true, false, false, false, false] rfl rfl (by kernel_rfl) (by decide) (fun K hK => ?_)
      refine value_ (w1 := ?_) (v := ?_) (by rfl) rfl ?_ ?_
      rotate_left 2
      · go_simp
        constructor
        · rfl
        · rfl
      obtain ⟨w8, hw8⟩ : ∃ w8, w5.alloc (.cells (madeCells #[.int .u8 0] m) 5) = w8 := ⟨_, rfl⟩
      have bel : Below w5.heap.size w5 w8 := by rw [← hw8]; exact below_alloc (Below.refl _ _) _
      have ho8 := AsideT.mk (Kd.C_below ho5.out bel)
      have HB8 := AsideT.mk (below_step HB5.out bel)
      have hz8 := AsideT.mk (show Kd.C (Kd.int .u8) w8 (some ⟨w4.heap.size, 0, none⟩) m (List.replicate m 0) from by rw [← hw8, ← HS5.out]; exact zeros_made w5 m (by omega))
      clear bel
      rw [hw8, HS5.out]
      clear hw8
      refine hK.out _ _ ⟨(cv_string ho8.out), (cv_string (Kd.C_below HR.out HB8.out))⟩ (fun hHeld => ?_)
      clear hK K
      refine norm_ (a' := ?_) ?_ ?_
      rotate_left
      · show Act.put _ (some 37) _ = _
        simp only [Act.put, List.setIfInBounds_toArray, List.set_cons_zero, List.set_cons_succ, i64_w, i32_w]
        rfl
      exact norm_ (by simp only [putAll, Act.put, List.setIfInBounds_toArray, List.set_cons_zero, List.set_cons_succ]) (hCont () _ ⟨⟨ho8.out, HB8.out⟩, hz8.out⟩)
    · skip
      refine value_ (w1 := ?_) (v := ?_) (by rfl) rfl ?_ ?_
      rotate_left 2
      · go_simp
        constructor
        · rfl
        · rfl
      obtain ⟨w6, hw6⟩ : ∃ w6, w4.alloc (.cells (madeCells #[.int .u8 0] m) 5) = w6 := ⟨_, rfl⟩
      have bel : Below w4.heap.size w4 w6 := by rw [← hw6]; exact below_alloc (Below.refl _ _) _
      have ho6 := AsideT.mk (Kd.C_below ho4.out bel)
      have HB6 := AsideT.mk (below_step HB4.out bel)
      have hz6 := AsideT.mk (show Kd.C (Kd.int .u8) w6 (some ⟨w4.heap.size, 0, none⟩) m (List.replicate m 0) from by rw [← hw6]; exact zeros_made w4 m (by omega))
      clear bel
      rw [hw6]
      clear hw6
      refine hK.out _ _ ⟨(cv_string ho6.out), (cv_string (Kd.C_below HR.out HB6.out))⟩ (fun hHeld => ?_)
      clear hK K
      refine norm_ (a' := ?_) ?_ ?_
      rotate_left
      · show Act.put _ (some 37) _ = _
        simp only [Act.put, List.setIfInBounds_toArray, List.set_cons_zero, List.set_cons_succ, i64_w, i32_w]
        rfl
      refine one_ (i := 14) (N := some 35) #[true, true, true, true, true, true, true, true, true, true, true, true, true, true, true, true, true, false, false, false, false] rfl rfl (by kernel_rfl) (by decide) (fun K hK => ?_)
      refine goes_ Tryd.func9 (by kernel_rfl) rfl #[.int .i64 (m : Int)] (by rfl) rfl rfl (by simp only [List.map_toArray, List.map_cons, List.map_nil]; rfl) ?_
      with_reducible refine (toll_Zeros.calls 300 (m : Int) _ _ (zeros_spec m 300 (by omega) (by omega))).mono ?_
      rintro e w7 ⟨rfl, hd7⟩
      refine ⟨_, rfl, ?_⟩
      have ho7 := AsideT.mk (Kd.C_below ho6.out hd7.below)
      have HB7 := AsideT.mk (below_step HB6.out hd7.below)
      have hz7 := AsideT.mk (Kd.C_below hz6.out hd7.below)
      clear hd7
      refine hK.out _ _ ⟨(cv_string ho7.out), (cv_string (Kd.C_below HR.out HB7.out))⟩ (fun hHeld => ?_)
      clear hK K
      refine norm_ (a' := ?_) ?_ ?_
      rotate_left
      · show Act.put _ (some 35) _ = _
        simp only [Act.put, List.setIfInBounds_toArray, List.set_cons_zero, List.set_cons_succ, i64_w, i32_w]
        rfl
      exact norm_ (by simp only [putAll, Act.put, List.setIfInBounds_toArray, List.set_cons_zero, List.set_cons_succ]) (hCont () _ ⟨⟨ho7.out, HB7.out⟩, hz7.out⟩)
  rintro _ w9 ⟨⟨ho9', HB9'⟩, hz9'⟩
  have ho9 := AsideT.mk ho9'
  have HB9 := AsideT.mk HB9'
  have hz9 := AsideT.mk hz9'
  have hHeld := And.intro (cv_string (c := co) ho9') (cv_string (c := c0) (Kd.C_below HR.out HB9'))
  clear ho9' HB9' hz9'
  refine norm_ (a' := ?_) ?_ ?_
  rotate_left
  · simp only [putAll, Act.put, List.setIfInBounds_toArray, List.set_cons_zero, List.set_cons_succ]
    rfl
  refine one_ (i := 17) (N := some 38) #[true, true, true, true, true, true, true, true, true, true, true, true, true, true, true, true, true, true, false, false, false] rfl rfl (by kernel_rfl) (by decide) (fun K hK => ?_)
  refine goes_ Tryd.func8 (by kernel_rfl) rfl #[.slice (some ⟨w4.heap.size, 0, none⟩) m m] (by rfl) rfl rfl (by simp only [List.map_toArray, List.map_cons, List.map_nil]; rfl) ?_
  with_reducible refine (ref_zero m hm2 _ _ hz9.out).mono ?_
  rintro e w10 ⟨rfl, hd10⟩
  refine ⟨_, rfl, ?_⟩
  have ho10 := AsideT.mk (Kd.C_below ho9.out hd10.below)
  have HB10 := AsideT.mk (below_step HB9.out hd10.below)
  clear hd10
  refine hK.out _ _ ⟨(cv_string ho10.out), (cv_string (Kd.C_below HR.out HB10.out))⟩ (fun hHeld => ?_)
  clear hK K
  refine norm_ (a' := ?_) ?_ ?_
  rotate_left
  · show Act.put _ (some 38) _ = _
    simp only [Act.put, List.setIfInBounds_toArray, List.set_cons_zero, List.set_cons_succ, i64_w, i32_w]
    rfl
  refine pure_ (i := 18) (N := some 39) (v := ?_) (a' := ?_) #[true, true, true, true, true, true, true, true, true, true, true, true, true, true, true, true, true, true, true, false, false] rfl rfl (by kernel_rfl) (fun _ _ _ h => h) (Or.inl ⟨by rfl, ?_⟩) ?_ ?_
  rotate_left
  · intro w'
    go_simp
    with_reducible rfl
  rotate_left
  · simp only [Act.put, List.setIfInBounds_toArray, List.set_cons_zero, List.set_cons_succ, i64_w, i32_w]
    rfl
  refine pure_ (i := 19) (N := some 40) (v := ?_) (a' := ?_) #[true, true, true, true, true, true, true, true, true, true, true, true, true, true, true, true, true, true, true, true, false] rfl rfl (by kernel_rfl) (fun _ _ _ h => h) (Or.inl ⟨by rfl, ?_⟩) ?_ ?_
  rotate_left
  · intro w'
    go_simp
    with_reducible rfl
  rotate_left
  · simp only [Act.put, List.setIfInBounds_toArray, List.set_cons_zero, List.set_cons_succ, i64_w, i32_w]
    rfl
  refine pure_ (i := 20) (N := some 4) (v := ?_) (a' := ?_) #[true, true, true, true, true, true, true, true, true, true, true, true, true, true, true, true, true, true, true, true, true] rfl rfl (by kernel_rfl) (fun _ _ _ h => h) (Or.inl ⟨by rfl, ?_⟩) ?_ ?_
  rotate_left
  · intro w'
    go_simp
    with_reducible rfl
  rotate_left
  · simp only [Act.put, List.setIfInBounds_toArray, List.set_cons_zero, List.set_cons_succ, i64_w, i32_w]
    rfl
  refine done_ (by kernel_rfl) ?_
  go_wp2
  go_ret
  exact ⟨rfl, HB10.out⟩
set_option maxRecDepth 100000 in
set_option maxHeartbeats 8000000 in
theorem sums_walk_off (A0 : Option Addr) (c0 : Nat) (l0 : List Int) (a1 : Int) (w : World) (hG : GL w) (hbig : l0.length ≤ 9223372036854775807) (hl : ¬ l0.length ≤ 1000) :
    Calls Tryd.prog 4 #[.slice A0 l0.length c0, .int .u16 a1] w fun e w' => e = .returned (.bool true) ∧ Below w.heap.size w w' := by
  have HG := AsideT.mk hG
  clear hG
  generalize l0.length = len at *
  have h1 : (len : Int) > 1000 := by omega
  go_enter Tryd.func4, Tryd.ntmps4
  go_wp2_with fail
  refine (sackbutlaw04_awake.calls true _ HG.out rfl).mono ?_
  rintro e w1 ⟨rfl, hb1⟩
  have HB1 := AsideT.mk hb1
  clear hb1
  go_wp2_with fail
  refine (sackbutlaw04_awake.calls true _ (HG.out.of_below HB1.out) rfl).mono ?_
  rintro e w2 ⟨rfl, hb2⟩
  have HB2 := AsideT.mk (below_step HB1.out hb2)
  clear hb2
  go_wp2
  go_ret
  exact ⟨rfl, HB2.out⟩
theorem sackbutlaw04_TollSums.calls (A0 : Option Addr) (c0 : Nat) (l0 : List Int) (a1 : Int) (r : Bool) (w : World) (hr0 : Kd.C (Kd.int .u8) w A0 l0.length l0) (hc0 : l0.length ≤ c0) (hG : GL w) (h : sackbutlaw04_TollSums.f l0 a1 = some r) :
    Calls Tryd.prog 4 #[.slice A0 l0.length c0, .int .u16 a1] w fun e w' => e = .returned (.bool r) ∧ Below w.heap.size w w' := by
  unfold sackbutlaw04_TollSums.f at h
  split at h
  · rename_i hb
    obtain rfl := Option.some.inj h
    by_cases hl : l0.length ≤ 1000
    · exact sums_walk A0 c0 l0 a1 w hr0 hc0 hG hb.1 hl hb.2
    · exact sums_walk_off A0 c0 l0 a1 w hG (Kd.reads_of_C (d := (0 : Int)) (enc := Value.int .u8) (h1 := fun _ => rfl) hr0).2.1 hl
  · cases h

end Go.Proofs.YtibmpphnchdheaaDoor.HT
