/- What the Go functions come to, as plain Lean functions, and that their calls do just that: written by this project's own program (hp.sh); conditions: those of each theorem. -/
import Derived.Test.YtlbhcbfdiojbhaaHLx0
import Derived.Test.YtlbhcbfdiojbhaaHLx1
import Derived.Test.YtlbhcbfdiojbhaaHLx8
import Derived.RangeFuncNested
import Derived.RangeFuncBox
import Derived.Test.YtlbhcbfdiojbhaaLadderSpec
namespace Go.Proofs.Ytlbhcbfdiojbhaa.HL
open Go.RowKit Go.Proofs.YtlbhcbfdiojbhaaW.PrintWords Go.Proofs.YtlbhcbfdiojbhaaW.PrintLast Go.Proofs.YtlbhcbfdiojbhaaW.PrintMore
attribute [local go_sem] max2_int min2_int max_two min_two max_three min_three max_four min_four   -- for this text's walks alone
set_option linter.unusedVariables false
set_option linter.unusedSimpArgs false

/-! ### sackbutlaw17_LadderSpans: function 3, by hand -/
theorem spans_fn (g : Nat) (lb : Array Value) (eg : ∀ args w, (callFunc g args).run Try.prog w = .ok (.enter g args) w) (Bs cap : Nat) (A : Option Addr) (zs : List Int) (w0 : World) (hR : ReadsInt w0 .i64 A zs.length zs) (J Jx : Nat → World → Prop)
    (hJ : ∀ k W, J k W → Below w0.heap.size w0 W ∧ W.cell? ⟨Bs, 0, none⟩ = some (.slice A zs.length cap))
    (hg : ∀ k W, J k W → k < zs.length → Calls Try.prog g (#[.int .i64 (spanAt zs k), .int .i64 (wrap64 (spanAt zs k + zs[k]?.getD 0))] ++ lb) W fun e W' =>
      (e = .returned (.bool true) ∧ J (k + 1) W') ∨ (e = .returned (.bool false) ∧ Jx (k + 1) W'))
    (W : World) (h0 : J 0 W) :
    Calls Try.prog 22 #[.func (.func g) #[] lb, .pointer (some ⟨Bs, 0, none⟩)] W fun e W' => (∃ v, e = .returned v) ∧ (J zs.length W' ∨ ∃ k, k < zs.length ∧ Jx (k + 1) W') := by
  have HR := AsideL.mk hR
  have hBs := (hJ 0 W h0).2
  have HJ := AsideL.mk hJ
  have HG := AsideL.mk hg
  have H0 := AsideL.mk h0
  have hbig : zs.length ≤ 9223372036854775807 := hR.2.1
  clear hR hJ hg h0
  obtain ⟨len, hlen⟩ : ∃ len, zs.length = len := ⟨_, rfl⟩
  have HL := AsideL.mk hlen
  rw [hlen] at hBs hbig
  rw [hlen]
  clear hlen
  go_enter Try.func22, Try.ntmps22
  go_wp2
  go_loopw [3, 8] (fun f i wr => ∃ k : Nat, k ≤ len ∧ f = .int .i64 (spanAt zs k) ∧ i = .int .i64 k ∧ AsideL (J k wr))
    (fun _ i _ => len - (intOf i).toNat)
  case atStart => exact ⟨0, Nat.zero_le _, rfl, rfl, H0⟩
  case round =>
    obtain ⟨k, hk, rfl, rfl, hJs⟩ := hrel
    by_cases hlt : k < len
    · have hkl := AsideL.mk (show k < zs.length by rw [HL.out]; exact hlt)
      obtain ⟨ad, rfl, hcell⟩ := ReadsInt.at_ HR.out (k : Int) (by omega) (by rw [HL.out]; omega)
      have hb0 := World.block_lt_of_cell? w0 _ hcell
      have hcx : wr.cell? (ad.add k) = some (.int .i64 (zs[k]?.getD 0)) := by
        have e := ((HJ.out _ _ hJs.out).1.cell hb0).trans hcell
        rw [Int.toNat_natCast] at e
        rw [e]; unfold rd; rw [Int.toNat_natCast, List.getD_eq_getElem?_getD]
      have hc := HG.out k wr hJs.out hkl.out
      clear hcell hb0
      obtain ⟨y, hyy⟩ : ∃ y, zs[k]?.getD 0 = y := ⟨_, rfl⟩
      have hsucc := AsideL.mk ((spanAt_succ zs k hkl.out).trans (by rw [hyy]))
      rw [hyy] at hcx hc
      have HC := AsideL.mk hc
      clear hyy hc
      have HSU := hsucc
      clear hsucc
      go_wp2_with fail
      refine HC.out.mono ?_
      rintro e W3 (⟨rfl, hJ3⟩ | ⟨rfl, hJx3⟩)
      · have HJ3 := AsideL.mk hJ3
        clear hJ3
        go_wp2
        go_roundw
        case rel => exact ⟨k + 1, by omega, by rw [HSU.out], by go_num, HJ3⟩
        case measure => simp [intOf]; omega
      · have HJX := AsideL.mk hJx3
        clear hJx3
        go_wp2
        refine bodyPost_ret (results_none rfl _ _ _) rfl ?_
        exact ⟨⟨_, rfl⟩, .inr ⟨k, hlt, HJX.out⟩⟩
    · obtain rfl : k = len := by omega
      go_wp2
      go_end0
      exact ⟨⟨_, rfl⟩, .inl hJs.out⟩
set_option maxRecDepth 100000 in
set_option maxHeartbeats 8000000 in
theorem spans_yield (bo bn bl ba bm : Nat) (ad : Addr) (len cap k : Nat) (x y : Int) (M : Int) (W : World) (hlen : len ≤ 100) (hk : k < len)
    (B1 : Boxed W bo 4 (.bool true)) (B2 : Boxed W bn 3 (.int .i64 (k : Int))) (B3 : Boxed W bl 22 (.slice (some ad) len cap)) (B4 : Boxed W ba 3 (.int .i64 x)) (B5 : Boxed W bm 3 (.int .i64 M))
    (e5 : W.cell? (ad.add k) = some (.int .i64 y)) (n1 : bn ≠ bo) (n2 : ba ≠ bo) (n3 : bn ≠ ba) (n4 : bm ≠ bo) (n5 : bm ≠ ba) (n6 : bm ≠ bn) :
    Calls Try.prog 11 #[.int .i64 x, .int .i64 (wrap64 (x + y)), .pointer (some ⟨bo, 0, none⟩), .pointer (some ⟨bn, 0, none⟩), .pointer (some ⟨bl, 0, none⟩), .pointer (some ⟨ba, 0, none⟩), .pointer (some ⟨bm, 0, none⟩)] W fun e W' =>
      e = .returned (.bool (decide ((k : Int) + 1 < M))) ∧ W' = (((W.setCell ⟨bo, 0, none⟩ (.bool true)).setCell ⟨ba, 0, none⟩ (.int .i64 (wrap64 (x + y)))).setCell ⟨bn, 0, none⟩ (.int .i64 ((k : Int) + 1))).drew := by
  have e1 := B1.cell
  have e2 := B2.cell
  have e3 := B3.cell
  have e4 := B4.cell
  have f1 := B1.frozen
  have f4 := (B4.other (B' := bo) n2 (.bool true)).frozen
  have c4 := (B4.other (B' := bo) n2 (.bool true)).cell
  have d2 := ((B2.other (B' := bo) n1 (.bool true)).other (B' := ba) n3 (.int .i64 (wrap64 (x + y))))
  have c2 := d2.cell
  have f2 := d2.frozen
  have d1 := ((B1.set (.bool true)).other (B' := ba) n2.symm (.int .i64 (wrap64 (x + y)))).other (B' := bn) n1.symm (.int .i64 ((k : Int) + 1))
  have c1 := d1.cell
  have c2' := (d2.set (.int .i64 ((k : Int) + 1))).cell
  have c5 := (((B5.other (B' := bo) n4 (.bool true)).other (B' := ba) n5 (.int .i64 (wrap64 (x + y)))).other (B' := bn) n6 (.int .i64 ((k : Int) + 1))).cell
  clear B1 B2 B3 B4 B5 d1 d2
  have t1 : decide (k < len) = true := by simpa using hk
  have T2 := AsideL.mk (show (if wrap64 ((len : Int) - 1) < (k : Int) then wrap64 ((len : Int) - 1) else (k : Int)) = (k : Int) by rw [if_neg (by unfold wrap64; omega)])
  have t3 : (k : Int) < (len : Int) := by omega
  have t4 : (0 : Int) ≤ (k : Int) := by omega
  have hkb : (k : Int) ≤ 100 := by omega
  have hlb : (len : Int) ≤ 100 := by omega
  go_enter Try.func11, Try.ntmps11
  go_wp2
  refine start_ (n := 27) (S := fun w' => w'.cell? ⟨bo, 0, none⟩ = some (.bool true) ∧ w'.cell? ⟨bn, 0, none⟩ = some (.int .i64 (k : Int)) ∧ w'.cell? ⟨bl, 0, none⟩ = some (.slice (some ad) len cap) ∧ w'.cell? ⟨ba, 0, none⟩ = some (.int .i64 x) ∧ w'.cell? (ad.add k) = some (.int .i64 y)) (ds := [26]) #[false, false, false, false, false, false, false, false, false, false, false, false, false, false, false, false, false, false, false, false, false, false, false, false, false, false, false] (by kernel_rfl) rfl rfl ⟨e1, e2, e3, e4, e5⟩ (fun hHeld => ?_)
  refine take_ (i := 0) (N := some 10) (v := ?_) (a' := ?_) #[true, false, false, false, false, false, false, false, false, false, false, false, false, false, false, false, false, false, false, false, false, false, false, false, false, false, false] rfl rfl (by kernel_rfl) (fun _ _ _ h => h) (Or.inl ⟨by rfl, ?_⟩) hHeld ?_ ?_
  rotate_left
  · rintro w' ⟨s0, s1, s2, s3, s4⟩
    go_simp
    with_reducible rfl
  rotate_left
  · simp only [Act.put, List.setIfInBounds_toArray, List.set_cons_zero, List.set_cons_succ, i64_w, i32_w]
    rfl
  refine pure_ (i := 1) (N := some 11) (v := ?_) (a' := ?_) #[true, true, false, false, false, false, false, false, false, false, false, false, false, false, false, false, false, false, false, false, false, false, false, false, false, false, false] rfl rfl (by kernel_rfl) (fun _ _ _ h => h) (Or.inl ⟨by rfl, ?_⟩) ?_ ?_
  rotate_left
  · intro w'
    go_simp
    with_reducible rfl
  rotate_left
  · simp only [Act.put, List.setIfInBounds_toArray, List.set_cons_zero, List.set_cons_succ, i64_w, i32_w]
    rfl
  refine take_ (i := 2) (N := some 12) (v := ?_) (a' := ?_) #[true, true, true, false, false, false, false, false, false, false, false, false, false, false, false, false, false, false, false, false, false, false, false, false, false, false, false] rfl rfl (by kernel_rfl) (fun _ _ _ h => h) (Or.inl ⟨by rfl, ?_⟩) hHeld ?_ ?_
  rotate_left
  · rintro w' ⟨s0, s1, s2, s3, s4⟩
    go_simp
    with_reducible rfl
  rotate_left
  · simp only [Act.put, List.setIfInBounds_toArray, List.set_cons_zero, List.set_cons_succ, i64_w, i32_w]
    rfl
  refine take_ (i := 3) (N := some 13) (v := ?_) (a' := ?_) #[true, true, true, true, false, false, false, false, false, false, false, false, false, false, false, false, false, false, false, false, false, false, false, false, false, false, false] rfl rfl (by kernel_rfl) (fun _ _ _ h => h) (Or.inl ⟨by rfl, ?_⟩) hHeld ?_ ?_
  rotate_left
  · rintro w' ⟨s0, s1, s2, s3, s4⟩
    go_simp
    with_reducible rfl
  rotate_left
  · simp only [Act.put, List.setIfInBounds_toArray, List.set_cons_zero, List.set_cons_succ, i64_w, i32_w]
    rfl
  refine pure_ (i := 4) (N := some 14) (v := ?_) (a' := ?_) #[true, true, true, true, true, false, false, false, false, false, false, false, false, false, false, false, false, false, false, false, false, false, false, false, false, false, false] rfl rfl (by kernel_rfl) (fun _ _ _ h => h) (Or.inl ⟨by rfl, ?_⟩) ?_ ?_
  rotate_left
  · intro w'
    go_simp
    with_reducible rfl
  rotate_left
  · simp only [Act.put, List.setIfInBounds_toArray, List.set_cons_zero, List.set_cons_succ, i64_w, i32_w]
    rfl
  refine pure_ (i := 5) (N := some 15) (v := ?_) (a' := ?_) #[true, true, true, true, true, true, false, false, false, false, false, false, false, false, false, false, false, false, false, false, false, false, false, false, false, false, false] rfl rfl (by kernel_rfl) (fun _ _ _ h => h) (Or.inl ⟨by rfl, ?_⟩) ?_ ?_
  rotate_left
  · intro w'
    go_simp
    with_reducible rfl
  rotate_left
  · simp only [Act.put, List.setIfInBounds_toArray, List.set_cons_zero, List.set_cons_succ, i64_w, i32_w]
    rfl
  refine pure_ (i := 6) (N := some 16) (v := ?_) (a' := ?_) #[true, true, true, true, true, true, true, false, false, false, false, false, false, false, false, false, false, false, false, false, false, false, false, false, false, false, false] rfl rfl (by kernel_rfl) (fun _ _ _ h => h) (Or.inl ⟨by rfl, ?_⟩) ?_ ?_
  rotate_left
  · intro w'
    go_simp
    with_reducible rfl
  rotate_left
  · simp only [Act.put, List.setIfInBounds_toArray, List.set_cons_zero, List.set_cons_succ, i64_w, i32_w]
    rfl
  refine pure_ (i := 7) (N := some 17) (v := ?_) (a' := ?_) #[true, true, true, true, true, true, true, true, false, false, false, false, false, false, false, false, false, false, false, false, false, false, false, false, false, false, false] rfl rfl (by kernel_rfl) (fun _ _ _ h => h) (Or.inl ⟨by rfl, ?_⟩) ?_ ?_
  rotate_left
  · intro w'
    go_simp
    with_reducible rfl
  rotate_left
  · simp only [Act.put, List.setIfInBounds_toArray, List.set_cons_zero, List.set_cons_succ, i64_w, i32_w]
    rfl
  refine pure_ (i := 8) (N := some 18) (v := ?_) (a' := ?_) #[true, true, true, true, true, true, true, true, true, false, false, false, false, false, false, false, false, false, false, false, false, false, false, false, false, false, false] rfl rfl (by kernel_rfl) (fun _ _ _ h => h) (Or.inl ⟨by rfl, ?_⟩) ?_ ?_
  rotate_left
  · intro w'
    go_simp
    with_reducible rfl
  rotate_left
  · simp only [Act.put, List.setIfInBounds_toArray, List.set_cons_zero, List.set_cons_succ, i64_w, i32_w]
    rfl
  refine take_ (i := 9) (N := some 19) (v := ?_) (a' := ?_) #[true, true, true, true, true, true, true, true, true, true, false, false, false, false, false, false, false, false, false, false, false, false, false, false, false, false, false] rfl rfl (by kernel_rfl) (fun _ _ _ h => h) (Or.inl ⟨by rfl, ?_⟩) hHeld ?_ ?_
  rotate_left
  · rintro w' ⟨s0, s1, s2, s3, s4⟩
    go_simp
    with_reducible rfl
  rotate_left
  · simp only [Act.put, List.setIfInBounds_toArray, List.set_cons_zero, List.set_cons_succ, i64_w, i32_w]
    rfl
  refine pure_ (i := 10) (N := some 20) (v := ?_) (a' := ?_) #[true, true, true, true, true, true, true, true, true, true, true, false, false, false, false, false, false, false, false, false, false, false, false, false, false, false, false] rfl rfl (by kernel_rfl) (fun _ _ _ h => h) (Or.inl ⟨by rfl, ?_⟩) ?_ ?_
  rotate_left
  · intro w'
    go_simp
    with_reducible rfl
  rotate_left
  · simp only [Act.put, List.setIfInBounds_toArray, List.set_cons_zero, List.set_cons_succ, i64_w, i32_w]
    rfl
  refine pure_ (i := 11) (N := some 21) (v := ?_) (a' := ?_) #[true, true, true, true, true, true, true, true, true, true, true, true, false, false, false, false, false, false, false, false, false, false, false, false, false, false, false] rfl rfl (by kernel_rfl) (fun _ _ _ h => h) (Or.inl ⟨by rfl, ?_⟩) ?_ ?_
  rotate_left
  · intro w'
    go_simp
    with_reducible rfl
  rotate_left
  · simp only [Act.put, List.setIfInBounds_toArray, List.set_cons_zero, List.set_cons_succ, i64_w, i32_w]
    rfl
  refine pure_ (i := 12) (N := some 22) (v := ?_) (a' := ?_) #[true, true, true, true, true, true, true, true, true, true, true, true, true, false, false, false, false, false, false, false, false, false, false, false, false, false, false] rfl rfl (by kernel_rfl) (fun _ _ _ h => h) (Or.inl ⟨by rfl, ?_⟩) ?_ ?_
  rotate_left
  · intro w'
    go_simp
    with_reducible rfl
  rotate_left
  · simp only [Act.put, List.setIfInBounds_toArray, List.set_cons_zero, List.set_cons_succ, i64_w, i32_w]
    rfl
  refine pure_ (i := 13) (N := some 23) (v := ?_) (a' := ?_) #[true, true, true, true, true, true, true, true, true, true, true, true, true, true, false, false, false, false, false, false, false, false, false, false, false, false, false] rfl rfl (by kernel_rfl) (fun _ _ _ h => h) (Or.inl ⟨by rfl, ?_⟩) ?_ ?_
  rotate_left
  · intro w'
    go_simp
    with_reducible rfl
  rotate_left
  · simp only [Act.put, List.setIfInBounds_toArray, List.set_cons_zero, List.set_cons_succ, i64_w, i32_w]
    rfl
  refine take_ (i := 14) (N := some 24) (v := ?_) (a' := ?_) #[true, true, true, true, true, true, true, true, true, true, true, true, true, true, true, false, false, false, false, false, false, false, false, false, false, false, false] rfl rfl (by kernel_rfl) (fun _ _ _ h => h) (Or.inl ⟨by rfl, ?_⟩) hHeld ?_ ?_
  rotate_left
  · rintro w' ⟨s0, s1, s2, s3, s4⟩
    go_simp
    with_reducible rfl
  rotate_left
  · simp only [Act.put, List.setIfInBounds_toArray, List.set_cons_zero, List.set_cons_succ, i64_w, i32_w]
    rfl
  refine take_ (i := 15) (N := some 25) (v := ?_) (a' := ?_) #[true, true, true, true, true, true, true, true, true, true, true, true, true, true, true, true, false, false, false, false, false, false, false, false, false, false, false] rfl rfl (by kernel_rfl) (fun _ _ _ h => h) (Or.inl ⟨by rfl, ?_⟩) hHeld ?_ ?_
  rotate_left
  · rintro w' ⟨s0, s1, s2, s3, s4⟩
    go_simp
    with_reducible rfl
  rotate_left
  · simp only [Act.put, List.setIfInBounds_toArray, List.set_cons_zero, List.set_cons_succ, i64_w, i32_w]
    rfl
  refine take_ (i := 16) (N := some 26) (v := ?_) (a' := ?_) #[true, true, true, true, true, true, true, true, true, true, true, true, true, true, true, true, true, false, false, false, false, false, false, false, false, false, false] rfl rfl (by kernel_rfl) (fun _ _ _ h => h) (Or.inl ⟨by rfl, ?_⟩) hHeld ?_ ?_
  rotate_left
  · rintro w' ⟨s0, s1, s2, s3, s4⟩
    go_simp
    with_reducible rfl
  rotate_left
  · simp only [Act.put, List.setIfInBounds_toArray, List.set_cons_zero, List.set_cons_succ, i64_w, i32_w]
    rfl
  refine take_ (i := 17) (N := some 27) (v := ?_) (a' := ?_) #[true, true, true, true, true, true, true, true, true, true, true, true, true, true, true, true, true, true, false, false, false, false, false, false, false, false, false] rfl rfl (by kernel_rfl) (fun _ _ _ h => h) (Or.inl ⟨by rfl, ?_⟩) hHeld ?_ ?_
  rotate_left
  · rintro w' ⟨s0, s1, s2, s3, s4⟩
    go_simp
    with_reducible rfl
  rotate_left
  · simp only [Act.put, List.setIfInBounds_toArray, List.set_cons_zero, List.set_cons_succ, i64_w, i32_w]
    rfl
  refine pure_ (i := 18) (N := some 28) (v := ?_) (a' := ?_) #[true, true, true, true, true, true, true, true, true, true, true, true, true, true, true, true, true, true, true, false, false, false, false, false, false, false, false] rfl rfl (by kernel_rfl) (fun _ _ _ h => h) (Or.inl ⟨by rfl, ?_⟩) ?_ ?_
  rotate_left
  · intro w'
    go_simp
    with_reducible rfl
  rotate_left
  · simp only [Act.put, List.setIfInBounds_toArray, List.set_cons_zero, List.set_cons_succ, i64_w, i32_w]
    rfl
  refine pure_ (i := 19) (N := some 29) (v := ?_) (a' := ?_) #[true, true, true, true, true, true, true, true, true, true, true, true, true, true, true, true, true, true, true, true, false, false, false, false, false, false, false] rfl rfl (by kernel_rfl) (fun _ _ _ h => h) (Or.inl ⟨by rfl, ?_⟩) ?_ ?_
  rotate_left
  · intro w'
    go_simp
    with_reducible rfl
  rotate_left
  · simp only [Act.put, List.setIfInBounds_toArray, List.set_cons_zero, List.set_cons_succ, i64_w, i32_w]
    rfl
  refine pure_ (i := 20) (N := some 30) (v := ?_) (a' := ?_) #[true, true, true, true, true, true, true, true, true, true, true, true, true, true, true, true, true, true, true, true, true, false, false, false, false, false, false] rfl rfl (by kernel_rfl) (fun _ _ _ h => h) (Or.inl ⟨by rfl, ?_⟩) ?_ ?_
  rotate_left
  · intro w'
    go_simp
    rw [T2.out]
  rotate_left
  · simp only [Act.put, List.setIfInBounds_toArray, List.set_cons_zero, List.set_cons_succ, i64_w, i32_w]
    rfl
  refine pure_ (i := 21) (N := some 31) (v := ?_) (a' := ?_) #[true, true, true, true, true, true, true, true, true, true, true, true, true, true, true, true, true, true, true, true, true, true, false, false, false, false, false] rfl rfl (by kernel_rfl) (fun _ _ _ h => h) (Or.inl ⟨by rfl, ?_⟩) ?_ ?_
  rotate_left
  · intro w'
    go_simp
    with_reducible rfl
  rotate_left
  · simp only [Act.put, List.setIfInBounds_toArray, List.set_cons_zero, List.set_cons_succ, i64_w, i32_w]
    rfl
  refine take_ (i := 22) (N := some 32) (v := ?_) (a' := ?_) #[true, true, true, true, true, true, true, true, true, true, true, true, true, true, true, true, true, true, true, true, true, true, true, false, false, false, false] rfl rfl (by kernel_rfl) (fun _ _ _ h => h) (Or.inl ⟨by rfl, ?_⟩) hHeld ?_ ?_
  rotate_left
  · rintro w' ⟨s0, s1, s2, s3, s4⟩
    go_simp
    with_reducible rfl
  rotate_left
  · simp only [Act.put, List.setIfInBounds_toArray, List.set_cons_zero, List.set_cons_succ, i64_w, i32_w]
    rfl
  refine pure_ (i := 23) (N := some 33) (v := ?_) (a' := ?_) #[true, true, true, true, true, true, true, true, true, true, true, true, true, true, true, true, true, true, true, true, true, true, true, true, false, false, false] rfl rfl (by kernel_rfl) (fun _ _ _ h => h) (Or.inl ⟨by rfl, ?_⟩) ?_ ?_
  rotate_left
  · intro w'
    go_simp
    with_reducible rfl
  rotate_left
  · simp only [Act.put, List.setIfInBounds_toArray, List.set_cons_zero, List.set_cons_succ, i64_w, i32_w]
    rfl
  refine pure_ (i := 24) (N := some 34) (v := ?_) (a' := ?_) #[true, true, true, true, true, true, true, true, true, true, true, true, true, true, true, true, true, true, true, true, true, true, true, true, true, false, false] rfl rfl (by kernel_rfl) (fun _ _ _ h => h) (Or.inl ⟨by rfl, ?_⟩) ?_ ?_
  rotate_left
  · intro w'
    go_simp
    with_reducible rfl
  rotate_left
  · simp only [Act.put, List.setIfInBounds_toArray, List.set_cons_zero, List.set_cons_succ, i64_w, i32_w]
    rfl
  refine pure_ (i := 25) (N := some 35) (v := ?_) (a' := ?_) #[true, true, true, true, true, true, true, true, true, true, true, true, true, true, true, true, true, true, true, true, true, true, true, true, true, true, false] rfl rfl (by kernel_rfl) (fun _ _ _ h => h) (Or.inl ⟨by rfl, ?_⟩) ?_ ?_
  rotate_left
  · intro w'
    go_simp
    with_reducible rfl
  rotate_left
  · simp only [Act.put, List.setIfInBounds_toArray, List.set_cons_zero, List.set_cons_succ, i64_w, i32_w]
    rfl
  refine last_ (i := 26) (N := none) #[true, true, true, true, true, true, true, true, true, true, true, true, true, true, true, true, true, true, true, true, true, true, true, true, true, true, true] rfl rfl (by kernel_rfl) (by decide) (fun K hK => ?_)
  refine skip_ (w1 := ?_) (by rfl) rfl ?_ ?_
  rotate_left
  · go_simp
    rfl
  refine hK.out _ _ ?_
  clear hK K
  refine done_ (by kernel_rfl) ?_
  go_wp2
  go_ret
  exact ⟨rfl, rfl⟩
open Go.Proofs.Ytlbhcbfdiojbhaa.LadderSpec
theorem c2_lt {W : World} {b : Nat} {v : Value} (h : W.cell? ⟨b, 0, none⟩ = some v) : b < W.heap.size := World.block_lt_of_cell? W _ h
theorem below_new {w w1 : World} (o : Obj) (h : Below (w.alloc o).heap.size (w.alloc o) w1) : Below w.heap.size w w1 := ((Below.refl _ w).alloc (Nat.le_refl _) o).trans (h.mono (by simp))
def sackbutlaw17_LadderSpans.f (l0 : List Int) (a1 : Int) : Option Bool := if l0.length ≤ 9223372036854775807 ∧ 0 ≤ a1 ∧ a1 < 256 then some true else none
/-- What holds when k spans have been told. -/
structure SJ (w : World) (s : Nat) (A0 : Option Addr) (len c0 : Nat) (zs : List Int) (M : Int) (k : Nat) (W : World) : Prop where
  bel : Below w.heap.size w W
  bsp : Boxed W (s + 4) 22 (.slice A0 len c0)
  bl : Boxed W w.heap.size 22 (.slice A0 len c0)
  bn : Boxed W s 3 (.int .i64 (k : Int))
  bm : Boxed W (s + 1) 3 (.int .i64 M)
  ba : Boxed W (s + 2) 3 (.int .i64 (spanAt zs k))
  bo : Boxed W (s + 3) 4 (.bool true)
theorem SJ.step {w : World} {s : Nat} {A0 : Option Addr} {len c0 : Nat} {zs : List Int} {M : Int} {k : Nat} {W : World} (h : SJ w s A0 len c0 zs M k W) (hs : w.heap.size < s) (hk : k < zs.length) (x : Int) (hx : x = spanAt zs (k + 1)) :
    SJ w s A0 len c0 zs M (k + 1) (((W.setCell ⟨s + 3, 0, none⟩ (.bool true)).setCell ⟨s + 2, 0, none⟩ (.int .i64 x)).setCell ⟨s, 0, none⟩ (.int .i64 ((k : Int) + 1))).drew := by
  obtain ⟨h1, h2, h3, h4, h5, h6, h7⟩ := h
  subst hx
  refine ⟨below_drew (((h1.setCell (p := ⟨s + 3, 0, none⟩) (by show w.heap.size ≤ s + 3; omega) _).setCell (p := ⟨s + 2, 0, none⟩) (by show w.heap.size ≤ s + 2; omega) _).setCell (p := ⟨s, 0, none⟩) (by show w.heap.size ≤ s; omega) _), ?_, ?_, ?_, ?_, ?_, ?_⟩
  · exact ((h2.other (by omega) _).other (by omega) _).other (by omega) _
  · exact ((h3.other (by omega) _).other (by omega) _).other (by omega) _
  · exact ((h4.other (B' := s + 3) (by omega) _).other (B' := s + 2) (by omega) _).set _
  · exact ((h5.other (by omega) _).other (by omega) _).other (by omega) _
  · exact ((h6.other (B' := s + 3) (by omega) _).set _).other (by omega) _
  · exact ((h7.set _).other (by omega) _).other (by omega) _
def SX (w : World) (s : Nat) (A0 : Option Addr) (len c0 : Nat) (zs : List Int) (M : Int) (m : Nat) (W : World) : Prop := SJ w s A0 len c0 zs M m W ∧ (m = 1 ∨ (m : Int) - 1 < M) ∧ ¬ (m : Int) < M
theorem SJ.goes {w : World} {s : Nat} {A0 : Option Addr} {len c0 : Nat} {zs : List Int} {M : Int} (hL : zs.length = len) (hlen : len ≤ 100) (hs : w.heap.size < s) (hR : ReadsInt w .i64 A0 zs.length zs) (k : Nat) (W : World) (h : SJ w s A0 len c0 zs M k W ∧ (k = 0 ∨ (k : Int) < M)) (hk : k < zs.length) :
    Calls Try.prog 11 (#[.int .i64 (spanAt zs k), .int .i64 (wrap64 (spanAt zs k + zs[k]?.getD 0))] ++ #[.pointer (some ⟨s + 3, 0, none⟩), .pointer (some ⟨s, 0, none⟩), .pointer (some ⟨w.heap.size, 0, none⟩), .pointer (some ⟨s + 2, 0, none⟩), .pointer (some ⟨s + 1, 0, none⟩)]) W fun e W' =>
      (e = .returned (.bool true) ∧ (SJ w s A0 len c0 zs M (k + 1) W' ∧ (k + 1 = 0 ∨ ((k + 1 : Nat) : Int) < M))) ∨ (e = .returned (.bool false) ∧ SX w s A0 len c0 zs M (k + 1) W') := by
  obtain ⟨h, hlim⟩ := h
  obtain ⟨ad, rfl, hcell⟩ := ReadsInt.at_ hR (k : Int) (by omega) (by omega)
  have hb0 := World.block_lt_of_cell? w _ hcell
  have hcx : W.cell? (ad.add k) = some (.int .i64 (zs[k]?.getD 0)) := by
    have e := (h.bel.cell hb0).trans hcell
    rw [Int.toNat_natCast] at e
    rw [e]; unfold rd; rw [Int.toNat_natCast, List.getD_eq_getElem?_getD]
  have hstep := h.step hs hk _ (spanAt_succ zs k hk).symm
  refine Calls.mono (spans_yield (s + 3) s w.heap.size (s + 2) (s + 1) ad len c0 k (spanAt zs k) (zs[k]?.getD 0) M W hlen (by omega) h.bo h.bn h.bl h.ba h.bm hcx (by omega) (by omega) (by omega) (by omega) (by omega) (by omega)) ?_
  rintro e W' ⟨rfl, rfl⟩
  by_cases hm : (k : Int) + 1 < M
  · rw [decide_eq_true hm]
    exact .inl ⟨rfl, hstep, .inr (by omega)⟩
  · rw [decide_eq_false hm]
    exact .inr ⟨rfl, hstep, by omega, by omega⟩
set_option maxRecDepth 100000 in
set_option maxHeartbeats 4000000 in
theorem spans_law (A0 : Option Addr) (c0 : Nat) (l0 : List Int) (a1 : Int) (w : World) (hr0 : Kd.C (Kd.int .i64) w A0 l0.length l0) (hc0 : l0.length ≤ c0) (hl : l0.length ≤ 100) (hi : Index l0) (ha : 0 ≤ a1 ∧ a1 < 256) :
    Calls Try.prog 3 #[.slice A0 l0.length c0, .int .u8 a1] w fun e w' => e = .returned (.bool true) ∧ Below w.heap.size w w' := by
  have hA := fun W => sackbutlaw17_awake.calls 60 true W (awake_ok 60 (Nat.le_refl _))
  obtain ⟨b, eb, hb⟩ := good_spec l0 hl 101 (Nat.le_refl _)
  obtain rfl : b = true := hb.2 hi
  have hG := fun (W : World) (hW : Below w.heap.size w W) => sackbutlaw17_good.calls 101 A0 c0 l0 true W (Kd.C_below hr0 hW) hc0 eb
  have HA := AsideL.mk hA
  have HG := AsideL.mk hG
  have HR := AsideL.mk hr0
  have HI := AsideL.mk hi
  clear hA hG eb hb hr0 hi hc0
  obtain ⟨len, hlen⟩ : ∃ len, l0.length = len := ⟨_, rfl⟩
  have HL := AsideL.mk hlen
  rw [hlen] at hl
  rw [hlen] at HG ⊢
  clear hlen
  have h100 : ¬ ((len : Int) > 100) := by omega
  go_enter Try.func3, Try.ntmps3
  go_wp2_with fail
  refine (HA.out _).mono ?_
  rintro e w1 ⟨rfl, hb1⟩
  have HB1 := AsideL.mk (below_new _ hb1)
  have c1 : w1.cell? ⟨w.heap.size, 0, none⟩ = some (.slice A0 len c0) := (hb1.cell (p := ⟨w.heap.size, 0, none⟩) (by simp)).trans (by simp)
  have b1 : Boxed w1 w.heap.size 22 (.slice A0 len c0) := (hb1.block w.heap.size (by simp)).trans (Boxed.new w 22 (.slice A0 len c0))
  have D1 := AsideL.mk b1
  clear hb1 b1
  go_wp2_with fail
  refine (HG.out _ HB1.out).mono ?_
  rintro e w2 ⟨rfl, hd⟩
  have b2 := D1.out.kept (grown_of_below hd.below none) (by simp)
  have HB2 := AsideL.mk (below_step HB1.out hd.below)
  have D2 := AsideL.mk b2
  have c2 := b2.cell
  clear hd b2 c1 D1 HB1
  have HW2 := AsideL.mk (show w.heap.size < w2.heap.size from c2_lt c2)
  have c4 := ((((D2.out.alloc (.cells #[.int .i64 0] 3)).alloc (.cells #[.int .i64 (a1 % 120)] 3)).alloc (.cells #[.int .i64 0] 3)).alloc (.cells #[.bool true] 4)).cell
  clear c2
  go_wp2_with fail
  refine (callsIn_wide.1 (spans_in Fence.wide 3 trivial rfl A0 len c0 _)).mono ?_
  rintro e w3 ⟨rfl, hw3⟩
  have J0 : SJ w w2.heap.size A0 len c0 l0 (a1 % 120) 0 w3 := by
    rw [hw3]
    refine ⟨?_, ?_, ?_, ?_, ?_, ?_, ?_⟩
    · exact ((((HB2.out.alloc (by have := HW2.out; omega) _).alloc (by have := HW2.out; simp; omega) _).alloc (by have := HW2.out; simp; omega) _).alloc (by have := HW2.out; simp; omega) _).alloc (by have := HW2.out; simp; omega) _
    · have := Boxed.new ((((w2.alloc (.cells #[.int .i64 0] 3)).alloc (.cells #[.int .i64 (a1 % 120)] 3)).alloc (.cells #[.int .i64 0] 3)).alloc (.cells #[.bool true] 4)) 22 (.slice A0 len c0)
      simpa using this
    · exact ((((D2.out.alloc _).alloc _).alloc _).alloc _).alloc _
    · have := ((((Boxed.new w2 3 (.int .i64 0)).alloc (.cells #[.int .i64 (a1 % 120)] 3)).alloc (.cells #[.int .i64 0] 3)).alloc (.cells #[.bool true] 4)).alloc (.cells #[.slice A0 len c0] 22)
      simpa using this
    · have := (((Boxed.new (w2.alloc (.cells #[.int .i64 0] 3)) 3 (.int .i64 (a1 % 120))).alloc (.cells #[.int .i64 0] 3)).alloc (.cells #[.bool true] 4)).alloc (.cells #[.slice A0 len c0] 22)
      simpa using this
    · have := ((Boxed.new ((w2.alloc (.cells #[.int .i64 0] 3)).alloc (.cells #[.int .i64 (a1 % 120)] 3)) 3 (.int .i64 0)).alloc (.cells #[.bool true] 4)).alloc (.cells #[.slice A0 len c0] 22)
      simpa [spanAt] using this
    · have := (Boxed.new (((w2.alloc (.cells #[.int .i64 0] 3)).alloc (.cells #[.int .i64 (a1 % 120)] 3)).alloc (.cells #[.int .i64 0] 3)) 4 (.bool true)).alloc (.cells #[.slice A0 len c0] 22)
      simpa using this
  have eg := enters_of Try.func11 (by kernel_rfl) rfl
  have hsp := spans_fn 11 #[.pointer (some ⟨w2.heap.size + 3, 0, none⟩), .pointer (some ⟨w2.heap.size, 0, none⟩), .pointer (some ⟨w.heap.size, 0, none⟩), .pointer (some ⟨w2.heap.size + 2, 0, none⟩), .pointer (some ⟨w2.heap.size + 1, 0, none⟩)] eg (w2.heap.size + 4) c0 A0 l0 w (Kd.reads_of_C HR.out) (fun k W => SJ w w2.heap.size A0 len c0 l0 (a1 % 120) k W ∧ (k = 0 ∨ (k : Int) < a1 % 120)) (SX w w2.heap.size A0 len c0 l0 (a1 % 120))
    (fun k W h => ⟨h.1.bel, by rw [HL.out]; exact h.1.bsp.cell⟩) (SJ.goes HL.out hl HW2.out (Kd.reads_of_C HR.out)) w3 ⟨J0, .inl rfl⟩
  have HSP := AsideL.mk hsp
  have e25 := (((Boxed.new w2 3 (.int .i64 0)).alloc (.cells #[.int .i64 (a1 % 120)] 3)).alloc (.cells #[.int .i64 0] 3))
  clear hsp J0 eg hw3 c4 e25
  simp only [World.size_alloc, Nat.add_assoc, Nat.reduceAdd]
  go_wp2_with fail
  refine HSP.out.mono ?_
  rintro e w4 ⟨⟨v, rfl⟩, hend⟩
  have hfin : ∃ m : Nat, SJ w w2.heap.size A0 len c0 l0 (a1 % 120) m w4 ∧ (m : Int) = if (if a1 % 120 < 1 then 1 else a1 % 120) < (len : Int) then (if a1 % 120 < 1 then 1 else a1 % 120) else (len : Int) := by
    have hL := HL.out
    rcases hend with ⟨h, hd⟩ | ⟨k, hk, h, hd, hx⟩
    · exact ⟨l0.length, h, by split <;> (split at * <;> omega)⟩
    · exact ⟨k + 1, h, by split <;> (split at * <;> omega)⟩
  clear hend HSP
  obtain ⟨m, hJ, hm⟩ := hfin
  have HM := AsideL.mk hm
  have q1 := hJ.bo.cell
  have q2 := hJ.bn.cell
  have q3 := hJ.bl.cell
  have q4 := hJ.bm.cell
  have HB4 := AsideL.mk hJ.bel
  clear hJ hm
  go_wp2
  all_goals
    go_ret
    refine ⟨congrArg Ending.returned (congrArg Value.bool (?_ : _ = true)), HB4.out⟩
    have hm := HM.out
    rw [beq_iff_eq]
    (repeat' split at hm) <;> omega
set_option maxRecDepth 100000 in
set_option maxHeartbeats 4000000 in
theorem spans_law_off (A0 : Option Addr) (c0 : Nat) (l0 : List Int) (a1 : Int) (w : World) (hr0 : Kd.C (Kd.int .i64) w A0 l0.length l0) (hc0 : l0.length ≤ c0) (h : ¬ (l0.length ≤ 100 ∧ Index l0)) :
    Calls Try.prog 3 #[.slice A0 l0.length c0, .int .u8 a1] w fun e w' => e = .returned (.bool true) ∧ Below w.heap.size w w' := by
  have HA := AsideL.mk (fun W => sackbutlaw17_awake.calls 60 true W (awake_ok 60 (Nat.le_refl _)))
  have hbig : l0.length ≤ 9223372036854775807 := (Kd.reads_of_C (d := (0 : Int)) (enc := Value.int .i64) (h1 := fun _ => rfl) hr0).2.1
  by_cases hl : l0.length ≤ 100
  · have hI : ¬ Index l0 := fun hi => h ⟨hl, hi⟩
    obtain ⟨b, eb, hb⟩ := good_spec l0 hl 101 (Nat.le_refl _)
    obtain rfl : b = false := by cases b <;> simp_all
    have HG := AsideL.mk (fun (W : World) (hW : Below w.heap.size w W) => sackbutlaw17_good.calls 101 A0 c0 l0 false W (Kd.C_below hr0 hW) hc0 eb)
    clear h hI eb hb hr0 hc0
    generalize l0.length = len at *
    have h100 : ¬ ((len : Int) > 100) := by omega
    go_enter Try.func3, Try.ntmps3
    go_wp2_with fail
    refine (HA.out _).mono ?_
    rintro e w1 ⟨rfl, hb1⟩
    have HB1 := AsideL.mk (below_new _ hb1)
    have c1 : w1.cell? ⟨w.heap.size, 0, none⟩ = some (.slice A0 len c0) := (hb1.cell (p := ⟨w.heap.size, 0, none⟩) (by simp)).trans (by simp)
    clear hb1
    go_wp2_with fail
    refine (HG.out _ HB1.out).mono ?_
    rintro e w2 ⟨rfl, hd⟩
    have HB2 := AsideL.mk (below_step HB1.out hd.below)
    clear hd c1 HB1
    go_wp2_with fail
    refine (HA.out _).mono ?_
    rintro e w3 ⟨rfl, hb3⟩
    have HB3 := AsideL.mk (below_step HB2.out hb3)
    clear hb3 HB2
    go_wp2
    go_ret
    exact ⟨rfl, HB3.out⟩
  · clear h hr0 hc0
    generalize l0.length = len at *
    have h100 : (len : Int) > 100 := by omega
    go_enter Try.func3, Try.ntmps3
    go_wp2_with fail
    refine (HA.out _).mono ?_
    rintro e w1 ⟨rfl, hb1⟩
    have HB1 := AsideL.mk (below_new _ hb1)
    have c1 : w1.cell? ⟨w.heap.size, 0, none⟩ = some (.slice A0 len c0) := (hb1.cell (p := ⟨w.heap.size, 0, none⟩) (by simp)).trans (by simp)
    clear hb1
    go_wp2_with fail
    refine (HA.out _).mono ?_
    rintro e w3 ⟨rfl, hb3⟩
    have HB3 := AsideL.mk (below_step HB1.out hb3)
    clear hb3 HB1
    go_wp2
    go_ret
    exact ⟨rfl, HB3.out⟩
theorem sackbutlaw17_LadderSpans.calls (A0 : Option Addr) (c0 : Nat) (l0 : List Int) (a1 : Int) (r : Bool) (w : World) (hr0 : Kd.C (Kd.int .i64) w A0 l0.length l0) (hc0 : l0.length ≤ c0) (h : sackbutlaw17_LadderSpans.f l0 a1 = some r) :
    Calls Try.prog 3 #[.slice A0 l0.length c0, .int .u8 a1] w fun e w' => e = .returned (.bool r) ∧ Below w.heap.size w w' := by
  unfold sackbutlaw17_LadderSpans.f at h
  split at h
  · rename_i hb
    obtain rfl := Option.some.inj h
    by_cases hx : l0.length ≤ 100 ∧ Index l0
    · exact spans_law A0 c0 l0 a1 w hr0 hc0 hx.1 hx.2 hb.2
    · exact spans_law_off A0 c0 l0 a1 w hr0 hc0 hx
  · cases h

end Go.Proofs.Ytlbhcbfdiojbhaa.HL
