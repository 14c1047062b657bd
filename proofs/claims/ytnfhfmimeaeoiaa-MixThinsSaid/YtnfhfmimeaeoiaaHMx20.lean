/- What the Go functions come to, as plain Lean functions, and that their calls do just that: written by this project's own program (hp.sh); conditions: those of each theorem. -/
import Derived.Test.YtnfhfmimeaeoiaaHMx0
import Derived.Test.YtnfhfmimeaeoiaaHMx19
import Derived.Laws.CopyOwn
namespace Go.Proofs.Ytnfhfmimeaeoiaa.HM
open Go.RowKit Go.Proofs.YtnfhfmimeaeoiaaW.PrintWords Go.Proofs.YtnfhfmimeaeoiaaW.PrintLast Go.Proofs.YtnfhfmimeaeoiaaW.PrintMore
attribute [local go_sem] max2_int min2_int max_two min_two max_three min_three max_four min_four   -- for this text's walks alone
set_option linter.unusedVariables false
set_option linter.unusedSimpArgs false

/-! ### slices_Repeat_int_int: function 37, by hand -/
open Go.Proofs in
theorem mul_one (N : Nat) (h : N < 4294967296) : bits_Mul.f 1 (N : Int) = some (0, (N : Int)) := by
  unfold bits_Mul.f bits_Mul64.f
  have hw : ∀ n : Int, 0 ≤ n → n < 2 ^ 63 → IntKind.u64.wrap n = n := fun n h0 h1 => by
    simp [IntKind.wrap, IntKind.bits, IntKind.signed]; omega
  have h1 : Go.bits .and .u64 (N : Int) 4294967295 = (N : Int) := by
    have := bits_mask .u64 63 (by decide) hw 32 (by decide) (N : Int) (by omega) (by omega)
    rw [show (4294967295 : Int) = 2 ^ 32 - 1 from rfl, this]; omega
  have h2 : Go.bits .and .u64 1 4294967295 = 1 := by decide +kernel
  have h3 : Go.bits .and .u64 0 4294967295 = 0 := by decide +kernel
  rw [h1, h2, show (1 : Int) / 4294967296 = 0 from rfl, show (N : Int) / 4294967296 = 0 by omega]
  simp only [Int.zero_mul, Int.one_mul, Int.mul_zero, Option.bind_some]
  rw [hw 0 (by decide) (by decide), hw (N : Int) (by omega) (by omega), show (N : Int) / 4294967296 = 0 by omega, show (0 : Int) + 0 = 0 from rfl, hw 0 (by decide) (by decide), h3, show (0 : Int) / 4294967296 = 0 from rfl, show (0 : Int) + 0 = 0 from rfl, hw 0 (by decide) (by decide), show (0 : Int) / 4294967296 = 0 from rfl, show (0 : Int) + 0 = 0 from rfl, hw 0 (by decide) (by decide)]
/-- A row that is filled with y so far. -/
def fillR (y : Int) (n N : Nat) : List Value := List.replicate n (.int .i64 y) ++ List.replicate (N - n) (.int .i64 0)
theorem fillR_length (y : Int) (n N : Nat) (h : n ≤ N) : (fillR y n N).length = N := by simp [fillR]; omega
theorem fillR_full (y : Int) (N : Nat) : fillR y N N = nums .i64 (List.replicate N y) := by simp [fillR, nums]
theorem fillR_zero (y : Int) (N : Nat) : fillR y 0 N = List.replicate N (.int .i64 0) := by simp [fillR]
theorem fill_splice (y : Int) (n N : Nat) (h : n ≤ N) : splice (fillR y n N) n (List.replicate (min n (N - n)) (.int .i64 y)) = fillR y (n + min n (N - n)) N := by
  unfold splice fillR
  rw [List.take_append_of_le_length (by simp), List.take_of_length_le (by simp), List.length_replicate, List.drop_append, List.drop_of_length_le (by simp), List.nil_append, List.length_replicate, ← List.append_assoc, List.replicate_append_replicate]
  congr 1
  rw [List.drop_replicate]
  congr 1
  omega
theorem fill_cell {W : World} {g : Nat} {y : Int} {n N j : Nat} {v : Value} (hg : W.heap[g]? = some (.cells (fillR y n N).toArray 3 (0, 0))) (hn : n ≤ N) {m : Nat} (hj : (List.replicate (min n m) (Value.int .i64 y))[j]? = some v) : W.cell? ((⟨g, 0, none⟩ : Addr).add j) = some v := by
  obtain ⟨h1, h2⟩ := List.getElem?_eq_some_iff.1 hj
  rw [List.length_replicate] at h1
  rw [List.getElem_replicate] at h2
  subst h2
  rw [add_plain, World.cell?, hg]
  simp only [List.getElem?_toArray]
  unfold fillR
  rw [List.getElem?_append_left (by simp; omega), List.getElem?_replicate]
  simp; omega
theorem made_fill (y : Int) (N : Nat) : madeCells #[Value.int .i64 0] N = (fillR y 0 N).toArray := by
  rw [fillR_zero]
  apply Array.ext
  · simp [madeCells]
  · intro i h1 h2
    simp [madeCells, Nat.mod_one]
theorem fill_first (y : Int) (N : Nat) (h : 1 ≤ N) : splice (fillR y 0 N) 0 [Value.int .i64 y] = fillR y 1 N := by
  obtain ⟨m, rfl⟩ : ∃ m, N = m + 1 := ⟨N - 1, by omega⟩
  simp [splice, fillR, List.replicate_succ]
theorem one_cell {W : World} {ad : Addr} {y : Int} {j : Nat} {v : Value} (h : W.cell? ad = some (.int .i64 y)) (hj : [Value.int .i64 y][j]? = some v) : W.cell? (ad.add j) = some v := by
  cases j with
  | zero =>
    have hz : ad.add 0 = ad := by cases ad with | mk b o p => cases p <;> rfl
    rw [hz, h]
    simpa using hj
  | succ j => simp at hj
theorem fill_own {W : World} {B g N : Nat} {y : Int} (hg : B ≤ g) (hN : N ≤ 9223372036854775807) (h : W.heap[g]? = some (.cells (fillR y N N).toArray 3 (0, 0))) : W.ownsRow B 3 1 (.slice (some ⟨g, 0, none⟩) N N) N (nums .i64 (List.replicate N y)) := by
  exact ⟨by simp [nums], .inr ⟨g, N, (fillR y N N).toArray, rfl, hg, h, Nat.le_refl _, by simpa [maxLen] using hN, by simp [fillR], by rw [fillR_full]; simp [nums]⟩⟩
def slices_Repeat_int_int.f (l0 : List Int) (a1 : Int) : Option (List Int) := if l0.length = 1 ∧ 1 ≤ a1 ∧ a1 ≤ 100000 then some (List.replicate a1.toNat (rd l0 0)) else none
set_option maxRecDepth 100000 in
set_option maxHeartbeats 4000000 in
theorem repeat_walk (ad : Addr) (c0 : Nat) (y : Int) (N : Nat) (w : World) (hy : w.cell? ad = some (.int .i64 y)) (hc0 : 1 ≤ c0) (hN : 1 ≤ N ∧ N ≤ 100000) :
    Calls Try.prog 37 #[.slice (some ad) 1 c0, .int .i64 (N : Int)] w fun e w' => ∃ v0_ : Value, e = .returned (v0_) ∧ Kd.R (Kd.int .i64) 3 w' w.heap.size (fun _ => True) v0_ (List.replicate N y) ∧ Below w.heap.size w w' := by
  obtain ⟨hN1, hN2⟩ := hN
  have hm := mul_one N (by omega)
  have HM := Aside0.mk (fun W => bits_Mul.calls 1 (N : Int) 0 (N : Int) W hm)
  have HMK := Aside0.mk (print_make (P := Try.prog) 22 3 .i64 8 Try.underlying22 (by kernel_rfl) (by decide) N (by omega))
  have hmk := HMK.out
  clear hm
  have hb := World.block_lt_of_cell? w _ hy
  go_enter Try.func37, Try.ntmps37
  have tq := Try.underlying22
  go_wp2_with (first | (go_at_call 43; refine (HM.out _).mono ?_; rintro e w1 ⟨rfl, hd⟩; have HD := Aside0.mk hd; have HY := Aside0.mk ((hd.below.cell hb).trans hy); clear hd) | ((with_reducible refine gate_builtin (b := .copy) (xs := #[.tmp 31, .tmp 32]) rfl ?_); refine wpList_copy_splice rfl (.tmp 31) (.tmp 32) 22 22 rfl 3 tq (by kernel_rfl) (some ⟨w1.heap.size, 0, none⟩) (some ad) N N 1 c0 rfl rfl w1.heap.size 0 (fillR y 0 N) 3 ?hg [.int .i64 y] ?hn ?hp ?hf ?h1 w.heap.size w ?hb ?hB ?_; (case hg => rw [made_fill y N]; exact heap_alloc_new _ _); (case hn => show 1 = min 1 N; omega); (case hp => exact fun _ => ⟨rfl, ad, rfl, fun j v hj => one_cell ((World.cell?_alloc_lt _ _ _ (World.block_lt_of_cell? _ _ HY.out)).trans HY.out) hj⟩); (case hf => rw [fillR_length _ _ _ (Nat.zero_le _)]; simp; omega); (case h1 => intro v hv; rw [List.mem_singleton.1 hv]; rfl); (case hb => exact below_alloc HD.out.below _); (case hB => exact HD.out.below.size); intro w4 hg4 hb4; have HG4 := Aside0.mk (show w4.heap[w1.heap.size]? = some (.cells (fillR y 1 N).toArray 3 (0, 0)) from by rw [← fill_first y N hN1]; exact hg4); have HB4 := Aside0.mk hb4; clear hg4 hb4))
  obtain ⟨g, hg⟩ : ∃ g, w1.heap.size = g := ⟨_, rfl⟩
  have hgw : w.heap.size ≤ g := by rw [← hg]; exact HD.out.below.size
  rw [hg] at HG4 ⊢
  clear hg HD HY hy hb
  go_loopw [8] (fun s wr => ∃ n : Nat, 1 ≤ n ∧ n ≤ N ∧ s = .int .i64 (n : Int) ∧ Aside0 (wr.heap[g]? = some (.cells (fillR y n N).toArray 3 (0, 0))) ∧ Aside0 (Below w.heap.size w wr)) (fun s _ => N - (intOf s).toNat)
  case atStart => exact ⟨1, Nat.le_refl _, hN1, by first | rfl | simp [goInt], HG4, HB4⟩
  case round =>
    obtain ⟨n, hn1, hn2, rfl, HG, HBr⟩ := hrel
    by_cases hlt : n < N
    · have hnN := Aside0.mk hn2
      have hne : ¬ (N = n) := by omega
      have HBr' := Aside0.mk (below_drew1 HBr.out)
      clear HBr
      have HBr := HBr'
      clear HBr'
      go_wp2
      refine start_ (n := 10) (S := fun w' => True) (ds := [7]) #[false, false, false, false, false, false, false, false, false, false] (by kernel_rfl) rfl rfl trivial (fun hHeld => ?_)
      refine pure_ (i := 0) (N := some 38) (v := ?_) (a' := ?_) #[true, false, false, false, false, false, false, false, false, false] rfl rfl (by kernel_rfl) (fun _ _ _ h => h) (Or.inl ⟨by rfl, ?_⟩) ?_ ?_
      rotate_left
      · intro w'
        go_simp
        with_reducible rfl
      rotate_left
      · simp only [Act.put, List.setIfInBounds_toArray, List.set_cons_zero, List.set_cons_succ, i64_w, i32_w]
        rfl
      refine pure_ (i := 1) (N := some 39) (v := ?_) (a' := ?_) #[true, true, false, false, false, false, false, false, false, false] rfl rfl (by kernel_rfl) (fun _ _ _ h => h) (Or.inl ⟨by rfl, ?_⟩) ?_ ?_
      rotate_left
      · intro w'
        go_simp
        with_reducible rfl
      rotate_left
      · simp only [Act.put, List.setIfInBounds_toArray, List.set_cons_zero, List.set_cons_succ, i64_w, i32_w]
        rfl
      refine pure_ (i := 2) (N := some 40) (v := ?_) (a' := ?_) #[true, true, true, false, false, false, false, false, false, false] rfl rfl (by kernel_rfl) (fun _ _ _ h => h) (Or.inl ⟨by rfl, ?_⟩) ?_ ?_
      rotate_left
      · intro w'
        go_simp
        with_reducible rfl
      rotate_left
      · simp only [Act.put, List.setIfInBounds_toArray, List.set_cons_zero, List.set_cons_succ, i64_w, i32_w]
        rfl
      refine pure_ (i := 3) (N := some 41) (v := ?_) (a' := ?_) #[true, true, true, true, false, false, false, false, false, false] rfl rfl (by kernel_rfl) (fun _ _ _ h => h) (Or.inl ⟨by rfl, ?_⟩) ?_ ?_
      rotate_left
      · intro w'
        go_simp
        with_reducible rfl
      rotate_left
      · simp only [Act.put, List.setIfInBounds_toArray, List.set_cons_zero, List.set_cons_succ, i64_w, i32_w]
        rfl
      refine pure_ (i := 4) (N := some 42) (v := ?_) (a' := ?_) #[true, true, true, true, true, false, false, false, false, false] rfl rfl (by kernel_rfl) (fun _ _ _ h => h) (Or.inl ⟨by rfl, ?_⟩) ?_ ?_
      rotate_left
      · intro w'
        go_simp
        with_reducible rfl
      rotate_left
      · simp only [Act.put, List.setIfInBounds_toArray, List.set_cons_zero, List.set_cons_succ, i64_w, i32_w]
        rfl
      refine pure_ (i := 5) (N := some 43) (v := ?_) (a' := ?_) #[true, true, true, true, true, true, false, false, false, false] rfl rfl (by kernel_rfl) (fun _ _ _ h => h) (Or.inl ⟨by rfl, ?_⟩) ?_ ?_
      rotate_left
      · intro w'
        go_simp
        with_reducible rfl
      rotate_left
      · simp only [Act.put, List.setIfInBounds_toArray, List.set_cons_zero, List.set_cons_succ, i64_w, i32_w]
        rfl
      refine pure_ (i := 6) (N := some 44) (v := ?_) (a' := ?_) #[true, true, true, true, true, true, true, false, false, false] rfl rfl (by kernel_rfl) (fun _ _ _ h => h) (Or.inl ⟨by rfl, ?_⟩) ?_ ?_
      rotate_left
      · intro w'
        go_simp
        with_reducible rfl
      rotate_left
      · simp only [Act.put, List.setIfInBounds_toArray, List.set_cons_zero, List.set_cons_succ, i64_w, i32_w]
        rfl
      refine last_ (i := 7) (N := some 45) #[true, true, true, true, true, true, true, true, false, false] rfl rfl (by kernel_rfl) (by decide) (fun K hK => ?_)
      refine step_copy_splice rfl (.tmp 41) (.tmp 44) 22 22 rfl 3 Try.underlying22 (by kernel_rfl) (some ⟨g, n, none⟩) (some ⟨g, 0, none⟩) (N - n) (N - n) n N rfl rfl g n (fillR y n N) 3 HG.out (List.replicate (min n (N - n)) (.int .i64 y)) (by rw [List.length_replicate]) (fun _ => ⟨rfl, _, rfl, fun j v hj => fill_cell (W := wr.drew) HG.out hnN.out hj⟩) (by rw [fillR_length _ _ _ hnN.out, List.length_replicate]; omega) (fun v hv => by rw [List.eq_of_mem_replicate hv]; rfl) w.heap.size w HBr.out hgw ?_
      rintro w5 hg5 hb5
      have HG5 := Aside0.mk (show w5.heap[g]? = some (.cells (fillR y (n + min n (N - n)) N).toArray 3 (0, 0)) from by rw [← fill_splice y n N hnN.out]; exact hg5)
      have HB5 := Aside0.mk hb5
      clear hg5 hb5
      rw [List.length_replicate]
      refine hK.out _ _ ?_
      clear hK K
      refine norm_ (a' := ?_) ?_ ?_
      rotate_left
      · show Act.put _ (some 45) _ = _
        simp only [Act.put, List.setIfInBounds_toArray, List.set_cons_zero, List.set_cons_succ, i64_w, i32_w]
        rfl
      refine pure_ (i := 8) (N := some 46) (v := ?_) (a' := ?_) #[true, true, true, true, true, true, true, true, true, false] rfl rfl (by kernel_rfl) (fun _ _ _ h => h) (Or.inl ⟨by rfl, ?_⟩) ?_ ?_
      rotate_left
      · intro w'
        go_simp
        with_reducible rfl
      rotate_left
      · simp only [Act.put, List.setIfInBounds_toArray, List.set_cons_zero, List.set_cons_succ, i64_w, i32_w]
        rfl
      refine pure_ (i := 9) (N := some 8) (v := ?_) (a' := ?_) #[true, true, true, true, true, true, true, true, true, true] rfl rfl (by kernel_rfl) (fun _ _ _ h => h) (Or.inl ⟨by rfl, ?_⟩) ?_ ?_
      rotate_left
      · intro w'
        go_simp
        with_reducible rfl
      rotate_left
      · simp only [Act.put, List.setIfInBounds_toArray, List.set_cons_zero, List.set_cons_succ, i64_w, i32_w]
        rfl
      refine done_ (by kernel_rfl) ?_
      go_wp2
      have hm1 : 1 ≤ min n (N - n) := by omega
      have hm2 : min n (N - n) ≤ N - n := Nat.min_le_right _ _
      obtain ⟨m, hm⟩ : ∃ m, min n (N - n) = m := ⟨_, rfl⟩
      rw [hm] at hm1 hm2 HG5 ⊢
      have hwr : wrap64 ((n : Int) + (m : Int)) = ((n + m : Nat) : Int) := by unfold wrap64; omega
      rw [hwr]
      go_roundw
      case rel => exact ⟨n + m, by omega, by omega, rfl, HG5, HB5⟩
      case measure => simp only [intOf]; rw [Int.toNat_natCast, Int.toNat_natCast]; omega
    · obtain rfl : N = n := by omega
      go_wp2
      go_ret
      have ho : wr.ownsRow w.heap.size 3 1 (.slice (some ⟨g, 0, none⟩) N N) N (nums .i64 (List.replicate N y)) := fill_own hgw (by omega) HG.out
      exact ⟨_, rfl, Kd.R_of_own (by rw [List.length_replicate]; exact ho) (fun _ _ => trivial), HBr.out⟩
theorem slices_Repeat_int_int.calls (A0 : Option Addr) (c0 : Nat) (l0 : List Int) (a1 : Int) (r : List Int) (w : World) (hr0 : Kd.C (Kd.int .i64) w A0 l0.length l0) (hc0 : l0.length ≤ c0) (h : slices_Repeat_int_int.f l0 a1 = some r) :
    Calls Try.prog 37 #[.slice A0 l0.length c0, .int .i64 a1] w fun e w' => ∃ v0_ : Value, e = .returned (v0_) ∧ Kd.R (Kd.int .i64) 3 w' w.heap.size (fun _ => True) v0_ r ∧ Below w.heap.size w w' := by
  unfold slices_Repeat_int_int.f at h
  split at h
  · rename_i hb
    obtain rfl := Option.some.inj h
    obtain ⟨h1, h2, h3⟩ := hb
    obtain ⟨ad, e, hc⟩ := Kd.at_int hr0 0 (by omega) (by omega)
    subst e
    have hz : ad.add 0 = ad := by cases ad with | mk b o p => cases p <;> rfl
    rw [Int.toNat_zero, hz] at hc
    have := repeat_walk ad c0 (rd l0 0) a1.toNat w hc (by omega) (by omega)
    rw [show ((a1.toNat : Nat) : Int) = a1 by omega] at this
    rw [h1]
    exact this
  · cases h

end Go.Proofs.Ytnfhfmimeaeoiaa.HM
