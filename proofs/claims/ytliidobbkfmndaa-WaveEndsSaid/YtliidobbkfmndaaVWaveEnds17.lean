/- WaveEnds: what the claim's theorem reaches of this seat's texts, part 17, put together by this project's own program (bale.py); conditions: those of each theorem. -/
import Derived.Test.YtliidobbkfmndaaVWaveEnds5
import Derived.Test.YtliidobbkfmndaaVWaveEnds10
import Derived.Test.YtliidobbkfmndaaVWaveEnds12
import Derived.Test.YtliidobbkfmndaaVWaveEnds15
import Derived.Test.YtliidobbkfmndaaVWaveEnds16
import Derived.Shelf.Abstract
import Derived.OwnWalk
namespace Go.Proofs.Ytliidobbkfmndaa.HW2
open Go.RowKit Go.Proofs.YtliidobbkfmndaaW.PrintWords Go.Proofs.YtliidobbkfmndaaW.PrintLast Go.Proofs.YtliidobbkfmndaaW.PrintMore
attribute [local go_sem] max2_int min2_int max_two min_two max_three min_three max_four min_four   -- for this text's walks alone
set_option linter.unusedVariables false
set_option linter.unusedSimpArgs false

/-! ### sackbutlaw19_WaveEnds: function 4, by hand -/
structure AsideE (p : Prop) : Prop where mk :: (out : p)
/-- Nothing was read, and this error told. -/
def nothing (e : Int) : Option (Int × Int × Bool × Int × Int × Int × Int × List (List Int) × Int) → Bool
  | some (a, b, c, d, f, g, h, l, r) => a == 0 && b == 0 && !c && d == 0 && f == 0 && g == 0 && h == 0 && l.isEmpty && r == e
  | none => false
theorem nothing_eq {e : Int} : ∀ {o : Option (Int × Int × Bool × Int × Int × Int × Int × List (List Int) × Int)}, nothing e o = true → o = some (0, 0, false, 0, 0, 0, 0, [], e)
  | some (a, b, c, d, f, g, h, l, r), hh => by
    simp only [nothing, Bool.and_eq_true, beq_iff_eq, Bool.not_eq_true', List.isEmpty_iff] at hh
    obtain ⟨⟨⟨⟨⟨⟨⟨⟨rfl, rfl⟩, rfl⟩, rfl⟩, rfl⟩, rfl⟩, rfl⟩, rfl⟩, rfl⟩ := hh
    rfl
/-- What reading a beginning, and the whole with a byte behind, must answer. -/
def endsB (k : Nat) (B : List Int) (m : Nat) : Bool := nothing 3 (wave_Read.f k (B.take m)) && nothing 4 (wave_Read.f k (B ++ [0]))
theorem C_pre {w : World} {A : Option Addr} {xs : List Int} (h : Kd.C (Kd.int .u8) w A xs.length xs) (m : Nat) (hm : m ≤ xs.length) : Kd.C (Kd.int .u8) w A (xs.take m).length (xs.take m) := by
  have hl : (xs.take m).length = m := by rw [List.length_take]; omega
  refine ⟨rfl, by have := h.2.1; omega, fun hn => ?_⟩
  obtain ⟨ad, e, hc⟩ := h.2.2 (by omega)
  refine ⟨ad, e, fun j p hj => hc j p ?_⟩
  rw [List.getElem?_take] at hj
  split at hj
  · exact hj
  · cases hj
set_option maxRecDepth 100000 in
set_option maxHeartbeats 2000000 in
theorem ends_skip (k : Nat) (a0_0 : Int) (a0_1 : Int) (a0_2 : Bool) (a0_3 : Int) (a0_4 : Int) (a0_5 : Int) (a0_6 : Int) (A1 : Option Addr) (c1 : Nat) (l1 : List (List Int)) (t : Int) (w : World) (hr1 : Kd.C (Kd.slice 3 (Kd.int .i64)) w A1 l1.length l1) (hc1 : l1.length ≤ c1) (haw : sackbutlaw19_awake.f k = some true) (hf : sackbutlaw19_few.f k l1 = some false) :
    Calls Try.prog 4 #[.agg #[.int .i64 a0_0, .int .i64 a0_1, .bool a0_2, .int .i64 a0_3, .int .i64 a0_4, .int .i64 a0_5, .int .i64 a0_6], .slice A1 l1.length c1, .int .u16 t] w fun e w' => e = .returned (.bool true) ∧ Below w.heap.size w w' := by
  have hu23 := Try.underlying23
  have HW := AsideE.mk (fun W => sackbutlaw19_awake.calls k true W haw)
  have HF := AsideE.mk (fun (W : World) (hW : Below w.heap.size w W) => sackbutlaw19_few.calls k A1 c1 l1 false W (Kd.C_below hr1 hW) hc1 hf)
  clear haw hf hr1 hc1
  generalize l1.length = n at *
  go_enter Try.func4, Try.ntmps4
  go_wp2_with (first | ((with_reducible refine gate_dst (N := 3) rfl ?_); refine box_event ?hg (N := 3) ?hd (cs := #[.int .i64 a0_0, .int .i64 a0_1, .bool a0_2, .int .i64 a0_3, .int .i64 a0_4, .int .i64 a0_5, .int .i64 a0_6]) (t := 23) ?hr ?_; (case hd => rfl); (case hg => rfl); (case hr => first | (go_simp; done) | (go_simp; rfl)); intro g1 hg1 wx hbox1 hb1; clear hg1; have HX0 := AsideE.mk hbox1; have HB0 := AsideE.mk hb1; have f0 := (blk_cell HX0.out 0).trans rfl; have f1 := (blk_cell HX0.out 1).trans rfl; have f2 := (blk_cell HX0.out 2).trans rfl; have f3 := (blk_cell HX0.out 3).trans rfl; have f4 := (blk_cell HX0.out 4).trans rfl; have f5 := (blk_cell HX0.out 5).trans rfl; have f6 := (blk_cell HX0.out 6).trans rfl; clear hbox1 hb1) | (go_at_call 5; have hX := HBF.out; clear hX; refine (HW.out _).mono ?_; rintro e w4 ⟨rfl, hd⟩; have HB4 := AsideE.mk (below_step HBF.out hd); clear hd) | (go_at_call 5; refine (HW.out _).mono ?_; rintro e w1 ⟨rfl, hd⟩; have HX1 := AsideE.mk (blk_below HX0.out hd); have HB1 := AsideE.mk (below_step HB0.out hd); clear f0 f1 f2 f3 f4 f5 f6 hd; have f0 := (blk_cell HX1.out 0).trans rfl; have f1 := (blk_cell HX1.out 1).trans rfl; have f2 := (blk_cell HX1.out 2).trans rfl; have f3 := (blk_cell HX1.out 3).trans rfl; have f4 := (blk_cell HX1.out 4).trans rfl; have f5 := (blk_cell HX1.out 5).trans rfl; have f6 := (blk_cell HX1.out 6).trans rfl) | (go_at_call 6; refine (HF.out _ HB1.out).mono ?_; rintro e w2 ⟨rfl, hd⟩; have HBF := AsideE.mk (below_step HB1.out hd.below); clear hd))
  go_ret
  exact ⟨rfl, HB4.out⟩
set_option maxRecDepth 100000 in
set_option maxHeartbeats 2000000 in
theorem ends_err (k : Nat) (a0_0 : Int) (a0_1 : Int) (a0_2 : Bool) (a0_3 : Int) (a0_4 : Int) (a0_5 : Int) (a0_6 : Int) (A1 : Option Addr) (c1 : Nat) (l1 : List (List Int)) (t : Int) (B : List Int) (z : Int) (w : World) (hr1 : Kd.C (Kd.slice 3 (Kd.int .i64)) w A1 l1.length l1) (hc1 : l1.length ≤ c1) (haw : sackbutlaw19_awake.f k = some true) (hf : sackbutlaw19_few.f k l1 = some true) (hw : sackbutref19_Write.f k a0_0 a0_1 a0_2 a0_3 a0_4 a0_5 a0_6 l1 = some (B, z)) (hz : ¬ z = 0) :
    Calls Try.prog 4 #[.agg #[.int .i64 a0_0, .int .i64 a0_1, .bool a0_2, .int .i64 a0_3, .int .i64 a0_4, .int .i64 a0_5, .int .i64 a0_6], .slice A1 l1.length c1, .int .u16 t] w fun e w' => e = .returned (.bool true) ∧ Below w.heap.size w w' := by
  have hu23 := Try.underlying23
  have HW := AsideE.mk (fun W => sackbutlaw19_awake.calls k true W haw)
  have HF := AsideE.mk (fun (W : World) (hW : Below w.heap.size w W) => sackbutlaw19_few.calls k A1 c1 l1 true W (Kd.C_below hr1 hW) hc1 hf)
  have HR := AsideE.mk (fun (W : World) (hW : Below w.heap.size w W) => sackbutref19_Write.calls k a0_0 a0_1 a0_2 a0_3 a0_4 a0_5 a0_6 A1 c1 l1 B z W (Kd.C_below hr1 hW) hc1 hw)
  have hz1 : (z == 0) = false := beq_eq_false_iff_ne.mpr hz
  have hz2 : (z != 0) = true := bne_iff_ne.mpr hz
  clear haw hf hr1 hc1 hw hz
  generalize l1.length = n at *
  go_enter Try.func4, Try.ntmps4
  go_wp2_with (first | ((with_reducible refine gate_dst (N := 3) rfl ?_); refine box_event ?hg (N := 3) ?hd (cs := #[.int .i64 a0_0, .int .i64 a0_1, .bool a0_2, .int .i64 a0_3, .int .i64 a0_4, .int .i64 a0_5, .int .i64 a0_6]) (t := 23) ?hr ?_; (case hd => rfl); (case hg => rfl); (case hr => first | (go_simp; done) | (go_simp; rfl)); intro g1 hg1 wx hbox1 hb1; clear hg1; have HX0 := AsideE.mk hbox1; have HB0 := AsideE.mk hb1; have f0 := (blk_cell HX0.out 0).trans rfl; have f1 := (blk_cell HX0.out 1).trans rfl; have f2 := (blk_cell HX0.out 2).trans rfl; have f3 := (blk_cell HX0.out 3).trans rfl; have f4 := (blk_cell HX0.out 4).trans rfl; have f5 := (blk_cell HX0.out 5).trans rfl; have f6 := (blk_cell HX0.out 6).trans rfl; clear hbox1 hb1) | (go_at_call 5; refine (HW.out _).mono ?_; rintro e w1 ⟨rfl, hd⟩; have HX1 := AsideE.mk (blk_below HX0.out hd); have HB1 := AsideE.mk (below_step HB0.out hd); clear f0 f1 f2 f3 f4 f5 f6 hd; have f0 := (blk_cell HX1.out 0).trans rfl; have f1 := (blk_cell HX1.out 1).trans rfl; have f2 := (blk_cell HX1.out 2).trans rfl; have f3 := (blk_cell HX1.out 3).trans rfl; have f4 := (blk_cell HX1.out 4).trans rfl; have f5 := (blk_cell HX1.out 5).trans rfl; have f6 := (blk_cell HX1.out 6).trans rfl) | (go_at_call 6; refine (HF.out _ HB1.out).mono ?_; rintro e w2 ⟨rfl, hd⟩; have HX2 := AsideE.mk (blk_below HX1.out hd.below); have HB2 := AsideE.mk (below_step HB1.out hd.below); clear f0 f1 f2 f3 f4 f5 f6 hd; have f0 := (blk_cell HX2.out 0).trans rfl; have f1 := (blk_cell HX2.out 1).trans rfl; have f2 := (blk_cell HX2.out 2).trans rfl; have f3 := (blk_cell HX2.out 3).trans rfl; have f4 := (blk_cell HX2.out 4).trans rfl; have f5 := (blk_cell HX2.out 5).trans rfl; have f6 := (blk_cell HX2.out 6).trans rfl) | (go_at_call 8; refine (HR.out _ HB2.out).mono ?_; rintro e w3 ⟨v7, rfl, ho, hd⟩; have HB3 := AsideE.mk (below_step HB2.out hd); obtain ⟨A7, c7, e7⟩ := Kd.R_slice ho; generalize B.length = m at e7; subst e7; clear hd ho))
  go_ret
  exact ⟨rfl, HB3.out⟩
set_option maxRecDepth 100000 in
set_option maxHeartbeats 4000000 in
theorem ends_main (k : Nat) (a0_0 : Int) (a0_1 : Int) (a0_2 : Bool) (a0_3 : Int) (a0_4 : Int) (a0_5 : Int) (a0_6 : Int) (A1 : Option Addr) (c1 : Nat) (l1 : List (List Int)) (t : Nat) (B : List Int) (w : World) (hr1 : Kd.C (Kd.slice 3 (Kd.int .i64)) w A1 l1.length l1) (hc1 : l1.length ≤ c1) (haw : sackbutlaw19_awake.f k = some true) (hf : sackbutlaw19_few.f k l1 = some true) (hw : sackbutref19_Write.f k a0_0 a0_1 a0_2 a0_3 a0_4 a0_5 a0_6 l1 = some (B, 0)) (ht : t < 65536) (hB1 : 1 ≤ B.length) (hB2 : B.length ≤ 1000000) (hE : endsB k B (t % B.length) = true) :
    Calls Try.prog 4 #[.agg #[.int .i64 a0_0, .int .i64 a0_1, .bool a0_2, .int .i64 a0_3, .int .i64 a0_4, .int .i64 a0_5, .int .i64 a0_6], .slice A1 l1.length c1, .int .u16 (t : Int)] w fun e w' => e = .returned (.bool true) ∧ Below w.heap.size w w' := by
  have hu23 := Try.underlying23
  have HW := AsideE.mk (fun W => sackbutlaw19_awake.calls k true W haw)
  have HF := AsideE.mk (fun (W : World) (hW : Below w.heap.size w W) => sackbutlaw19_few.calls k A1 c1 l1 true W (Kd.C_below hr1 hW) hc1 hf)
  have HR := AsideE.mk (fun (W : World) (hW : Below w.heap.size w W) => sackbutref19_Write.calls k a0_0 a0_1 a0_2 a0_3 a0_4 a0_5 a0_6 A1 c1 l1 B 0 W (Kd.C_below hr1 hW) hc1 hw)
  unfold endsB at hE
  rw [Bool.and_eq_true] at hE
  obtain ⟨hE1, hE2⟩ := hE
  obtain ⟨n, hn⟩ : ∃ n, B.length = n := ⟨_, rfl⟩
  obtain ⟨m, hm⟩ : ∃ m, t % n = m := ⟨_, rfl⟩
  have hmn : m < n := by rw [← hm]; exact Nat.mod_lt _ (by omega)
  rw [hn, hm] at hE1
  have htl : (B.take m).length = m := by rw [List.length_take]; omega
  have H1 := AsideE.mk (fun (A : Option Addr) (c : Nat) (W : World) (hC : Kd.C (Kd.int .u8) W A n B) (hc : m ≤ c) => (show Calls Try.prog 9 #[.slice A m c] W _ from by
    have h := wave_Read.calls k A c (B.take m) 0 0 false 0 0 0 0 [] 3 W (C_pre (by rw [hn]; exact hC) m (by omega)) (by omega) (nothing_eq hE1)
    rw [htl] at h
    exact h))
  have H2 := AsideE.mk (fun (A : Option Addr) (c : Nat) (W : World) (hC : Kd.C (Kd.int .u8) W A (B ++ [0]).length (B ++ [0])) (hc : n + 1 ≤ c) => (show Calls Try.prog 9 #[.slice A (n + 1) c] W _ from by
    have h := wave_Read.calls k A c (B ++ [0]) 0 0 false 0 0 0 0 [] 4 W hC (by rw [List.length_append, hn]; exact hc) (nothing_eq hE2)
    rw [List.length_append, hn] at h
    exact h))
  have HN := AsideE.mk hn
  rw [hn] at hB1 hB2
  have em : (t : Int) % (n : Int) = (m : Int) := by rw [← hm]; rfl
  have hinfo : ((Try.prog).info? 5).map (fun i => (i.zero, i.size, i.bytes)) = some (some (.int .u8 0), 1, 1) := by kernel_rfl
  have HI := AsideE.mk hinfo
  clear haw hf hr1 hc1 hw hE1 hE2 hn hm htl hinfo
  generalize l1.length = nl at *
  have ht0 : (0 : Int) ≤ (t : Int) := by omega
  have ht1 : (t : Int) < 65536 := by omega
  have hn0 : ¬ ((n : Int) = 0) := by omega
  have hn1 : (0 : Int) < (n : Int) := by omega
  have hm0 : (0 : Int) ≤ (m : Int) := by omega
  have hmz : (m : Int) < (n : Int) := by omega
  go_enter Try.func4, Try.ntmps4
  go_upto_region 6 with (first | ((with_reducible refine gate_dst (N := 3) rfl ?_); refine box_event ?hg (N := 3) ?hd (cs := #[.int .i64 a0_0, .int .i64 a0_1, .bool a0_2, .int .i64 a0_3, .int .i64 a0_4, .int .i64 a0_5, .int .i64 a0_6]) (t := 23) ?hr ?_; (case hd => rfl); (case hg => rfl); (case hr => first | (go_simp; done) | (go_simp; rfl)); intro g1 hg1 wx hbox1 hb1; clear hg1; have HX0 := AsideE.mk hbox1; have HB0 := AsideE.mk hb1; have f0 := (blk_cell HX0.out 0).trans rfl; have f1 := (blk_cell HX0.out 1).trans rfl; have f2 := (blk_cell HX0.out 2).trans rfl; have f3 := (blk_cell HX0.out 3).trans rfl; have f4 := (blk_cell HX0.out 4).trans rfl; have f5 := (blk_cell HX0.out 5).trans rfl; have f6 := (blk_cell HX0.out 6).trans rfl; clear hbox1 hb1) | (go_at_call 5; refine (HW.out _).mono ?_; rintro e w1 ⟨rfl, hd⟩; have HX1 := AsideE.mk (blk_below HX0.out hd); have HB1 := AsideE.mk (below_step HB0.out hd); clear f0 f1 f2 f3 f4 f5 f6 hd; have f0 := (blk_cell HX1.out 0).trans rfl; have f1 := (blk_cell HX1.out 1).trans rfl; have f2 := (blk_cell HX1.out 2).trans rfl; have f3 := (blk_cell HX1.out 3).trans rfl; have f4 := (blk_cell HX1.out 4).trans rfl; have f5 := (blk_cell HX1.out 5).trans rfl; have f6 := (blk_cell HX1.out 6).trans rfl) | (go_at_call 6; refine (HF.out _ HB1.out).mono ?_; rintro e w2 ⟨rfl, hd⟩; have HX2 := AsideE.mk (blk_below HX1.out hd.below); have HB2 := AsideE.mk (below_step HB1.out hd.below); clear f0 f1 f2 f3 f4 f5 f6 hd; have f0 := (blk_cell HX2.out 0).trans rfl; have f1 := (blk_cell HX2.out 1).trans rfl; have f2 := (blk_cell HX2.out 2).trans rfl; have f3 := (blk_cell HX2.out 3).trans rfl; have f4 := (blk_cell HX2.out 4).trans rfl; have f5 := (blk_cell HX2.out 5).trans rfl; have f6 := (blk_cell HX2.out 6).trans rfl) | (go_at_call 8; refine (HR.out _ HB2.out).mono ?_; rintro e w3 ⟨v7, rfl, ho, hd⟩; have HB3 := AsideE.mk (below_step HB2.out hd); have HO := AsideE.mk (Kd.R_lower ho (below_size HB2.out)); obtain ⟨A7, c7, e7⟩ := Kd.R_slice ho; rw [HN.out] at e7; subst e7; clear hd ho))
  clear f0 f1 f2 f3 f4 f5 f6
  obtain ⟨q1, q2, q3⟩ := Kd.R_reads' HO.out
  have hmc : (m : Int) ≤ (c7 : Int) := by omega
  have hmc2 : m ≤ c7 := by omega
  rw [HN.out] at q3
  have H1c := AsideE.mk (H1.out A7 c7 w3 q3 hmc2)
  clear q1 q2 q3
  go_upto_region 7 with (go_at_call 9; refine (H1c.out).mono ?_; rintro e w4 ⟨v8, rfl, hs, hd⟩; have HB4 := AsideE.mk (below_step HB3.out hd); have HO4 := AsideE.mk (Kd.R_below HO.out hd); obtain ⟨A8, c8, e8⟩ := Kd.S_slice hs; subst e8; clear hd hs)
  have hal := AsideE.mk (Kd.R_alloc HO4.out (.cells #[.int .i64 0, .int .i64 0, .bool false, .int .i64 0, .int .i64 0, .int .i64 0, .int .i64 0] 23))
  have hab := AsideE.mk (below_alloc HB4.out (.cells #[.int .i64 0, .int .i64 0, .bool false, .int .i64 0, .int .i64 0, .int .i64 0, .int .i64 0] 23))
  generalize hq : w4.alloc (.cells #[.int .i64 0, .int .i64 0, .bool false, .int .i64 0, .int .i64 0, .int .i64 0, .int .i64 0] 23) = w5 at hal hab ⊢
  generalize w4.heap.size = g4
  clear hq H1c HO4 HB4 HO HB3 HX0 HX1 HX2 HB0 HB1 HB2
  have hl0 : (([] : List Int).length + n) * 1 ≤ 140737488355328 := by simp; omega
  have hl1 : (B.length + 1) * 1 ≤ 140737488355328 := by rw [HN.out]; omega
  have HL0 := AsideE.mk hl0
  have HL1 := AsideE.mk hl1
  clear hl0 hl1 em ht0 ht1 hn0 hn1 hm0 hmz hmc hmc2 hB1
  go_wp2_with (first | ((with_reducible refine gate_dst (N := 44) rfl ?_); refine Kd.R_lit (Kd.int .u8) (w0 := w) w.heap.size 5 ?hg (N := 44) ?hd (xs := ([] : List Int)) (inner := []) (ok := fun _ => True) (okp := fun _ => True) ?hr ?hp (fun _ hk => hk) trivial hab.out (below_size hab.out) (by simp) ?_; (case hd => rfl); (case hg => rfl); (case hr => first | (go_simp; done) | (go_simp; rfl)); (case hp => exact Reps.none _ _); intro v44 w6 ho6 hb6 hg6 hn6; have HO6 := AsideE.mk ho6; have HB6 := AsideE.mk hb6; have HA6 := AsideE.mk (Kd.R_grown hal.out hg6 (fun _ _ => by simp)); clear ho6 hb6 hg6 hn6) | ((with_reducible refine gate_builtin (b := .append) (xs := #[.tmp 44, .tmp 45]) rfl ?_); at_builtin; refine Kd.R_append_rows (Kd.int .u8) (w0 := w) w.heap.size rfl (.tmp 44) (.tmp 45) 27 5 (.int .u8 0) 1 rfl Try.underlying27 HI.out rfl (by decide) (by decide) v44 [] B A7 n c7 (fun _ => True) (fun _ => False) rfl rfl HO6.out (by have h := (Kd.R_reads' HA6.out).2.2; rw [HN.out] at h; exact h) (fun _ _ h => h) (fun _ h => h.elim) (fun _ _ => trivial) HB6.out (below_size HB6.out) HL0.out ?_; intro v46 w7 ho7 hb7 hg7 hat7; have HO7 := AsideE.mk (show Kd.R (Kd.int .u8) 5 w7 w.heap.size (fun _ => True) v46 B from ho7); have HB7 := AsideE.mk hb7; clear ho7 hb7 hg7 hat7) | ((with_reducible refine gate_builtin (b := .append) (xs := #[.tmp 46, .tmp 47]) rfl ?_); at_builtin; refine Kd.R_append (Kd.int .u8) (w0 := w) w.heap.size rfl (.tmp 46) (.tmp 47) 27 5 (.int .u8 0) 1 rfl Try.underlying27 HI.out rfl (by decide) (by decide) v46 B 0 [.int .u8 0] (fun _ => True) (fun _ => False) rfl rfl (show Kd.M (Kd.int .u8) _ _ _ 0 [.int .u8 0] from rfl) (fun _ h => h.elim) (fun _ _ => trivial) HO7.out HB7.out (below_size HB7.out) HL1.out ?_; intro v48 w8 ho8 hb8 hg8 hat8; have HO8 := AsideE.mk ho8; have HB8 := AsideE.mk hb8; obtain ⟨A48, c48, e48⟩ := Kd.R_slice ho8; rw [List.length_append, HN.out] at e48; replace e48 : v48 = .slice A48 (n + 1) c48 := e48; subst e48; clear ho8 hb8 hg8 hat8) | (go_at_call 9; refine (H2.out A48 c48 w8 ((Kd.R_reads' HO8.out).2.2) (Kd.R_reads' HO8.out).2.1).mono ?_; rintro e w9 ⟨v50, rfl, hs, hd⟩; have HB9 := AsideE.mk (below_step HB8.out hd); obtain ⟨A50, c50, e50⟩ := Kd.S_slice hs; subst e50; clear hd hs))
  go_ret
  exact ⟨rfl, by repeat (first | exact HB9.out | apply below_alloc)⟩
def sackbutlaw19_WaveEnds.f (k : Nat) (a0_0 : Int) (a0_1 : Int) (a0_2 : Bool) (a0_3 : Int) (a0_4 : Int) (a0_5 : Int) (a0_6 : Int) (l1 : List (List Int)) (a2 : Int) : Option Bool :=
  if sackbutlaw19_awake.f k = some true ∧ 0 ≤ a2 ∧ a2 < 65536 then
    (sackbutlaw19_few.f k l1).bind fun b => if b = true then
      (sackbutref19_Write.f k a0_0 a0_1 a0_2 a0_3 a0_4 a0_5 a0_6 l1).bind fun r => if r.2 = 0 then (if 1 ≤ r.1.length ∧ r.1.length ≤ 1000000 ∧ endsB k r.1 (a2.toNat % r.1.length) = true then some true else none) else some true
    else some true
  else none
theorem sackbutlaw19_WaveEnds.calls (k : Nat) (a0_0 : Int) (a0_1 : Int) (a0_2 : Bool) (a0_3 : Int) (a0_4 : Int) (a0_5 : Int) (a0_6 : Int) (A1 : Option Addr) (c1 : Nat) (l1 : List (List Int)) (a2 : Int) (r : Bool) (w : World) (hr1 : Kd.C (Kd.slice 3 (Kd.int .i64)) w A1 l1.length l1) (hc1 : l1.length ≤ c1) (h : sackbutlaw19_WaveEnds.f k a0_0 a0_1 a0_2 a0_3 a0_4 a0_5 a0_6 l1 a2 = some r) :
    Calls Try.prog 4 #[.agg #[.int .i64 a0_0, .int .i64 a0_1, .bool a0_2, .int .i64 a0_3, .int .i64 a0_4, .int .i64 a0_5, .int .i64 a0_6], .slice A1 l1.length c1, .int .u16 a2] w fun e w' => e = .returned (.bool r) ∧ Below w.heap.size w w' := by
  unfold sackbutlaw19_WaveEnds.f at h
  split at h
  · rename_i hh
    obtain ⟨haw, h0, h1⟩ := hh
    obtain ⟨b, hb, h2⟩ := Option.bind_eq_some_iff.mp h
    cases b with
    | false =>
      rw [if_neg (by decide)] at h2
      obtain rfl := Option.some.inj h2
      exact ends_skip k a0_0 a0_1 a0_2 a0_3 a0_4 a0_5 a0_6 A1 c1 l1 a2 w hr1 hc1 haw hb
    | true =>
      rw [if_pos rfl] at h2
      obtain ⟨⟨B, z⟩, hw, h3⟩ := Option.bind_eq_some_iff.mp h2
      by_cases hz : z = 0
      · subst hz
        rw [if_pos rfl] at h3
        split at h3
        · rename_i hc
          obtain rfl := Option.some.inj h3
          have := ends_main k a0_0 a0_1 a0_2 a0_3 a0_4 a0_5 a0_6 A1 c1 l1 a2.toNat B w hr1 hc1 haw hb hw (by omega) hc.1 hc.2.1 hc.2.2
          rwa [show ((a2.toNat : Nat) : Int) = a2 by omega] at this
        · cases h3
      · rw [if_neg hz] at h3
        obtain rfl := Option.some.inj h3
        exact ends_err k a0_0 a0_1 a0_2 a0_3 a0_4 a0_5 a0_6 A1 c1 l1 a2 B z w hr1 hc1 haw hb hw hz
  · cases h

end Go.Proofs.Ytliidobbkfmndaa.HW2

namespace Go.Proofs.Ytliidobbkfmndaa.Pure
open Go Go.RowKit Go.Proofs.Ytliidobbkfmndaa.HW2 Go.Proofs.YtliidobbkfmndaaW.PrintWords Go.Proofs.YtliidobbkfmndaaW.PrintLast
/-- WaveEnds: the law in numbers and lists alone. -/
def PureGWaveEnds : Prop := ∀ (a0_0 : Int) (a0_1 : Int) (a0_2 : Bool) (a0_3 : Int) (a0_4 : Int) (a0_5 : Int) (a0_6 : Int) (l1 : List (List (Int))) (a2 : Int), (Lit.int .i64 a0_0).wf = true → (Lit.int .i64 a0_1).wf = true → (Lit.int .i64 a0_3).wf = true → (Lit.int .i64 a0_4).wf = true → (Lit.int .i64 a0_5).wf = true → (Lit.int .i64 a0_6).wf = true → l1.length ≤ 9223372036854775807 → (∀ x ∈ l1, (∀ y ∈ x, (Lit.int .i64 y).wf = true)) → (Lit.int .u16 a2).wf = true → ∃ k, sackbutlaw19_WaveEnds.f k a0_0 a0_1 a0_2 a0_3 a0_4 a0_5 a0_6 l1 a2 = some true
end Go.Proofs.Ytliidobbkfmndaa.Pure

namespace Go.Proofs.Ytliidobbkfmndaa.WaveSpec
open Go Go.RowKit Go.Proofs.Ytliidobbkfmndaa.HW2 Go.Proofs.Ytliidobbkfmndaa.PackSpec Go.Proofs.Ytliidobbkfmndaa.PackDoc Go.Proofs.YtliidobbkfmndaaW.PrintWords Go.Proofs.YtliidobbkfmndaaW.PrintLast
set_option linter.unusedSimpArgs false

/-! ### Numbers of bytes, the lowest first -/
theorem low_loop (m : Nat) (hm : m ≤ 8) : ∀ (d K i : Nat) (n : Int) (acc : List Int), i + d = m → d < K → acc.length + d ≤ 1000 → wave_low.l0 K n acc (m : Int) (i : Int) = some (acc ++ leb d n) := by
  intro d
  induction d with
  | zero =>
    intro K i n acc hi hK _
    obtain ⟨K, rfl⟩ : ∃ m, K = m + 1 := ⟨K - 1, by omega⟩
    simp only [wave_low.l0]
    rw [if_neg (by omega)]
    simp [leb]
  | succ d ih =>
    intro K i n acc hi hK hl
    obtain ⟨K, rfl⟩ : ∃ m, K = m + 1 := ⟨K - 1, by omega⟩
    simp only [wave_low.l0]
    rw [if_pos (by omega), if_pos (by omega), wrap_id (by omega) (by omega)]
    have := ih K (i + 1) (n / 256) (acc ++ [n % 256]) (by omega) (by omega) (by rw [List.length_append, List.length_singleton]; omega)
    rw [show ((i + 1 : Nat) : Int) = (i : Int) + 1 by omega] at this
    rw [this]
    simp [leb]
theorem low_spec (n : Int) (m K : Nat) (hm : m ≤ 8) (hK : m < K) : wave_low.f K n (m : Int) = some (leb m n) := by
  have := low_loop m hm m K 0 n [] (by omega) hK (by simp; omega)
  simpa [wave_low.f] using this
theorem doclow_loop (m : Nat) (hm : m ≤ 8) : ∀ (d K i : Nat) (n : Int) (acc : List Int), i + d = m → d < K → acc.length + d ≤ 1000 → 0 ≤ n → n < 9223372036854775808 → sackbutref19_Low.l0 K n (m : Int) acc (i : Int) = some (acc ++ leb d n) := by
  intro d
  induction d with
  | zero =>
    intro K i n acc hi hK _ _ _
    obtain ⟨K, rfl⟩ : ∃ m, K = m + 1 := ⟨K - 1, by omega⟩
    simp only [sackbutref19_Low.l0]
    rw [if_neg (by omega)]
    simp [leb]
  | succ d ih =>
    intro K i n acc hi hK hl h0 h1
    obtain ⟨K, rfl⟩ : ∃ m, K = m + 1 := ⟨K - 1, by omega⟩
    simp only [sackbutref19_Low.l0]
    have e1 : Int.tdiv n 256 = n / 256 := Int.tdiv_eq_ediv_of_nonneg h0
    have e2 : Int.tmod n 256 % 256 = n % 256 := by rw [Int.tmod_eq_emod_of_nonneg h0]; omega
    rw [if_pos (by omega), if_pos (by omega), e1, e2, wrap_id (by omega) (by omega), wrap_id (by omega) (by omega)]
    have := ih K (i + 1) (n / 256) (acc ++ [n % 256]) (by omega) (by omega) (by rw [List.length_append, List.length_singleton]; omega) (by omega) (by omega)
    rw [show ((i + 1 : Nat) : Int) = (i : Int) + 1 by omega] at this
    rw [this]
    simp [leb]
theorem doclow_spec (n : Int) (m K : Nat) (hm : m ≤ 8) (hK : m < K) (h0 : 0 ≤ n) (h1 : n < 9223372036854775808) : sackbutref19_Low.f K n (m : Int) = some (leb m n) := by
  have := doclow_loop m hm m K 0 n [] (by omega) hK (by simp; omega) h0 h1
  simpa [sackbutref19_Low.f] using this
theorem numG_leb : ∀ (m : Nat) (n : Int), m ≤ 4 → 0 ≤ n → n < 256 ^ m → numG (leb m n) = n := by
  intro m
  induction m with
  | zero => intro n _ h0 h; have : n = 0 := by have : (256 : Int) ^ 0 = 1 := rfl; omega
            subst this; rfl
  | succ m ih =>
    intro n hm h0 h
    have hp : (256 : Int) ^ (m + 1) = 256 ^ m * 256 := Int.pow_succ ..
    have hq : (256 : Int) ^ m ≤ 16777216 := by
      have : m = 0 ∨ m = 1 ∨ m = 2 ∨ m = 3 := by omega
      rcases this with rfl | rfl | rfl | rfl <;> decide
    have h1 := ih (n / 256) (by omega) (by omega) (by omega)
    show Go.bits .or .i64 (wrap64 (numG (leb m (n / 256)) * 256)) (wrap64 (n % 256)) = n
    rw [h1, wrap_id (x := n / 256 * 256) (by omega) (by omega), wrap_id (x := n % 256) (by omega) (by omega), or_byte _ _ (by omega) (by omega) ⟨by omega, by omega⟩]
    omega
theorem number_leb (m : Nat) (n : Int) (hm : m ≤ 4) (h0 : 0 ≤ n) (h : n < 256 ^ m) : wave_number.f (leb m n) = some n := by
  unfold wave_number.f
  rw [leb_length, if_pos (by omega), numG_leb m n hm h0 h]

/-! ### Which configurations may be -/
def GoodC (a0 a1 a3 a4 a5 a6 : Int) : Prop := (1 ≤ a0 ∧ a0 ≤ 8) ∧ GoodF a1 ∧ (1 ≤ a3 ∧ a3 ≤ 16777215) ∧ (16 ≤ a4 ∧ a4 ≤ 1024) ∧ Int.tmod a4 16 = 0 ∧ (0 ≤ a5 ∧ a5 ≤ 255) ∧ (0 ≤ a6 ∧ a6 ≤ 1048576)
instance (a0 a1 a3 a4 a5 a6 : Int) : Decidable (GoodC a0 a1 a3 a4 a5 a6) := by unfold GoodC; infer_instance
theorem within_spec (x lo hi : Int) : head_within.f x lo hi = some (decide (lo ≤ x ∧ x ≤ hi)) := by
  unfold head_within.f
  by_cases h : x ≥ lo
  · rw [if_pos h]; congr 1; rw [decide_eq_decide]; omega
  · rw [if_neg h]; congr 1; symm; rw [decide_eq_false_iff_not]; omega
theorem ite_and {p : Prop} [Decidable p] {o : Option Bool} {q : Prop} [Decidable q] (h : p → o = some (decide q)) : (if decide p = true then o else some false) = some (decide (p ∧ q)) := by
  by_cases hp : p
  · rw [if_pos (decide_eq_true hp), h hp]; congr 1; rw [decide_eq_decide]; exact ⟨fun x => ⟨hp, x⟩, fun x => x.2⟩
  · rw [if_neg (by simpa using hp)]; congr 1; symm; rw [decide_eq_false_iff_not]; exact fun x => hp x.1
theorem ite_and' {p : Prop} [Decidable p] {o : Option Bool} {q : Prop} [Decidable q] (h : p → o = some (decide q)) : (if p then o else some false) = some (decide (p ∧ q)) := by
  by_cases hp : p
  · rw [if_pos hp, h hp]; congr 1; rw [decide_eq_decide]; exact ⟨fun x => ⟨hp, x⟩, fun x => x.2⟩
  · rw [if_neg hp]; congr 1; symm; rw [decide_eq_false_iff_not]; exact fun x => hp x.1
theorem head_good (a0 a1 : Int) (a2 : Bool) (a3 a4 a5 a6 : Int) : head_Good.f a0 a1 a2 a3 a4 a5 a6 = some (decide (GoodC a0 a1 a3 a4 a5 a6)) := by
  unfold head_Good.f GoodC
  rw [within_spec, Option.bind_some]
  refine ite_and (fun _ => ?_)
  unfold head_Form.f
  rw [Option.bind_some, good_form, Option.bind_some]
  refine ite_and (fun _ => ?_)
  rw [within_spec, Option.bind_some]
  refine ite_and (fun _ => ?_)
  rw [within_spec, Option.bind_some]
  refine ite_and (fun _ => ?_)
  refine ite_and' (fun _ => ?_)
  rw [within_spec, Option.bind_some]
  refine ite_and (fun _ => ?_)
  rw [within_spec, Option.bind_some]
theorem ref_good (a0 a1 : Int) (a2 : Bool) (a3 a4 a5 a6 : Int) : sackbutref16_Good.f a0 a1 a2 a3 a4 a5 a6 = some (decide (GoodC a0 a1 a3 a4 a5 a6)) := by
  unfold sackbutref16_Good.f
  congr 1
  rw [Bool.eq_iff_iff, decide_eq_true_iff]
  unfold GoodC GoodF
  generalize Int.tmod a4 16 = t
  simp only [Bool.and_eq_true, Bool.or_eq_true, Bool.not_eq_true', decide_eq_true_eq, decide_eq_false_iff_not, beq_iff_eq]
  omega

/-! ### A wave's first bytes -/
def headW (a0 a1 a3 d : Int) : List Int := [82, 73, 70, 70] ++ leb 4 (36 + d) ++ [87, 65, 86, 69, 102, 109, 116, 32] ++ leb 4 16 ++ leb 2 1 ++ leb 2 a0 ++ leb 4 a3 ++ leb 4 (a3 * (a0 * (nbytes a1 : Int))) ++ leb 2 (a0 * (nbytes a1 : Int)) ++ leb 2 a1 ++ [100, 97, 116, 97] ++ leb 4 d
theorem headW_length (a0 a1 a3 d : Int) : (headW a0 a1 a3 d).length = 44 := by
  unfold headW
  simp [leb_length]
theorem row_nat {a0 a1 : Int} (h0 : 1 ≤ a0 ∧ a0 ≤ 8) (G : GoodF a1) : wrap64 (Int.tdiv (wrap64 (a0 * a1)) 8) = a0 * (nbytes a1 : Int) ∧ wrap64 (a0 * wrap64 (Int.tdiv a1 8)) = a0 * (nbytes a1 : Int) ∧ 1 ≤ a0 * (nbytes a1 : Int) ∧ a0 * (nbytes a1 : Int) ≤ 24 := by
  have : a0 = 1 ∨ a0 = 2 ∨ a0 = 3 ∨ a0 = 4 ∨ a0 = 5 ∨ a0 = 6 ∨ a0 = 7 ∨ a0 = 8 := by omega
  rcases G with rfl | rfl | rfl <;> rcases this with rfl | rfl | rfl | rfl | rfl | rfl | rfl | rfl <;> decide +kernel
theorem mul_small {x r : Int} (h0 : 0 ≤ x) (h1 : x ≤ 16777215) (h2 : 0 ≤ r) (h3 : r ≤ 24) : 0 ≤ x * r ∧ x * r ≤ 402653160 := by
  refine ⟨Int.mul_nonneg h0 h2, ?_⟩
  exact Int.le_trans (Int.mul_le_mul h1 h3 h2 (by omega)) (by omega)
theorem first_spec {a0 a1 a3 : Int} (h0 : 1 ≤ a0 ∧ a0 ≤ 8) (G : GoodF a1) (h3 : 1 ≤ a3 ∧ a3 ≤ 16777215) (a2 : Bool) (a4 a5 a6 d : Int) (hd : 0 ≤ d ∧ d ≤ 1000000000) (K : Nat) (hK : 10 ≤ K) : wave_first.f K a0 a1 a2 a3 a4 a5 a6 d = some (headW a0 a1 a3 d) := by
  obtain ⟨e1, _, e3, e4⟩ := row_nat h0 G
  have hm := mul_small (by omega : 0 ≤ a3) h3.2 (by omega : 0 ≤ a0 * (nbytes a1 : Int)) e4
  have L4 : ∀ n, wave_low.f K n 4 = some (leb 4 n) := fun n => low_spec n 4 K (by omega) (by omega)
  have L2 : ∀ n, wave_low.f K n 2 = some (leb 2 n) := fun n => low_spec n 2 K (by omega) (by omega)
  unfold wave_first.f wave_Row.f
  simp only [L4, L2, Option.bind_some, e1]
  rw [wrap_id (x := 36 + d) (by omega) (by omega), wrap_id (x := a3 * (a0 * (nbytes a1 : Int))) (by omega) (by omega)]
  unfold slices_Concat_byte_byte.f headW
  rw [if_pos ?_]
  · congr 1
  · refine ⟨by simp, fun x hx => ?_⟩
    simp only [List.mem_cons, List.not_mem_nil, or_false] at hx
    rcases hx with rfl | rfl | rfl | rfl | rfl | rfl | rfl | rfl | rfl | rfl | rfl | rfl <;> simp [leb_length]
theorem docfirst_spec {a0 a1 a3 : Int} (h0 : 1 ≤ a0 ∧ a0 ≤ 8) (G : GoodF a1) (h3 : 1 ≤ a3 ∧ a3 ≤ 16777215) (a2 : Bool) (a4 a5 a6 d : Int) (hd : 0 ≤ d ∧ d ≤ 1000000000) (K : Nat) (hK : 10 ≤ K) : sackbutref19_First.f K a0 a1 a2 a3 a4 a5 a6 d = some (headW a0 a1 a3 d) := by
  obtain ⟨_, e2, e3, e4⟩ := row_nat h0 G
  have hm := mul_small (by omega : 0 ≤ a3) h3.2 (by omega : 0 ≤ a0 * (nbytes a1 : Int)) e4
  have hf : 0 ≤ a1 ∧ a1 ≤ 24 := by rcases G with rfl | rfl | rfl <;> omega
  have L4 : ∀ n, 0 ≤ n → n < 9223372036854775808 → sackbutref19_Low.f K n 4 = some (leb 4 n) := fun n a b => doclow_spec n 4 K (by omega) (by omega) a b
  have L2 : ∀ n, 0 ≤ n → n < 9223372036854775808 → sackbutref19_Low.f K n 2 = some (leb 2 n) := fun n a b => doclow_spec n 2 K (by omega) (by omega) a b
  unfold sackbutref19_First.f
  rw [e2, wrap_id (x := 36 + d) (by omega) (by omega), wrap_id (x := a3 * (a0 * (nbytes a1 : Int))) (by omega) (by omega)]
  rw [L4 (36 + d) (by omega) (by omega), Option.bind_some, L4 16 (by omega) (by omega), Option.bind_some, L2 1 (by omega) (by omega), Option.bind_some, L2 a0 (by omega) (by omega), Option.bind_some, L4 a3 (by omega) (by omega), Option.bind_some, L4 (a3 * (a0 * (nbytes a1 : Int))) (by omega) (by omega), Option.bind_some, L2 (a0 * (nbytes a1 : Int)) (by omega) (by omega), Option.bind_some, L2 a1 (by omega) (by omega), Option.bind_some, L4 d (by omega) (by omega), Option.bind_some]
  rw [if_pos ?_]
  · rfl
  · refine ⟨fun h => ?_, by simp [leb_length]⟩
    have := congrArg List.length h
    rw [leb_length] at this
    cases this
/-! ### Bytes of 8 bits turned -/
def turnW (a1 : Int) (B : List Int) : List Int := if a1 = 8 then B.map (fun x => (x + 128) % 256) else B
theorem xor_byte (x : Int) (h : 0 ≤ x ∧ x < 256) : xor8 x = (x + 128) % 256 := by
  have : ∀ n : Fin 256, xor8 ((n.val : Nat) : Int) = (((n.val : Nat) : Int) + 128) % 256 := by decide +kernel
  have h2 := this ⟨x.toNat, by omega⟩
  rwa [show ((x.toNat : Nat) : Int) = x by omega] at h2
theorem turn_spec (a0 a1 : Int) (a2 : Bool) (a3 a4 a5 a6 : Int) (B : List Int) (hB : Bytes_ B) (hl : B.length ≤ 1000000000) : wave_turn.f a0 a1 a2 a3 a4 a5 a6 B = some (turnW a1 B) := by
  unfold wave_turn.f turnW
  rw [if_pos hl]
  congr 1
  split
  · exact List.map_congr_left (fun x hx => xor_byte x (hB x hx))
  · rfl
theorem turn_length (a1 : Int) (B : List Int) : (turnW a1 B).length = B.length := by unfold turnW; split <;> simp
theorem doc_turn (a0 a1 : Int) (a2 : Bool) (a3 a4 a5 a6 : Int) (B : List Int) (hl : B.length ≤ 1000000) : ∀ (d K i : Nat), i + d = B.length → d + 1 < K → ∃ K', K < K' + d + 2 ∧ sackbutref19_Write.l1 K ((turnW a1 B).take i ++ B.drop i) (B.length : Int) (i : Int) a0 a1 a2 a3 a4 a5 a6 = (sackbutref19_First.f K' a0 a1 a2 a3 a4 a5 a6 (B.length : Int)).bind fun t => if t.length + B.length < 140737488355328 then some (t ++ turnW a1 B, 0) else none := by
  intro d
  induction d with
  | zero =>
    intro K i hi hK
    obtain ⟨K, rfl⟩ : ∃ m, K = m + 1 := ⟨K - 1, by omega⟩
    refine ⟨K, by omega, ?_⟩
    simp only [sackbutref19_Write.l1]
    rw [if_neg (by omega), List.drop_eq_nil_of_le (by omega), List.append_nil, List.take_of_length_le (by rw [turn_length]; omega), turn_length]
  | succ d ih =>
    intro K i hi hK
    obtain ⟨K, rfl⟩ : ∃ m, K = m + 1 := ⟨K - 1, by omega⟩
    have hil : i < B.length := by omega
    have hlen : ((turnW a1 B).take i ++ B.drop i).length = B.length := by rw [List.length_append, List.length_take, List.length_drop, turn_length]; omega
    obtain ⟨K', hK', e⟩ := ih K (i + 1) (by omega) (by omega)
    rw [show ((i + 1 : Nat) : Int) = (i : Int) + 1 by omega] at e
    refine ⟨K', by omega, ?_⟩
    simp only [sackbutref19_Write.l1]
    rw [if_pos (by omega), hlen, wrap_id (x := (i : Int) + 1) (by omega) (by omega)]
    by_cases h8 : a1 = 8
    · rw [if_pos h8, if_pos (by omega), if_pos (by omega)]
      have hr : rd ((turnW a1 B).take i ++ B.drop i) (i : Int) = B[i] := by
        rw [rd_nat _ i (by omega), List.getElem_append_right (by rw [List.length_take, turn_length]; omega)]
        simp only [List.length_take, turn_length, Nat.min_eq_left (by omega : i ≤ B.length), Nat.sub_self, List.getElem_drop, Nat.add_zero]
      have hs : ((turnW a1 B).take i ++ B.drop i).set (i : Int).toNat ((B[i] + 128) % 256) = (turnW a1 B).take (i + 1) ++ B.drop (i + 1) := by
        have h1 : ((turnW a1 B).take i).length = i := by rw [List.length_take, turn_length]; omega
        rw [Int.toNat_natCast, List.set_append_right _ _ (by omega), h1, Nat.sub_self, List.drop_eq_getElem_cons hil, List.set_cons_zero, List.take_succ_eq_append_getElem (by rw [turn_length]; exact hil)]
        have h2 : (turnW a1 B)[i]'(by rw [turn_length]; exact hil) = (B[i] + 128) % 256 := by
          have : turnW a1 B = B.map (fun x => (x + 128) % 256) := by unfold turnW; rw [if_pos h8]
          simp only [this, List.getElem_map]
        rw [h2, List.append_assoc]
        rfl
      rw [hr, hs]
      exact e
    · rw [if_neg h8]
      have ht : turnW a1 B = B := by unfold turnW; rw [if_neg h8]
      rw [ht, List.take_append_drop] at e ⊢
      exact e
end Go.Proofs.Ytliidobbkfmndaa.WaveSpec

namespace Go.Proofs.Ytliidobbkfmndaa.WaveSpec
open Go Go.RowKit Go.Proofs.Ytliidobbkfmndaa.HW2 Go.Proofs.Ytliidobbkfmndaa.PackSpec Go.Proofs.Ytliidobbkfmndaa.PackDoc Go.Proofs.YtliidobbkfmndaaW.PrintWords Go.Proofs.YtliidobbkfmndaaW.PrintLast
set_option linter.unusedSimpArgs false
theorem few_loop (l : List (List Int)) (hl : l.length ≤ 9223372036854775807) : ∀ (d K i : Nat), i + d = l.length → d < K →
    ∃ b, sackbutlaw19_few.l0 K l l (l.length : Int) (i : Int) = some b ∧ (b = true → l.length ≤ 10 ∧ ∀ x ∈ l.drop i, x.length ≤ 100) := by
  intro d
  induction d with
  | zero =>
    intro K i hi hK
    obtain ⟨K, rfl⟩ : ∃ m, K = m + 1 := ⟨K - 1, by omega⟩
    simp only [sackbutlaw19_few.l0]
    rw [if_neg (by omega)]
    refine ⟨_, rfl, fun h => ⟨by have := of_decide_eq_true h; omega, ?_⟩⟩
    rw [List.drop_eq_nil_of_le (by omega)]; simp
  | succ d ih =>
    intro K i hi hK
    obtain ⟨K, rfl⟩ : ∃ m, K = m + 1 := ⟨K - 1, by omega⟩
    have hi' : i < l.length := by omega
    simp only [sackbutlaw19_few.l0]
    rw [if_pos (by omega), if_pos (by omega), if_pos (by omega), rd1_nat l i hi']
    by_cases h2 : ((l[i].length : Int) > 100)
    · rw [if_pos h2]; exact ⟨false, rfl, by simp⟩
    · rw [if_neg h2, wrap_id (by omega) (by omega)]
      obtain ⟨b, e, hb⟩ := ih K (i + 1) (by omega) (by omega)
      rw [show ((i + 1 : Nat) : Int) = (i : Int) + 1 by omega] at e
      refine ⟨b, e, fun h => ⟨(hb h).1, ?_⟩⟩
      rw [List.drop_eq_getElem_cons hi']
      intro x hx
      rcases List.mem_cons.mp hx with rfl | hx
      · omega
      · exact (hb h).2 x hx
theorem few_spec (l : List (List Int)) (hl : l.length ≤ 9223372036854775807) (K : Nat) (hK : l.length < K) :
    ∃ b, sackbutlaw19_few.f K l = some b ∧ (b = true → l.length ≤ 10 ∧ ∀ x ∈ l, x.length ≤ 100) := by
  unfold sackbutlaw19_few.f
  have := few_loop l hl l.length K 0 (by omega) hK
  simpa using this

/-! ### What is written -/
def eW (a0 a1 a3 a4 a5 a6 : Int) (l : List (List Int)) : Int := if GoodC a0 a1 a3 a4 a5 a6 then (if (l.length : Int) = a0 ∧ l.any (notB a6) = false then codeC a1 l else 8) else 7
def packW (a1 a6 : Int) (l : List (List Int)) : List Int := (vals l 0 a6.toNat).flatMap (enc (nbytes a1) false)
def bW (a0 a1 a3 a6 : Int) (l : List (List Int)) : List Int := headW a0 a1 a3 ((packW a1 a6 l).length : Int) ++ turnW a1 (packW a1 a6 l)
theorem pack_bytes (a1 a6 : Int) (l : List (List Int)) : Bytes_ (packW a1 a6 l) := fun x hx => by
  obtain ⟨v, _, hx⟩ := List.mem_flatMap.1 hx
  exact enc_bytes _ _ _ x hx
/-- What is known where there is no error. -/
structure OkW (a0 a1 a3 a4 a5 a6 : Int) (l : List (List Int)) : Prop where
  good : GoodC a0 a1 a3 a4 a5 a6
  len : (l.length : Int) = a0
  any : l.any (notB a6) = false
  code : codeC a1 l = 0
  fits : Fits a1 l a6.toNat
  small : a6.toNat ≤ 200
  size : (packW a1 a6 l).length = a6.toNat * l.length * nbytes a1
theorem ok_of {a0 a1 a3 a4 a5 a6 : Int} {l : List (List Int)} (hr : ∀ x ∈ l, x.length ≤ 200) (h : eW a0 a1 a3 a4 a5 a6 l = 0) : OkW a0 a1 a3 a4 a5 a6 l := by
  unfold eW at h
  split at h
  · rename_i hg
    split at h
    · rename_i hs
      obtain ⟨n, F, hn⟩ := fits_code hr h
      have hn6 : n = a6.toNat := by
        have h1 := F.one
        have hm : l[0] ∈ l := List.getElem_mem (by omega)
        have h2 := F.same _ hm
        have h3 : notB a6 l[0] = false := by
          cases hb : notB a6 l[0] with
          | false => rfl
          | true => have := List.any_eq_true.2 ⟨_, hm, hb⟩; rw [hs.2] at this; cases this
        unfold notB at h3
        have h4 := of_decide_eq_false h3
        omega
      subst hn6
      exact ⟨hg, hs.1, hs.2, h, F, hn, by unfold packW; rw [flat_length (enc_length (nbytes a1) false), vals_length]⟩
    · cases h
  · cases h
theorem OkW.le {a0 a1 a3 a4 a5 a6 : Int} {l : List (List Int)} (O : OkW a0 a1 a3 a4 a5 a6 l) : (packW a1 a6 l).length ≤ 4800 := by
  rw [O.size]
  exact Nat.mul_le_mul (Nat.mul_le_mul O.small O.fits.eight) (bytes_le a1)
theorem write_spec (a0 a1 : Int) (a2 : Bool) (a3 a4 a5 a6 : Int) (l : List (List Int)) (hl : l.length ≤ 12) (hr : ∀ x ∈ l, x.length ≤ 200) (K : Nat) (hK : 100000 ≤ K) :
    wave_Write.f K a0 a1 a2 a3 a4 a5 a6 l = some (if eW a0 a1 a3 a4 a5 a6 l = 0 then bW a0 a1 a3 a6 l else [], eW a0 a1 a3 a4 a5 a6 l) := by
  by_cases h0 : eW a0 a1 a3 a4 a5 a6 l = 0
  · have O := ok_of hr h0
    have hle := O.le
    have hs := O.small
    rw [if_pos h0, h0]
    unfold wave_Write.f
    rw [head_good, Option.bind_some, decide_eq_true O.good, if_pos rfl, if_pos ⟨O.len, O.any⟩, pack_spec O.fits false K (by omega) (by omega), Option.bind_some, if_pos rfl]
    show (wave_first.f K a0 a1 a2 a3 a4 a5 a6 ((packW a1 a6 l).length : Int)).bind _ = _
    rw [first_spec O.good.1 O.good.2.1 O.good.2.2.1 a2 a4 a5 a6 _ ⟨by omega, by omega⟩ K (by omega), Option.bind_some]
    show (wave_turn.f a0 a1 a2 a3 a4 a5 a6 (packW a1 a6 l)).bind _ = _
    rw [turn_spec _ _ _ _ _ _ _ _ (pack_bytes a1 a6 l) (by omega), Option.bind_some, if_pos (by rw [headW_length, turn_length]; omega)]
    rfl
  · rw [if_neg h0]
    unfold wave_Write.f
    rw [head_good, Option.bind_some]
    unfold eW at h0 ⊢
    by_cases hg : GoodC a0 a1 a3 a4 a5 a6
    · rw [if_pos hg] at h0
      rw [decide_eq_true hg, if_pos rfl, if_pos hg]
      by_cases hs : (l.length : Int) = a0 ∧ l.any (notB a6) = false
      · rw [if_pos hs] at h0
        rw [if_pos hs, if_pos hs]
        have hp : pack_Pack.f K a1 false l = some ([], codeC a1 l) := by
          unfold pack_Pack.f
          rw [pk_check a1 false l hl hr K (by omega), Option.bind_some, if_neg h0]
        rw [hp, Option.bind_some, if_neg h0]
      · rw [if_neg hs, if_neg hs]
    · rw [decide_eq_false hg, if_neg (by decide), if_neg hg]
theorem doc_l0 (a0 a1 : Int) (a2 : Bool) (a3 a4 a5 a6 : Int) (l : List (List Int)) (hl : l.length ≤ 12) (M : Nat) (R : Option (List Int × Int)) (hR : ∀ K', M ≤ K' → ((sackbutref05_Check.f K' a1 false l).bind fun t221 => (if t221 = 0 then ((sackbutref05_Pack.f K' a1 false l).bind fun t222 => (sackbutref19_Write.l1 K' t222 (t222.length : Int) 0 a0 a1 a2 a3 a4 a5 a6)) else (some (([] : List Int), t221)))) = R) :
    ∀ (d K i : Nat), i + d = l.length → d + M < K → sackbutref19_Write.l0 K l (l.length : Int) (i : Int) a0 a1 a2 a3 a4 a5 a6 = if (l.drop i).any (notB a6) = true then some ([], 8) else R := by
  intro d
  induction d with
  | zero =>
    intro K i hi hK
    obtain ⟨K, rfl⟩ : ∃ m, K = m + 1 := ⟨K - 1, by omega⟩
    simp only [sackbutref19_Write.l0]
    rw [if_neg (by omega), List.drop_eq_nil_of_le (by omega)]
    rw [if_neg (by simp)]
    exact hR K (by omega)
  | succ d ih =>
    intro K i hi hK
    obtain ⟨K, rfl⟩ : ∃ m, K = m + 1 := ⟨K - 1, by omega⟩
    have hi' : i < l.length := by omega
    simp only [sackbutref19_Write.l0]
    rw [if_pos (by omega), if_pos (by omega), if_pos (by omega), rd1_nat l i hi', List.drop_eq_getElem_cons hi', List.any_cons]
    by_cases h6 : (l[i].length : Int) = a6
    · rw [if_pos h6, wrap_id (by omega) (by omega)]
      have e := ih K (i + 1) (by omega) (by omega)
      rw [show ((i + 1 : Nat) : Int) = (i : Int) + 1 by omega] at e
      rw [e]
      have hn : notB a6 l[i] = false := by unfold notB; exact decide_eq_false (by simpa using h6)
      rw [hn, Bool.false_or]
    · rw [if_neg h6]
      have hn : notB a6 l[i] = true := by unfold notB; exact decide_eq_true h6
      rw [hn, Bool.true_or, if_pos rfl]
theorem doc_write_spec (a0 a1 : Int) (a2 : Bool) (a3 a4 a5 a6 : Int) (l : List (List Int)) (hl : l.length ≤ 12) (hr : ∀ x ∈ l, x.length ≤ 200) (K : Nat) (hK : 100000 ≤ K) :
    sackbutref19_Write.f K a0 a1 a2 a3 a4 a5 a6 l = some (if eW a0 a1 a3 a4 a5 a6 l = 0 then bW a0 a1 a3 a6 l else [], eW a0 a1 a3 a4 a5 a6 l) := by
  unfold sackbutref19_Write.f
  rw [ref_good, Option.bind_some]
  by_cases hg : GoodC a0 a1 a3 a4 a5 a6
  · rw [decide_eq_true hg, if_pos rfl]
    by_cases hlen : (l.length : Int) = a0
    · rw [if_pos hlen]
      by_cases h0 : eW a0 a1 a3 a4 a5 a6 l = 0
      · have O := ok_of hr h0
        have hle := O.le
        have hs := O.small
        rw [if_pos h0, h0]
        have key := doc_l0 a0 a1 a2 a3 a4 a5 a6 l hl 50000 (some (bW a0 a1 a3 a6 l, 0)) (fun K' hK' => ?_) l.length K 0 (by omega) (by omega)
        · rw [show ((0 : Nat) : Int) = 0 from rfl, List.drop_zero, O.any, if_neg (by decide)] at key
          exact key
        · rw [rk_check a1 false l hl hr K' (by omega), Option.bind_some, O.code, if_pos rfl, doc_spec O.fits false K' (by omega) (by omega), Option.bind_some]
          obtain ⟨K2, hK2, e⟩ := doc_turn a0 a1 a2 a3 a4 a5 a6 (packW a1 a6 l) (by omega) (packW a1 a6 l).length K' 0 (by omega) (by omega)
          rw [show ((0 : Nat) : Int) = 0 from rfl, List.take_zero, List.drop_zero, List.nil_append] at e
          refine e.trans ?_
          rw [docfirst_spec O.good.1 O.good.2.1 O.good.2.2.1 a2 a4 a5 a6 _ ⟨by omega, by omega⟩ K2 (by omega), Option.bind_some, if_pos (by rw [headW_length]; omega)]
          rfl
      · rw [if_neg h0]
        have hu : eW a0 a1 a3 a4 a5 a6 l = if l.any (notB a6) = true then 8 else codeC a1 l := by
          unfold eW
          rw [if_pos hg]
          cases ha : l.any (notB a6) with
          | true => rw [if_neg (fun h => by cases h.2), if_pos rfl]
          | false => rw [if_pos ⟨hlen, rfl⟩, if_neg (by decide)]
        rw [hu] at h0 ⊢
        have key := doc_l0 a0 a1 a2 a3 a4 a5 a6 l hl 50000 (if l.any (notB a6) = true then none else some ([], codeC a1 l))
        cases ha : l.any (notB a6) with
        | true =>
          rw [ha] at h0
          have hi : ∀ (d K i : Nat), i + d = l.length → d + 1 < K → (l.drop i).any (notB a6) = true → sackbutref19_Write.l0 K l (l.length : Int) (i : Int) a0 a1 a2 a3 a4 a5 a6 = some ([], 8) := by
            intro d
            induction d with
            | zero => intro K i hi hK hx; rw [List.drop_eq_nil_of_le (by omega)] at hx; simp at hx
            | succ d ih =>
              intro K i hi hK hx
              obtain ⟨K, rfl⟩ : ∃ m, K = m + 1 := ⟨K - 1, by omega⟩
              have hi' : i < l.length := by omega
              simp only [sackbutref19_Write.l0]
              rw [if_pos (by omega), if_pos (by omega), if_pos (by omega), rd1_nat l i hi']
              by_cases h6 : (l[i].length : Int) = a6
              · rw [if_pos h6, wrap_id (by omega) (by omega)]
                rw [List.drop_eq_getElem_cons hi', List.any_cons] at hx
                have hn : notB a6 l[i] = false := by unfold notB; exact decide_eq_false (by simpa using h6)
                rw [hn, Bool.false_or] at hx
                have e := ih K (i + 1) (by omega) (by omega) hx
                rw [show ((i + 1 : Nat) : Int) = (i : Int) + 1 by omega] at e
                exact e
              · rw [if_neg h6]
          have := hi l.length K 0 (by omega) (by omega) (by rw [List.drop_zero]; exact ha)
          rw [show ((0 : Nat) : Int) = 0 from rfl] at this
          rw [this, if_pos rfl]
        | false =>
          rw [ha, if_neg (by decide)] at h0
          have k2 := doc_l0 a0 a1 a2 a3 a4 a5 a6 l hl 50000 (some ([], codeC a1 l)) (fun K' hK' => by
            rw [rk_check a1 false l hl hr K' (by omega), Option.bind_some, if_neg h0]) l.length K 0 (by omega) (by omega)
          rw [show ((0 : Nat) : Int) = 0 from rfl, List.drop_zero, ha, if_neg (by decide)] at k2
          rw [k2, if_neg (by decide)]
    · rw [if_neg hlen]
      have hu : eW a0 a1 a3 a4 a5 a6 l = 8 := by
        unfold eW
        rw [if_pos hg, if_neg (fun h => hlen h.1)]
      rw [hu, if_neg (by decide)]
  · rw [decide_eq_false hg, if_neg (by decide)]
    have hu : eW a0 a1 a3 a4 a5 a6 l = 7 := by
      unfold eW
      rw [if_neg hg]
    rw [hu, if_neg (by decide)]

/-! ### What is read -/
theorem eq_loop (l : List Int) (hl : l.length ≤ 9223372036854775807) : ∀ (d K j : Nat), j + d = l.length → d < K → slices_Equal_byte_byte.l0 K l l (l.length : Int) (j : Int) = some true := by
  intro d
  induction d with
  | zero =>
    intro K j hj hK
    obtain ⟨K, rfl⟩ : ∃ m, K = m + 1 := ⟨K - 1, by omega⟩
    simp only [slices_Equal_byte_byte.l0]
    rw [if_neg (by omega)]
  | succ d ih =>
    intro K j hj hK
    obtain ⟨K, rfl⟩ : ∃ m, K = m + 1 := ⟨K - 1, by omega⟩
    simp only [slices_Equal_byte_byte.l0]
    rw [if_pos (by omega), if_pos (by omega), if_pos (by omega), if_pos (by omega), if_pos trivial, wrap_id (by omega) (by omega)]
    have := ih K (j + 1) (by omega) (by omega)
    rwa [show ((j + 1 : Nat) : Int) = (j : Int) + 1 by omega] at this
theorem eq_self (l : List Int) (hl : l.length ≤ 9223372036854775807) (K : Nat) (hK : l.length < K) : slices_Equal_byte_byte.f K l l = some true := by
  unfold slices_Equal_byte_byte.f
  rw [if_pos rfl]
  exact eq_loop l hl l.length K 0 (by omega) hK
set_option maxHeartbeats 4000000 in
theorem read_gen {a0 a1 a3 : Int} (h0 : 1 ≤ a0 ∧ a0 ≤ 8) (G : GoodF a1) (h3 : 1 ≤ a3 ∧ a3 ≤ 16777215) (n : Int) (hn : 0 ≤ n ∧ n ≤ 1048576) (d : Int) (hd : d = n * (a0 * (nbytes a1 : Int))) (T : List Int) (hT : T.length ≤ 1000000000) (K : Nat) (hK : 100 ≤ K) :
    wave_Read.f (K + 2) (headW a0 a1 a3 d ++ T) = wave_Read.j2 K (headW a0 a1 a3 d ++ T) d false a0 a1 false a3 16 0 n := by
  obtain ⟨e1, _, r1, r2⟩ := row_nat h0 G
  have hm := mul_small (by omega : 0 ≤ a3) h3.2 (by omega : 0 ≤ a0 * (nbytes a1 : Int)) r2
  have hd1 : 0 ≤ d ∧ d ≤ 25165824 := by
    subst hd
    exact ⟨Int.mul_nonneg hn.1 (by omega), Int.le_trans (Int.mul_le_mul hn.2 r2 (by omega) (by omega)) (by omega)⟩
  have hf : 0 ≤ a1 ∧ a1 ≤ 24 := by rcases G with rfl | rfl | rfl <;> omega
  have p4 : (256 : Int) ^ 4 = 4294967296 := rfl
  have p2 : (256 : Int) ^ 2 = 65536 := rfl
  have z1 : ((headW a0 a1 a3 d ++ T).take 44).drop 40 = leb 4 d := rfl
  have z2 : ((headW a0 a1 a3 d ++ T).take 24).drop 22 = leb 2 a0 := rfl
  have z3 : ((headW a0 a1 a3 d ++ T).take 28).drop 24 = leb 4 a3 := rfl
  have z4 : ((headW a0 a1 a3 d ++ T).take 36).drop 34 = leb 2 a1 := rfl
  have z5 : (headW a0 a1 a3 d ++ T).take 4 = [82, 73, 70, 70] := rfl
  have z6 : ((headW a0 a1 a3 d ++ T).take 16).drop 8 = [87, 65, 86, 69, 102, 109, 116, 32] := rfl
  have z7 : ((headW a0 a1 a3 d ++ T).take 20).drop 16 = leb 4 16 := rfl
  have z8 : ((headW a0 a1 a3 d ++ T).take 22).drop 20 = leb 2 1 := rfl
  have z9 : ((headW a0 a1 a3 d ++ T).take 40).drop 36 = [100, 97, 116, 97] := rfl
  have z10 : (headW a0 a1 a3 d ++ T).take 44 = headW a0 a1 a3 d := List.take_left' (headW_length _ _ _ _)
  have hlen : ((headW a0 a1 a3 d ++ T).length : Int) = 44 + (T.length : Int) := by rw [List.length_append, headW_length]; omega
  have s1 : (strOfNums [82, 73, 70, 70]).toList = ([82, 73, 70, 70] : List UInt8) := by decide +kernel
  have s2 : (strOfNums [87, 65, 86, 69, 102, 109, 116, 32]).toList = ([87, 65, 86, 69, 102, 109, 116, 32] : List UInt8) := by decide +kernel
  have s3 : ((strOfNums [100, 97, 116, 97]).toList != ([100, 97, 116, 97] : List UInt8)) = false := by decide +kernel
  unfold wave_Read.f
  generalize headW a0 a1 a3 d ++ T = z at *
  rw [hlen]
  rw [if_neg (by omega), if_pos (by decide), if_pos (by omega), z1, number_leb 4 d (by omega) (by omega) (by omega), Option.bind_some]
  rw [if_pos (by decide), if_pos (by omega), z2, number_leb 2 a0 (by omega) (by omega) (by omega), Option.bind_some]
  rw [if_pos (by decide), if_pos (by omega), z3, number_leb 4 a3 (by omega) (by omega) (by omega), Option.bind_some]
  rw [if_pos (by decide), if_pos (by omega), z4, number_leb 2 a1 (by omega) (by omega) (by omega), Option.bind_some]
  rw [if_pos (by omega), z5, if_pos s1, if_pos (by decide), if_pos (by omega), z6, if_pos s2]
  rw [if_pos (by decide), if_pos (by omega), z7, number_leb 4 16 (by omega) (by omega) (by omega), Option.bind_some, if_pos rfl]
  rw [if_pos (by decide), if_pos (by omega), z8, number_leb 2 1 (by omega) (by omega) (by omega), Option.bind_some, if_pos rfl]
  rw [if_pos (by decide), if_pos (by omega), z9, s3]
  have hdiv : Int.tdiv d (a0 * (nbytes a1 : Int)) = n := by
    rw [hd]; exact Int.mul_tdiv_cancel _ (by omega)
  have hmod : Int.tmod d (a0 * (nbytes a1 : Int)) = 0 := by
    rw [hd]; exact Int.mul_tmod_left _ _
  have hg : GoodC a0 a1 a3 16 0 0 := ⟨h0, G, h3, by omega, by decide, by omega, by omega⟩
  rw [show K + 2 = (K + 1) + 1 from rfl]
  simp only [wave_Read.j0]
  rw [if_neg (by decide), head_good, Option.bind_some, decide_eq_true hg, if_pos rfl]
  unfold wave_Row.f
  rw [e1, Option.bind_some, if_neg (by omega), hdiv, wrap_id (x := n) (by omega) (by omega), decide_eq_false (by omega)]
  simp only [wave_Read.j1]
  unfold wave_Row.f
  rw [e1, if_neg (by decide), Option.bind_some, if_neg (by omega), if_pos (by omega), hdiv, wrap_id (x := n) (by omega) (by omega), first_spec h0 G h3 false 16 0 n d (by omega) K (by omega), Option.bind_some, z10, eq_self _ (by rw [headW_length]; omega) K (by rw [headW_length]; omega), Option.bind_some, if_pos rfl]
  rw [Option.bind_some, if_neg (by omega), hmod]
  rfl
end Go.Proofs.Ytliidobbkfmndaa.WaveSpec

namespace Go.Proofs.Ytliidobbkfmndaa.Pure
open Go Go.RowKit Go.Proofs.Ytliidobbkfmndaa.HW2 Go.Proofs.Ytliidobbkfmndaa.PackSpec Go.Proofs.Ytliidobbkfmndaa.PackDoc Go.Proofs.Ytliidobbkfmndaa.WaveSpec Go.Proofs.YtliidobbkfmndaaW.PrintWords Go.Proofs.YtliidobbkfmndaaW.PrintLast
theorem awake_ok (K : Nat) (hK : 100000 ≤ K) : sackbutlaw19_awake.f K = some true := by
  unfold sackbutlaw19_awake.f
  rw [write_spec 1 8 false 8000 16 0 3 [[(-128), 0, 127]] (by decide) (by decide) K hK, Option.bind_some]
  decide +kernel
theorem ends_ok {a0 a1 a3 a4 a5 a6 : Int} {l : List (List Int)} (O : OkW a0 a1 a3 a4 a5 a6 l) (K : Nat) (hK : 100000 ≤ K) (m : Nat) (hm : m < (bW a0 a1 a3 a6 l).length) : endsB K (bW a0 a1 a3 a6 l) m = true := by
  have hle := O.le
  obtain ⟨⟨b1, b2⟩, G, b3, _, _, _, b6⟩ := O.good
  have hlen := O.len
  have hd : ((packW a1 a6 l).length : Int) = a6 * (a0 * (nbytes a1 : Int)) := by
    rw [O.size, ← hlen, Int.natCast_mul, Int.natCast_mul, Int.mul_assoc]
    congr 1
    omega
  obtain ⟨K, rfl⟩ : ∃ m, K = m + 3 := ⟨K - 3, by omega⟩
  have hbl : (bW a0 a1 a3 a6 l).length = 44 + (packW a1 a6 l).length := by unfold bW; rw [List.length_append, headW_length, turn_length]
  have key : ∀ T : List Int, T.length ≤ 10000 → wave_Read.f (K + 3) (headW a0 a1 a3 ((packW a1 a6 l).length : Int) ++ T) = wave_Read.j2 (K + 1) (headW a0 a1 a3 ((packW a1 a6 l).length : Int) ++ T) ((packW a1 a6 l).length : Int) false a0 a1 false a3 16 0 a6 := fun T hT =>
    read_gen ⟨b1, b2⟩ G b3 a6 b6 _ hd T (by omega) (K + 1) (by omega)
  have hzl : ∀ T : List Int, ((headW a0 a1 a3 ((packW a1 a6 l).length : Int) ++ T).length : Int) = 44 + (T.length : Int) := fun T => by rw [List.length_append, headW_length]; omega
  unfold endsB
  have h1 : wave_Read.f (K + 3) ((bW a0 a1 a3 a6 l).take m) = some (0, 0, false, 0, 0, 0, 0, [], 3) := by
    by_cases h44 : m < 44
    · unfold wave_Read.f
      rw [if_pos (by rw [List.length_take]; omega)]
    · have he : (bW a0 a1 a3 a6 l).take m = headW a0 a1 a3 ((packW a1 a6 l).length : Int) ++ (turnW a1 (packW a1 a6 l)).take (m - 44) := by
        unfold bW
        rw [List.take_append, headW_length, List.take_of_length_le (by rw [headW_length]; omega)]
      have htl : ((turnW a1 (packW a1 a6 l)).take (m - 44)).length = m - 44 := by rw [List.length_take, turn_length]; omega
      rw [he, key _ (by omega)]
      simp only [wave_Read.j2]
      rw [if_neg (by decide), hzl, htl, wrap_id (x := 44 + ((packW a1 a6 l).length : Int)) (by omega) (by omega), if_pos (by omega)]
  have h2 : wave_Read.f (K + 3) (bW a0 a1 a3 a6 l ++ [0]) = some (0, 0, false, 0, 0, 0, 0, [], 4) := by
    have he : bW a0 a1 a3 a6 l ++ [0] = headW a0 a1 a3 ((packW a1 a6 l).length : Int) ++ (turnW a1 (packW a1 a6 l) ++ [0]) := by unfold bW; rw [List.append_assoc]
    have htl : (turnW a1 (packW a1 a6 l) ++ [0]).length = (packW a1 a6 l).length + 1 := by rw [List.length_append, turn_length]; rfl
    rw [he, key _ (by omega)]
    simp only [wave_Read.j2]
    rw [if_neg (by decide), hzl, htl, wrap_id (x := 44 + ((packW a1 a6 l).length : Int)) (by omega) (by omega), if_neg (by omega), if_pos (by omega)]
  rw [h1, h2]
  rfl
theorem WaveEnds : PureGWaveEnds := by
  intro a0 a1 a2 a3 a4 a5 a6 l t _ _ _ _ _ _ hlen _ ht
  obtain ⟨f, hf, h⟩ := few_spec l hlen (l.length + 300000) (by omega)
  refine ⟨l.length + 300000, ?_⟩
  have ht2 : 0 ≤ t ∧ t < 65536 := by
    have h1 : IntKind.u16.min ≤ t ∧ t ≤ IntKind.u16.max := by simpa [Lit.wf] using ht
    have e1 : IntKind.u16.min = 0 := by decide
    have e2 : IntKind.u16.max = 65535 := by decide
    omega
  unfold sackbutlaw19_WaveEnds.f
  rw [if_pos ⟨awake_ok _ (by omega), ht2.1, ht2.2⟩, hf, Option.bind_some]
  cases f with
  | false => rw [if_neg (by decide)]
  | true =>
    obtain ⟨hl, hr⟩ := h rfl
    have hr2 : ∀ x ∈ l, x.length ≤ 200 := fun x hx => by have := hr x hx; omega
    rw [if_pos rfl, doc_write_spec a0 a1 a2 a3 a4 a5 a6 l (by omega) hr2 _ (by omega), Option.bind_some]
    by_cases h0 : eW a0 a1 a3 a4 a5 a6 l = 0
    · have O := ok_of hr2 h0
      have hle := O.le
      have hbl : (bW a0 a1 a3 a6 l).length = 44 + (packW a1 a6 l).length := by unfold bW; rw [List.length_append, headW_length, turn_length]
      rw [if_pos h0, if_pos h0]
      have hc : 1 ≤ (bW a0 a1 a3 a6 l).length ∧ (bW a0 a1 a3 a6 l).length ≤ 1000000 ∧ endsB (l.length + 300000) (bW a0 a1 a3 a6 l) (t.toNat % (bW a0 a1 a3 a6 l).length) = true := ⟨by omega, by omega, ends_ok O _ (by omega) _ (Nat.mod_lt _ (by omega))⟩
      exact if_pos hc
    · rw [if_neg h0]
end Go.Proofs.Ytliidobbkfmndaa.Pure

