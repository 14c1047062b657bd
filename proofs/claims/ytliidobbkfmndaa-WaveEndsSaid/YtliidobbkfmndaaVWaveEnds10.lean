/- WaveEnds: what the claim's theorem reaches of this seat's texts, part 10, put together by this project's own program (bale.py); conditions: those of each theorem. -/
import Derived.Test.YtliidobbkfmndaaVWaveEnds5
import Derived.Test.YtliidobbkfmndaaVWaveEnds6
import Derived.Test.YtliidobbkfmndaaVWaveEnds7
import Derived.Test.YtliidobbkfmndaaVWaveEnds9
import Derived.Shelf.Abstract
import Derived.OwnWalk
import Derived.LoopN
namespace Go.Proofs.Ytliidobbkfmndaa.HW2
open Go.RowKit Go.Proofs.YtliidobbkfmndaaW.PrintWords Go.Proofs.YtliidobbkfmndaaW.PrintLast Go.Proofs.YtliidobbkfmndaaW.PrintMore
attribute [local go_sem] max2_int min2_int max_two min_two max_three min_three max_four min_four   -- for this text's walks alone
set_option linter.unusedVariables false
set_option linter.unusedSimpArgs false

/-! ### wave_first: function 17, by hand -/
structure AsideF (p : Prop) : Prop where mk :: (out : p)
open Go.Proofs.Ytliidobbkfmndaa.AnyOrder Go.Proofs.Ytliidobbkfmndaa.AnyLit in
def wave_first.f (k : Nat) (a0_0 : Int) (a0_1 : Int) (a0_2 : Bool) (a0_3 : Int) (a0_4 : Int) (a0_5 : Int) (a0_6 : Int) (a1 : Int) : Option (List Int) := (wave_low.f k (wrap64 (36 + a1)) 4).bind fun y4 => (wave_low.f k 16 4).bind fun y7 => (wave_low.f k 1 2).bind fun y8 => (wave_low.f k a0_0 2).bind fun y11 => (wave_low.f k a0_3 4).bind fun y14 => (wave_Row.f a0_0 a0_1 a0_2 a0_3 a0_4 a0_5 a0_6).bind fun z => (wave_low.f k (wrap64 (a0_3 * z)) 4).bind fun y20 => (wave_low.f k z 2).bind fun y23 => (wave_low.f k a0_1 2).bind fun y26 => (wave_low.f k a1 4).bind fun y30 => slices_Concat_byte_byte.f [[82, 73, 70, 70], y4, [87, 65, 86, 69, 102, 109, 116, 32], y7, y8, y11, y14, y20, y23, y26, [100, 97, 116, 97], y30]
open Go.Proofs.Ytliidobbkfmndaa.AnyOrder Go.Proofs.Ytliidobbkfmndaa.AnyLit in
set_option maxRecDepth 100000 in
set_option maxHeartbeats 4000000 in
theorem wave_first.calls (k : Nat) (a0_0 : Int) (a0_1 : Int) (a0_2 : Bool) (a0_3 : Int) (a0_4 : Int) (a0_5 : Int) (a0_6 : Int) (a1 : Int) (r : List Int) (w : World) (h : wave_first.f k a0_0 a0_1 a0_2 a0_3 a0_4 a0_5 a0_6 a1 = some r) :
    Calls Try.prog 17 #[.agg #[.int .i64 a0_0, .int .i64 a0_1, .bool a0_2, .int .i64 a0_3, .int .i64 a0_4, .int .i64 a0_5, .int .i64 a0_6], .int .i64 a1] w fun e w' => ∃ v0_ : Value, e = .returned (v0_) ∧ Kd.R (Kd.int .u8) 5 w' w.heap.size (fun _ => True) v0_ r ∧ Below w.heap.size w w' := by
  unfold wave_first.f at h
  replace h := Option.bind_eq_some_iff.mp h
  obtain ⟨y4, h_y4, h⟩ := h
  have H_y4 := AsideF.mk h_y4
  clear h_y4
  replace h := Option.bind_eq_some_iff.mp h
  obtain ⟨y7, h_y7, h⟩ := h
  have H_y7 := AsideF.mk h_y7
  clear h_y7
  replace h := Option.bind_eq_some_iff.mp h
  obtain ⟨y8, h_y8, h⟩ := h
  have H_y8 := AsideF.mk h_y8
  clear h_y8
  replace h := Option.bind_eq_some_iff.mp h
  obtain ⟨y11, h_y11, h⟩ := h
  have H_y11 := AsideF.mk h_y11
  clear h_y11
  replace h := Option.bind_eq_some_iff.mp h
  obtain ⟨y14, h_y14, h⟩ := h
  have H_y14 := AsideF.mk h_y14
  clear h_y14
  replace h := Option.bind_eq_some_iff.mp h
  obtain ⟨z, h_z, h⟩ := h
  have H_z := AsideF.mk h_z
  clear h_z
  replace h := Option.bind_eq_some_iff.mp h
  obtain ⟨y20, h_y20, h⟩ := h
  have H_y20 := AsideF.mk h_y20
  clear h_y20
  replace h := Option.bind_eq_some_iff.mp h
  obtain ⟨y23, h_y23, h⟩ := h
  have H_y23 := AsideF.mk h_y23
  clear h_y23
  replace h := Option.bind_eq_some_iff.mp h
  obtain ⟨y26, h_y26, h⟩ := h
  have H_y26 := AsideF.mk h_y26
  clear h_y26
  replace h := Option.bind_eq_some_iff.mp h
  obtain ⟨y30, h_y30, h⟩ := h
  have H_y30 := AsideF.mk h_y30
  clear h_y30
  have h_r := h
  clear h
  obtain ⟨L, hL⟩ : ∃ L : List (List Int), L = [[82, 73, 70, 70], y4, [87, 65, 86, 69, 102, 109, 116, 32], y7, y8, y11, y14, y20, y23, y26, [100, 97, 116, 97], y30] := ⟨_, rfl⟩
  rw [← hL] at h_r
  have hLn : L.length = 12 := by rw [hL]; rfl
  have HL := AsideF.mk hL
  have HLn := AsideF.mk hLn
  have H_r := AsideF.mk h_r
  clear hL hLn h_r
  have hu23 := Try.underlying23
  go_enter Try.func17, Try.ntmps17
  go_wp2_with (((with_reducible refine gate_dst (N := 2) rfl ?_); refine box_event ?hg (N := 2) ?hd (cs := #[.int .i64 a0_0, .int .i64 a0_1, .bool a0_2, .int .i64 a0_3, .int .i64 a0_4, .int .i64 a0_5, .int .i64 a0_6]) (t := 23) ?hr ?_; (case hd => rfl); (case hg => rfl); (case hr => first | (go_simp; done) | (go_simp; rfl)); intro g1 hg1 wx hbox1 hb1; clear hg1))
  refine region_kinds true (by kernel_rfl) w.heap.size 5 (fun W => W.heap[g1]? = some (.cells #[.int .i64 a0_0, .int .i64 a0_1, .bool a0_2, .int .i64 a0_3, .int .i64 a0_4, .int .i64 a0_5, .int .i64 a0_6] 23 (0, 0))) [.make, .mark [82, 73, 70, 70], .make, .make, .make, .make, .mark [87, 65, 86, 69, 102, 109, 116, 32], .make, .make, .make, .make, .make, .make, .make, .make, .make, .make, .make, .make, .make, .make, .make, .make, .make, .make, .make, .make, .make, .mark [100, 97, 116, 97], .make, .make, .make, .make, .make] [.lit [82, 73, 70, 70], .mrow [82, 73, 70, 70], .val (.int .i64 (a1)), .val (.int .i64 (wrap64 (36 + a1))), .row y4, .lit [87, 65, 86, 69, 102, 109, 116, 32], .mrow [87, 65, 86, 69, 102, 109, 116, 32], .row y7, .row y8, .val (.pointer (some ⟨g1, 0, none⟩)), .val (.int .i64 (a0_0)), .row y11, .val (.pointer (some ⟨g1, 3, none⟩)), .val (.int .i64 (a0_3)), .row y14, .val (.pointer (some ⟨g1, 3, none⟩)), .val (.int .i64 (a0_3)), .val (.agg #[.int .i64 a0_0, .int .i64 a0_1, .bool a0_2, .int .i64 a0_3, .int .i64 a0_4, .int .i64 a0_5, .int .i64 a0_6]), .val (.int .i64 (z)), .val (.int .i64 (wrap64 (a0_3 * z))), .row y20, .val (.agg #[.int .i64 a0_0, .int .i64 a0_1, .bool a0_2, .int .i64 a0_3, .int .i64 a0_4, .int .i64 a0_5, .int .i64 a0_6]), .val (.int .i64 (z)), .row y23, .val (.pointer (some ⟨g1, 1, none⟩)), .val (.int .i64 (a0_1)), .row y26, .lit [100, 97, 116, 97], .mrow [100, 97, 116, 97], .val (.int .i64 (a1)), .row y30, .rows L, .own [] r, .own [] r] [.lit [82, 73, 70, 70], .mrow, .free, .free, .row, .lit [87, 65, 86, 69, 102, 109, 116, 32], .mrow, .row, .row, .free, .free, .row, .free, .free, .row, .free, .free, .free, .free, .free, .row, .free, .free, .row, .free, .free, .row, .lit [100, 97, 116, 97], .mrow, .free, .row, .rows, .own [], .own []] [] [] [] [0, 1, 0, 4, 12, 0, 32, 28, 156, 0, 512, 1948, 0, 4096, 16284, 0, 32768, 0, 163740, 524188, 1048476, 0, 4194204, 8388508, 0, 16777216, 67108764, 0, 134217728, 0, 671088540, 2147483647, 4294967295, 8589934591] [[], [(0, 5)], [], [(2, 7)], [(3, 8)], [], [(5, 10)], [], [], [], [(9, 14)], [(10, 15)], [], [(12, 17)], [(13, 18)], [], [(15, 20)], [], [(17, 22)], [(16, 21), (18, 23)], [(19, 24)], [], [(21, 26)], [(22, 27)], [], [(24, 29)], [(25, 30)], [], [(27, 32)], [], [(29, 34)], [(1, 6), (4, 9), (6, 11), (7, 12), (8, 13), (11, 16), (14, 19), (20, 25), (23, 28), (26, 31), (28, 33), (30, 35)], [(31, 36)], [(32, 37)]] [[], [], [1], [], [], [], [], [], [], [2], [], [], [2], [], [], [2], [], [2], [], [], [], [2], [], [], [2], [], [], [], [], [1], [], [], [], []] (fun vs => [(5, vs 0), (6, vs 1), (7, vs 2), (8, vs 3), (9, vs 4), (10, vs 5), (11, vs 6), (12, vs 7), (13, vs 8), (14, vs 9), (15, vs 10), (16, vs 11), (17, vs 12), (18, vs 13), (19, vs 14), (20, vs 15), (21, vs 16), (22, vs 17), (23, vs 18), (24, vs 19), (25, vs 20), (26, vs 21), (27, vs 22), (28, vs 23), (29, vs 24), (30, vs 25), (31, vs 26), (32, vs 27), (33, vs 28), (34, vs 29), (35, vs 30), (36, vs 31), (37, vs 32), (4, vs 33)]) rfl rfl (by kernel_rfl) (fun _ => rfl) hb1 ?hb hbox1 ?hx ?hi ?_ ?_
  case hb => exact hb1.size
  case hi => exact fun x hx => absurd hx (by simp)
  case hx => exact fun g W W' hg hX => GK.other hg hX (by decide)
  refine ⟨?_, ?_, ?_, ?_, ?_, ?_, ?_, ?_, ?_, ?_, ?_, ?_, ?_, ?_, ?_, ?_, ?_, ?_, ?_, ?_, ?_, ?_, ?_, ?_, ?_, ?_, ?_, ?_, ?_, ?_, ?_, ?_, ?_, ?_, trivial⟩
  · intro a w1 hJ hD hE hS K hK
    obtain ⟨hJ1, hJ2, hJ3⟩ := hJ
    clear hD hS
    refine wp_value (v := .slice (some ⟨w1.heap.size, 0, none⟩) 4 4) (w1 := w1.alloc (.cells (List.map (Value.int .u8) [82, 73, 70, 70]).toArray 5)) ?_ (hK _ _ ((Below.refl _ _).alloc (Nat.le_refl _) _) (lit_made 5 [82, 73, 70, 70] hJ2))
    clear hK
    go_simp
  · intro a w1 hJ hD hE hS K hK
    obtain ⟨hJ1, hJ2, hJ3⟩ := hJ
    have d_5 : FK.holds w.heap.size 5 (.lit [82, 73, 70, 70]) (a.tmps.getD 5 undef) w1 := hD (0, 5) (by simp)
    clear hD hS
    obtain ⟨w2, hr, hm, hv⟩ := conv_lit2 d_5 Try.underlying27 Try.underlying5
    obtain ⟨vv, ev⟩ : ∃ v, a.tmps.getD 5 undef = v := ⟨_, rfl⟩
    rw [ev] at hr hv
    refine wp_value (v := vv) (w1 := w2) ?_ (hK _ _ hm hv)
    clear hK hm hv d_5
    go_simp
  · intro a w1 hJ hD hE hS K hK
    obtain ⟨hJ1, hJ2, hJ3⟩ := hJ
    have s_1 : a.tmps.getD 1 undef = .int .i64 a1 := hS 1 (by simp)
    clear hD hS
    refine wp_value (v := (.int .i64 (a1))) (w1 := w1) ?_ (hK _ _ (Below.refl _ _) rfl)
    clear hK
    go_simp
  · intro a w1 hJ hD hE hS K hK
    obtain ⟨hJ1, hJ2, hJ3⟩ := hJ
    have d_7 : a.tmps.getD 7 undef = (.int .i64 (a1)) := hD (2, 7) (by simp)
    clear hD hS
    refine wp_value (v := (.int .i64 (wrap64 (36 + a1)))) (w1 := w1) ?_ (hK _ _ (Below.refl _ _) rfl)
    clear hK
    go_simp
    exact i64_w _
  · intro a w1 hJ hD hE hS K hK
    obtain ⟨hJ1, hJ2, hJ3⟩ := hJ
    have d_8 : a.tmps.getD 8 undef = (.int .i64 (wrap64 (36 + a1))) := hD (3, 8) (by simp)
    clear hD hS
    refine wp_call Try.func34 (by kernel_rfl) rfl #[.int .i64 ((wrap64 (36 + a1))), .int .i64 (4)] rfl (by simp only [List.map_toArray, List.map_cons, List.map_nil, Act.eval, d_8]) ?_
    refine (wave_low.calls k (wrap64 (36 + a1)) 4 y4 w1 H_y4.out).mono ?_
    rintro e w2 ⟨v, rfl, ho, hb⟩
    exact ⟨v, rfl, hK v w2 hb (row_of_R ho)⟩
  · intro a w1 hJ hD hE hS K hK
    obtain ⟨hJ1, hJ2, hJ3⟩ := hJ
    clear hD hS
    refine wp_value (v := .slice (some ⟨w1.heap.size, 0, none⟩) 8 8) (w1 := w1.alloc (.cells (List.map (Value.int .u8) [87, 65, 86, 69, 102, 109, 116, 32]).toArray 5)) ?_ (hK _ _ ((Below.refl _ _).alloc (Nat.le_refl _) _) (lit_made 5 [87, 65, 86, 69, 102, 109, 116, 32] hJ2))
    clear hK
    go_simp
  · intro a w1 hJ hD hE hS K hK
    obtain ⟨hJ1, hJ2, hJ3⟩ := hJ
    have d_10 : FK.holds w.heap.size 5 (.lit [87, 65, 86, 69, 102, 109, 116, 32]) (a.tmps.getD 10 undef) w1 := hD (5, 10) (by simp)
    clear hD hS
    obtain ⟨w2, hr, hm, hv⟩ := conv_lit2 d_10 Try.underlying27 Try.underlying5
    obtain ⟨vv, ev⟩ : ∃ v, a.tmps.getD 10 undef = v := ⟨_, rfl⟩
    rw [ev] at hr hv
    refine wp_value (v := vv) (w1 := w2) ?_ (hK _ _ hm hv)
    clear hK hm hv d_10
    go_simp
  · intro a w1 hJ hD hE hS K hK
    obtain ⟨hJ1, hJ2, hJ3⟩ := hJ
    clear hD hS
    refine wp_call Try.func34 (by kernel_rfl) rfl #[.int .i64 (16), .int .i64 (4)] rfl (by simp only [List.map_toArray, List.map_cons, List.map_nil, Act.eval]) ?_
    refine (wave_low.calls k 16 4 y7 w1 H_y7.out).mono ?_
    rintro e w2 ⟨v, rfl, ho, hb⟩
    exact ⟨v, rfl, hK v w2 hb (row_of_R ho)⟩
  · intro a w1 hJ hD hE hS K hK
    obtain ⟨hJ1, hJ2, hJ3⟩ := hJ
    clear hD hS
    refine wp_call Try.func34 (by kernel_rfl) rfl #[.int .i64 (1), .int .i64 (2)] rfl (by simp only [List.map_toArray, List.map_cons, List.map_nil, Act.eval]) ?_
    refine (wave_low.calls k 1 2 y8 w1 H_y8.out).mono ?_
    rintro e w2 ⟨v, rfl, ho, hb⟩
    exact ⟨v, rfl, hK v w2 hb (row_of_R ho)⟩
  · intro a w1 hJ hD hE hS K hK
    obtain ⟨hJ1, hJ2, hJ3⟩ := hJ
    have s_2 : a.tmps.getD 2 undef = .pointer (some ⟨g1, 0, none⟩) := hS 2 (by simp)
    clear hD hS
    refine wp_value (v := (.pointer (some ⟨g1, 0, none⟩))) (w1 := w1) ?_ (hK _ _ (Below.refl _ _) rfl)
    clear hK
    go_simp
  · intro a w1 hJ hD hE hS K hK
    obtain ⟨hJ1, hJ2, hJ3⟩ := hJ
    have d_14 : a.tmps.getD 14 undef = (.pointer (some ⟨g1, 0, none⟩)) := hD (9, 14) (by simp)
    have f0 := (blk_cell hJ3 0).trans rfl; have f1 := (blk_cell hJ3 1).trans rfl; have f2 := (blk_cell hJ3 2).trans rfl; have f3 := (blk_cell hJ3 3).trans rfl; have f4 := (blk_cell hJ3 4).trans rfl; have f5 := (blk_cell hJ3 5).trans rfl; have f6 := (blk_cell hJ3 6).trans rfl
    clear hD hS
    refine wp_value (v := (.int .i64 (a0_0))) (w1 := w1) ?_ (hK _ _ (Below.refl _ _) rfl)
    clear hK
    go_simp
  · intro a w1 hJ hD hE hS K hK
    obtain ⟨hJ1, hJ2, hJ3⟩ := hJ
    have d_15 : a.tmps.getD 15 undef = (.int .i64 (a0_0)) := hD (10, 15) (by simp)
    clear hD hS
    refine wp_call Try.func34 (by kernel_rfl) rfl #[.int .i64 (a0_0), .int .i64 (2)] rfl (by simp only [List.map_toArray, List.map_cons, List.map_nil, Act.eval, d_15]) ?_
    refine (wave_low.calls k a0_0 2 y11 w1 H_y11.out).mono ?_
    rintro e w2 ⟨v, rfl, ho, hb⟩
    exact ⟨v, rfl, hK v w2 hb (row_of_R ho)⟩
  · intro a w1 hJ hD hE hS K hK
    obtain ⟨hJ1, hJ2, hJ3⟩ := hJ
    have s_2 : a.tmps.getD 2 undef = .pointer (some ⟨g1, 0, none⟩) := hS 2 (by simp)
    clear hD hS
    refine wp_value (v := (.pointer (some ⟨g1, 3, none⟩))) (w1 := w1) ?_ (hK _ _ (Below.refl _ _) rfl)
    clear hK
    go_simp
  · intro a w1 hJ hD hE hS K hK
    obtain ⟨hJ1, hJ2, hJ3⟩ := hJ
    have d_17 : a.tmps.getD 17 undef = (.pointer (some ⟨g1, 3, none⟩)) := hD (12, 17) (by simp)
    have f0 := (blk_cell hJ3 0).trans rfl; have f1 := (blk_cell hJ3 1).trans rfl; have f2 := (blk_cell hJ3 2).trans rfl; have f3 := (blk_cell hJ3 3).trans rfl; have f4 := (blk_cell hJ3 4).trans rfl; have f5 := (blk_cell hJ3 5).trans rfl; have f6 := (blk_cell hJ3 6).trans rfl
    clear hD hS
    refine wp_value (v := (.int .i64 (a0_3))) (w1 := w1) ?_ (hK _ _ (Below.refl _ _) rfl)
    clear hK
    go_simp
  · intro a w1 hJ hD hE hS K hK
    obtain ⟨hJ1, hJ2, hJ3⟩ := hJ
    have d_18 : a.tmps.getD 18 undef = (.int .i64 (a0_3)) := hD (13, 18) (by simp)
    clear hD hS
    refine wp_call Try.func34 (by kernel_rfl) rfl #[.int .i64 (a0_3), .int .i64 (4)] rfl (by simp only [List.map_toArray, List.map_cons, List.map_nil, Act.eval, d_18]) ?_
    refine (wave_low.calls k a0_3 4 y14 w1 H_y14.out).mono ?_
    rintro e w2 ⟨v, rfl, ho, hb⟩
    exact ⟨v, rfl, hK v w2 hb (row_of_R ho)⟩
  · intro a w1 hJ hD hE hS K hK
    obtain ⟨hJ1, hJ2, hJ3⟩ := hJ
    have s_2 : a.tmps.getD 2 undef = .pointer (some ⟨g1, 0, none⟩) := hS 2 (by simp)
    clear hD hS
    refine wp_value (v := (.pointer (some ⟨g1, 3, none⟩))) (w1 := w1) ?_ (hK _ _ (Below.refl _ _) rfl)
    clear hK
    go_simp
  · intro a w1 hJ hD hE hS K hK
    obtain ⟨hJ1, hJ2, hJ3⟩ := hJ
    have d_20 : a.tmps.getD 20 undef = (.pointer (some ⟨g1, 3, none⟩)) := hD (15, 20) (by simp)
    have f0 := (blk_cell hJ3 0).trans rfl; have f1 := (blk_cell hJ3 1).trans rfl; have f2 := (blk_cell hJ3 2).trans rfl; have f3 := (blk_cell hJ3 3).trans rfl; have f4 := (blk_cell hJ3 4).trans rfl; have f5 := (blk_cell hJ3 5).trans rfl; have f6 := (blk_cell hJ3 6).trans rfl
    clear hD hS
    refine wp_value (v := (.int .i64 (a0_3))) (w1 := w1) ?_ (hK _ _ (Below.refl _ _) rfl)
    clear hK
    go_simp
  · intro a w1 hJ hD hE hS K hK
    obtain ⟨hJ1, hJ2, hJ3⟩ := hJ
    have s_2 : a.tmps.getD 2 undef = .pointer (some ⟨g1, 0, none⟩) := hS 2 (by simp)
    have f0 := (blk_cell hJ3 0).trans rfl; have f1 := (blk_cell hJ3 1).trans rfl; have f2 := (blk_cell hJ3 2).trans rfl; have f3 := (blk_cell hJ3 3).trans rfl; have f4 := (blk_cell hJ3 4).trans rfl; have f5 := (blk_cell hJ3 5).trans rfl; have f6 := (blk_cell hJ3 6).trans rfl
    clear hD hS
    refine wp_value (v := (.agg #[.int .i64 a0_0, .int .i64 a0_1, .bool a0_2, .int .i64 a0_3, .int .i64 a0_4, .int .i64 a0_5, .int .i64 a0_6])) (w1 := w1) ?_ (hK _ _ (Below.refl _ _) rfl)
    clear hK
    go_simp
    all_goals rfl
  · intro a w1 hJ hD hE hS K hK
    obtain ⟨hJ1, hJ2, hJ3⟩ := hJ
    have d_22 : a.tmps.getD 22 undef = (.agg #[.int .i64 a0_0, .int .i64 a0_1, .bool a0_2, .int .i64 a0_3, .int .i64 a0_4, .int .i64 a0_5, .int .i64 a0_6]) := hD (17, 22) (by simp)
    clear hD hS
    refine wp_call Try.func11 (by kernel_rfl) rfl #[.agg #[.int .i64 a0_0, .int .i64 a0_1, .bool a0_2, .int .i64 a0_3, .int .i64 a0_4, .int .i64 a0_5, .int .i64 a0_6]] rfl (by simp only [List.map_toArray, List.map_cons, List.map_nil, Act.eval, d_22]) ?_
    refine (wave_Row.calls a0_0 a0_1 a0_2 a0_3 a0_4 a0_5 a0_6 z w1 H_z.out).mono ?_
    rintro e w2 ⟨rfl, hb⟩
    exact ⟨_, rfl, hK _ w2 hb rfl⟩
  · intro a w1 hJ hD hE hS K hK
    obtain ⟨hJ1, hJ2, hJ3⟩ := hJ
    have d_21 : a.tmps.getD 21 undef = (.int .i64 (a0_3)) := hD (16, 21) (by simp)
    have d_23 : a.tmps.getD 23 undef = (.int .i64 (z)) := hD (18, 23) (by simp)
    clear hD hS
    refine wp_value (v := (.int .i64 (wrap64 (a0_3 * z)))) (w1 := w1) ?_ (hK _ _ (Below.refl _ _) rfl)
    clear hK
    go_simp
    exact i64_w _
  · intro a w1 hJ hD hE hS K hK
    obtain ⟨hJ1, hJ2, hJ3⟩ := hJ
    have d_24 : a.tmps.getD 24 undef = (.int .i64 (wrap64 (a0_3 * z))) := hD (19, 24) (by simp)
    clear hD hS
    refine wp_call Try.func34 (by kernel_rfl) rfl #[.int .i64 ((wrap64 (a0_3 * z))), .int .i64 (4)] rfl (by simp only [List.map_toArray, List.map_cons, List.map_nil, Act.eval, d_24]) ?_
    refine (wave_low.calls k (wrap64 (a0_3 * z)) 4 y20 w1 H_y20.out).mono ?_
    rintro e w2 ⟨v, rfl, ho, hb⟩
    exact ⟨v, rfl, hK v w2 hb (row_of_R ho)⟩
  · intro a w1 hJ hD hE hS K hK
    obtain ⟨hJ1, hJ2, hJ3⟩ := hJ
    have s_2 : a.tmps.getD 2 undef = .pointer (some ⟨g1, 0, none⟩) := hS 2 (by simp)
    have f0 := (blk_cell hJ3 0).trans rfl; have f1 := (blk_cell hJ3 1).trans rfl; have f2 := (blk_cell hJ3 2).trans rfl; have f3 := (blk_cell hJ3 3).trans rfl; have f4 := (blk_cell hJ3 4).trans rfl; have f5 := (blk_cell hJ3 5).trans rfl; have f6 := (blk_cell hJ3 6).trans rfl
    clear hD hS
    refine wp_value (v := (.agg #[.int .i64 a0_0, .int .i64 a0_1, .bool a0_2, .int .i64 a0_3, .int .i64 a0_4, .int .i64 a0_5, .int .i64 a0_6])) (w1 := w1) ?_ (hK _ _ (Below.refl _ _) rfl)
    clear hK
    go_simp
    all_goals rfl
  · intro a w1 hJ hD hE hS K hK
    obtain ⟨hJ1, hJ2, hJ3⟩ := hJ
    have d_26 : a.tmps.getD 26 undef = (.agg #[.int .i64 a0_0, .int .i64 a0_1, .bool a0_2, .int .i64 a0_3, .int .i64 a0_4, .int .i64 a0_5, .int .i64 a0_6]) := hD (21, 26) (by simp)
    clear hD hS
    refine wp_call Try.func11 (by kernel_rfl) rfl #[.agg #[.int .i64 a0_0, .int .i64 a0_1, .bool a0_2, .int .i64 a0_3, .int .i64 a0_4, .int .i64 a0_5, .int .i64 a0_6]] rfl (by simp only [List.map_toArray, List.map_cons, List.map_nil, Act.eval, d_26]) ?_
    refine (wave_Row.calls a0_0 a0_1 a0_2 a0_3 a0_4 a0_5 a0_6 z w1 H_z.out).mono ?_
    rintro e w2 ⟨rfl, hb⟩
    exact ⟨_, rfl, hK _ w2 hb rfl⟩
  · intro a w1 hJ hD hE hS K hK
    obtain ⟨hJ1, hJ2, hJ3⟩ := hJ
    have d_27 : a.tmps.getD 27 undef = (.int .i64 (z)) := hD (22, 27) (by simp)
    clear hD hS
    refine wp_call Try.func34 (by kernel_rfl) rfl #[.int .i64 (z), .int .i64 (2)] rfl (by simp only [List.map_toArray, List.map_cons, List.map_nil, Act.eval, d_27]) ?_
    refine (wave_low.calls k z 2 y23 w1 H_y23.out).mono ?_
    rintro e w2 ⟨v, rfl, ho, hb⟩
    exact ⟨v, rfl, hK v w2 hb (row_of_R ho)⟩
  · intro a w1 hJ hD hE hS K hK
    obtain ⟨hJ1, hJ2, hJ3⟩ := hJ
    have s_2 : a.tmps.getD 2 undef = .pointer (some ⟨g1, 0, none⟩) := hS 2 (by simp)
    clear hD hS
    refine wp_value (v := (.pointer (some ⟨g1, 1, none⟩))) (w1 := w1) ?_ (hK _ _ (Below.refl _ _) rfl)
    clear hK
    go_simp
  · intro a w1 hJ hD hE hS K hK
    obtain ⟨hJ1, hJ2, hJ3⟩ := hJ
    have d_29 : a.tmps.getD 29 undef = (.pointer (some ⟨g1, 1, none⟩)) := hD (24, 29) (by simp)
    have f0 := (blk_cell hJ3 0).trans rfl; have f1 := (blk_cell hJ3 1).trans rfl; have f2 := (blk_cell hJ3 2).trans rfl; have f3 := (blk_cell hJ3 3).trans rfl; have f4 := (blk_cell hJ3 4).trans rfl; have f5 := (blk_cell hJ3 5).trans rfl; have f6 := (blk_cell hJ3 6).trans rfl
    clear hD hS
    refine wp_value (v := (.int .i64 (a0_1))) (w1 := w1) ?_ (hK _ _ (Below.refl _ _) rfl)
    clear hK
    go_simp
  · intro a w1 hJ hD hE hS K hK
    obtain ⟨hJ1, hJ2, hJ3⟩ := hJ
    have d_30 : a.tmps.getD 30 undef = (.int .i64 (a0_1)) := hD (25, 30) (by simp)
    clear hD hS
    refine wp_call Try.func34 (by kernel_rfl) rfl #[.int .i64 (a0_1), .int .i64 (2)] rfl (by simp only [List.map_toArray, List.map_cons, List.map_nil, Act.eval, d_30]) ?_
    refine (wave_low.calls k a0_1 2 y26 w1 H_y26.out).mono ?_
    rintro e w2 ⟨v, rfl, ho, hb⟩
    exact ⟨v, rfl, hK v w2 hb (row_of_R ho)⟩
  · intro a w1 hJ hD hE hS K hK
    obtain ⟨hJ1, hJ2, hJ3⟩ := hJ
    clear hD hS
    refine wp_value (v := .slice (some ⟨w1.heap.size, 0, none⟩) 4 4) (w1 := w1.alloc (.cells (List.map (Value.int .u8) [100, 97, 116, 97]).toArray 5)) ?_ (hK _ _ ((Below.refl _ _).alloc (Nat.le_refl _) _) (lit_made 5 [100, 97, 116, 97] hJ2))
    clear hK
    go_simp
  · intro a w1 hJ hD hE hS K hK
    obtain ⟨hJ1, hJ2, hJ3⟩ := hJ
    have d_32 : FK.holds w.heap.size 5 (.lit [100, 97, 116, 97]) (a.tmps.getD 32 undef) w1 := hD (27, 32) (by simp)
    clear hD hS
    obtain ⟨w2, hr, hm, hv⟩ := conv_lit2 d_32 Try.underlying27 Try.underlying5
    obtain ⟨vv, ev⟩ : ∃ v, a.tmps.getD 32 undef = v := ⟨_, rfl⟩
    rw [ev] at hr hv
    refine wp_value (v := vv) (w1 := w2) ?_ (hK _ _ hm hv)
    clear hK hm hv d_32
    go_simp
  · intro a w1 hJ hD hE hS K hK
    obtain ⟨hJ1, hJ2, hJ3⟩ := hJ
    have s_1 : a.tmps.getD 1 undef = .int .i64 a1 := hS 1 (by simp)
    clear hD hS
    refine wp_value (v := (.int .i64 (a1))) (w1 := w1) ?_ (hK _ _ (Below.refl _ _) rfl)
    clear hK
    go_simp
  · intro a w1 hJ hD hE hS K hK
    obtain ⟨hJ1, hJ2, hJ3⟩ := hJ
    have d_34 : a.tmps.getD 34 undef = (.int .i64 (a1)) := hD (29, 34) (by simp)
    clear hD hS
    refine wp_call Try.func34 (by kernel_rfl) rfl #[.int .i64 (a1), .int .i64 (4)] rfl (by simp only [List.map_toArray, List.map_cons, List.map_nil, Act.eval, d_34]) ?_
    refine (wave_low.calls k a1 4 y30 w1 H_y30.out).mono ?_
    rintro e w2 ⟨v, rfl, ho, hb⟩
    exact ⟨v, rfl, hK v w2 hb (row_of_R ho)⟩
  · intro a w1 hJ hD hE hS K hK
    obtain ⟨hJ1, hJ2, hJ3⟩ := hJ
    have d_6 : FK.holds w.heap.size 5 (.mrow [82, 73, 70, 70]) (a.tmps.getD 6 undef) w1 := hD (1, 6) (by simp)
    have d_9 : FK.holds w.heap.size 5 (.row y4) (a.tmps.getD 9 undef) w1 := hD (4, 9) (by simp)
    have d_11 : FK.holds w.heap.size 5 (.mrow [87, 65, 86, 69, 102, 109, 116, 32]) (a.tmps.getD 11 undef) w1 := hD (6, 11) (by simp)
    have d_12 : FK.holds w.heap.size 5 (.row y7) (a.tmps.getD 12 undef) w1 := hD (7, 12) (by simp)
    have d_13 : FK.holds w.heap.size 5 (.row y8) (a.tmps.getD 13 undef) w1 := hD (8, 13) (by simp)
    have d_16 : FK.holds w.heap.size 5 (.row y11) (a.tmps.getD 16 undef) w1 := hD (11, 16) (by simp)
    have d_19 : FK.holds w.heap.size 5 (.row y14) (a.tmps.getD 19 undef) w1 := hD (14, 19) (by simp)
    have d_25 : FK.holds w.heap.size 5 (.row y20) (a.tmps.getD 25 undef) w1 := hD (20, 25) (by simp)
    have d_28 : FK.holds w.heap.size 5 (.row y23) (a.tmps.getD 28 undef) w1 := hD (23, 28) (by simp)
    have d_31 : FK.holds w.heap.size 5 (.row y26) (a.tmps.getD 31 undef) w1 := hD (26, 31) (by simp)
    have d_33 : FK.holds w.heap.size 5 (.mrow [100, 97, 116, 97]) (a.tmps.getD 33 undef) w1 := hD (28, 33) (by simp)
    have d_35 : FK.holds w.heap.size 5 (.row y30) (a.tmps.getD 35 undef) w1 := hD (30, 35) (by simp)
    clear hD hS
    have r_6 : RowIs w1 (a.tmps.getD 6 undef) ([82, 73, 70, 70]) := (MRowIs.row d_6 (by simp))
    have r_9 : RowIs w1 (a.tmps.getD 9 undef) (y4) := d_9
    have r_11 : RowIs w1 (a.tmps.getD 11 undef) ([87, 65, 86, 69, 102, 109, 116, 32]) := (MRowIs.row d_11 (by simp))
    have r_12 : RowIs w1 (a.tmps.getD 12 undef) (y7) := d_12
    have r_13 : RowIs w1 (a.tmps.getD 13 undef) (y8) := d_13
    have r_16 : RowIs w1 (a.tmps.getD 16 undef) (y11) := d_16
    have r_19 : RowIs w1 (a.tmps.getD 19 undef) (y14) := d_19
    have r_25 : RowIs w1 (a.tmps.getD 25 undef) (y20) := d_25
    have r_28 : RowIs w1 (a.tmps.getD 28 undef) (y23) := d_28
    have r_31 : RowIs w1 (a.tmps.getD 31 undef) (y26) := d_31
    have r_33 : RowIs w1 (a.tmps.getD 33 undef) ([100, 97, 116, 97]) := (MRowIs.row d_33 (by simp))
    have r_35 : RowIs w1 (a.tmps.getD 35 undef) (y30) := d_35
    have hrows := RowsAre.cons r_6 (RowsAre.cons r_9 (RowsAre.cons r_11 (RowsAre.cons r_12 (RowsAre.cons r_13 (RowsAre.cons r_16 (RowsAre.cons r_19 (RowsAre.cons r_25 (RowsAre.cons r_28 (RowsAre.cons r_31 (RowsAre.cons r_33 (RowsAre.cons r_35 (RowsAre.nil))))))))))))
    have hC := rows_made (e := 5) (E := 27) hrows (by simp)
    obtain ⟨A6, c6, e6, _, _⟩ := r_6
    obtain ⟨A9, c9, e9, _, _⟩ := r_9
    obtain ⟨A11, c11, e11, _, _⟩ := r_11
    obtain ⟨A12, c12, e12, _, _⟩ := r_12
    obtain ⟨A13, c13, e13, _, _⟩ := r_13
    obtain ⟨A16, c16, e16, _, _⟩ := r_16
    obtain ⟨A19, c19, e19, _, _⟩ := r_19
    obtain ⟨A25, c25, e25, _, _⟩ := r_25
    obtain ⟨A28, c28, e28, _, _⟩ := r_28
    obtain ⟨A31, c31, e31, _, _⟩ := r_31
    obtain ⟨A33, c33, e33, _, _⟩ := r_33
    obtain ⟨A35, c35, e35, _, _⟩ := r_35
    clear hrows d_6 d_9 d_11 d_12 d_13 d_16 d_19 d_25 d_28 d_31 d_33 d_35
    refine wp_value (v := .slice (some ⟨w1.heap.size, 0, none⟩) 12 12) ?_ (hK _ _ ((Below.refl _ _).alloc (Nat.le_refl _) _) ⟨_, by rw [HLn.out]; rfl, by rw [← HL.out] at hC; exact hC⟩)
    clear hK hC
    rw [Array.getD_eq_getD_getElem?] at e6
    rw [Array.getD_eq_getD_getElem?] at e9
    rw [Array.getD_eq_getD_getElem?] at e11
    rw [Array.getD_eq_getD_getElem?] at e12
    rw [Array.getD_eq_getD_getElem?] at e13
    rw [Array.getD_eq_getD_getElem?] at e16
    rw [Array.getD_eq_getD_getElem?] at e19
    rw [Array.getD_eq_getD_getElem?] at e25
    rw [Array.getD_eq_getD_getElem?] at e28
    rw [Array.getD_eq_getD_getElem?] at e31
    rw [Array.getD_eq_getD_getElem?] at e33
    rw [Array.getD_eq_getD_getElem?] at e35
    go_simp
  · intro a w1 hJ hD hE hS K hK
    obtain ⟨hJ1, hJ2, hJ3⟩ := hJ
    have d_36 : FK.holds w.heap.size 5 (.rows L) (a.tmps.getD 36 undef) w1 := hD (31, 36) (by simp)
    clear hD hS
    obtain ⟨A, eA, hC⟩ := d_36
    refine wp_call Try.func33 (by kernel_rfl) rfl #[.slice A L.length L.length] rfl (by simp only [List.map_toArray, List.map_cons, List.map_nil, Act.eval, eA]) ?_
    refine (slices_Concat_byte_byte.calls A L.length L r w1 hC (Nat.le_refl _) H_r.out).mono ?_
    rintro e w2 ⟨v, rfl, ho, hb⟩
    exact ⟨v, rfl, hK v w2 hb ⟨Kd.R_lower ho hJ2, r, rfl⟩⟩
  · intro a w1 hJ hD hE hS K hK
    obtain ⟨hJ1, hJ2, hJ3⟩ := hJ
    have d_37 : FK.holds w.heap.size 5 (.own [] r) (a.tmps.getD 37 undef) w1 := hD (32, 37) (by simp)
    clear hD hS
    refine wp_value (v := a.tmps.getD 37 undef) (w1 := w1) ?_ (hK _ _ (Below.refl _ _) d_37)
    clear hK d_37
    go_simp
  · intro vs W hB hX hF
    have h33 : Kd.R (Kd.int .u8) 5 W w.heap.size (fun _ => True) (vs 33) r := (hF 33 (by decide) (by kernel_rfl)).1
    clear hF
    generalize vs 33 = v33 at h33
    simp only [putL, Act.put, List.setIfInBounds_toArray, List.set_cons_zero, List.set_cons_succ]
    go_wp2
    go_ret
    exact ⟨_, rfl, h33, hB⟩

end Go.Proofs.Ytliidobbkfmndaa.HW2

namespace Go.Proofs.Ytliidobbkfmndaa.HW2
open Go.RowKit Go.Proofs.YtliidobbkfmndaaW.PrintWords Go.Proofs.YtliidobbkfmndaaW.PrintLast Go.Proofs.YtliidobbkfmndaaW.PrintMore
attribute [local go_sem] max2_int min2_int max_two min_two max_three min_three max_four min_four   -- for this text's walks alone
set_option linter.unusedVariables false
set_option linter.unusedSimpArgs false

/-! ### wave_Write: function 7, by hand -/
structure AsideW (p : Prop) : Prop where mk :: (out : p)
def notB (s : Int) (c : List Int) : Bool := decide ((c.length : Int) ≠ s)
theorem wr1_calls (s : Int) (A : Option Addr) (n c b : Nat) (W : World) (hb : W.cell? ⟨b, 6, none⟩ = some (.int .i64 s)) :
    Calls Try.prog 14 #[.slice A n c, .pointer (some ⟨b, 0, none⟩)] W fun e W' => e = .returned (.bool (decide ((n : Int) ≠ s))) ∧ Below W.heap.size W W' := by
  have hu23 := Try.underlying23
  by_cases h : (n : Int) = s
  · have h1 : ((n : Int) == s) = true := beq_iff_eq.mpr h
    have h2 : ((n : Int) != s) = false := bne_eq_false_iff_eq.mpr h
    have H := AsideW.mk h
    clear h
    go_enter Try.func14, Try.ntmps14
    go_wp2
    go_ret
    exact ⟨by rw [decide_eq_false (by rw [H.out]; simp)]; rfl, Below.refl _ _⟩
  · have h1 : ((n : Int) == s) = false := beq_eq_false_iff_ne.mpr h
    have h2 : ((n : Int) != s) = true := bne_iff_ne.mpr h
    have H := AsideW.mk h
    clear h
    go_enter Try.func14, Try.ntmps14
    go_wp2
    go_ret
    exact ⟨by rw [decide_eq_true H.out]; rfl, Below.refl _ _⟩
set_option maxRecDepth 100000 in
set_option maxHeartbeats 1000000 in
theorem write_main (k : Nat) (a0_0 : Int) (a0_1 : Int) (a0_2 : Bool) (a0_3 : Int) (a0_4 : Int) (a0_5 : Int) (a0_6 : Int) (A1 : Option Addr) (c1 : Nat) (l1 : List (List Int)) (z x y : List Int) (w : World) (hr1 : Kd.C (Kd.slice 3 (Kd.int .i64)) w A1 l1.length l1) (hc1 : l1.length ≤ c1) (hg : head_Good.f a0_0 a0_1 a0_2 a0_3 a0_4 a0_5 a0_6 = some true) (hl : (l1.length : Int) = a0_0) (ha : l1.any (notB a0_6) = false) (hp : pack_Pack.f k a0_1 false l1 = some (z, 0)) (hf : wave_first.f k a0_0 a0_1 a0_2 a0_3 a0_4 a0_5 a0_6 (z.length : Int) = some x) (ht : wave_turn.f a0_0 a0_1 a0_2 a0_3 a0_4 a0_5 a0_6 z = some y) (hxy : x.length + y.length ≤ 1000000000) :
    Calls Try.prog 7 #[.agg #[.int .i64 a0_0, .int .i64 a0_1, .bool a0_2, .int .i64 a0_3, .int .i64 a0_4, .int .i64 a0_5, .int .i64 a0_6], .slice A1 l1.length c1] w fun e w' => ∃ v0_ : Value, e = .returned (.tuple #[v0_, .int .i64 0]) ∧ Kd.R (Kd.int .u8) 5 w' w.heap.size (fun _ => True) v0_ (x ++ y) ∧ Below w.heap.size w w' := by
  have hu23 := Try.underlying23
  have HG := AsideW.mk (fun W => head_Good.calls a0_0 a0_1 a0_2 a0_3 a0_4 a0_5 a0_6 true W hg)
  have HA := AsideW.mk (fun (b : Nat) (W : World) (hW : Below w.heap.size w W) (hb : W.cell? ⟨b, 6, none⟩ = some (.int .i64 a0_6)) => by
    have h := slices_ContainsFunc_rows.gives (notB a0_6) 14 #[.pointer (some ⟨b, 0, none⟩)] (enters_of Try.func14 (by kernel_rfl) rfl) A1 c1 l1 W (Kd.C_below hr1 hW) (fun x A' c W' _ hW' _ _ => wr1_calls a0_6 A' x.length c b W' (pw_cell_below hW' hb))
    rw [ha] at h
    exact h)
  have HFO := AsideW.mk (fun W => wave_form.calls a0_0 a0_1 a0_2 a0_3 a0_4 a0_5 a0_6 a0_1 false W (by rfl))
  have HPK := AsideW.mk (fun (W : World) (hW : Below w.heap.size w W) => pack_Pack.calls k a0_1 false A1 c1 l1 z 0 W (Kd.C_below hr1 hW) hc1 hp)
  have HFI := AsideW.mk (fun W => wave_first.calls k a0_0 a0_1 a0_2 a0_3 a0_4 a0_5 a0_6 (z.length : Int) x W hf)
  obtain ⟨m, hm⟩ : ∃ m, z.length = m := ⟨_, rfl⟩
  have HTU := AsideW.mk (fun {b0 : Nat} {A : Option Addr} {c : Nat} (W : World) (hR : Kd.R (Kd.int .u8) 5 W b0 (fun _ => True) (.slice A m c) z) => by
    obtain ⟨q1, q2, q3⟩ := Kd.R_reads' hR
    have h := wave_turn.calls a0_0 a0_1 a0_2 a0_3 a0_4 a0_5 a0_6 A c z y W q3 (by omega) ht
    rw [hm] at h
    exact h)
  have HXY := AsideW.mk hxy
  rw [hm] at HFI
  obtain ⟨n, hn⟩ : ∃ n, l1.length = n := ⟨_, rfl⟩
  rw [hn] at hl HA HPK ⊢
  have hinfo : ((Try.prog).info? 5).map (fun i => (i.zero, i.size, i.bytes)) = some (some (.int .u8 0), 1, 1) := by kernel_rfl
  have HI := AsideW.mk hinfo
  have hl1 : ((n : Int) == a0_0) = true := beq_iff_eq.mpr hl
  have hl2 : ((n : Int) != a0_0) = false := bne_eq_false_iff_eq.mpr hl
  clear hr1 hc1 hg ha hp hf ht hxy hinfo hn hl
  go_enter Try.func7, Try.ntmps7
  go_wp2_with (first | ((with_reducible refine gate_dst (N := 2) rfl ?_); refine box_event ?hg (N := 2) ?hd (cs := #[.int .i64 a0_0, .int .i64 a0_1, .bool a0_2, .int .i64 a0_3, .int .i64 a0_4, .int .i64 a0_5, .int .i64 a0_6]) (t := 23) ?hr ?_; (case hd => rfl); (case hg => rfl); (case hr => first | (go_simp; done) | (go_simp; rfl)); intro g1 hg1 wx hbox1 hb1; clear hg1; have HX0 := AsideW.mk hbox1; have HB0 := AsideW.mk hb1; have f0 := (blk_cell HX0.out 0).trans rfl; have f1 := (blk_cell HX0.out 1).trans rfl; have f2 := (blk_cell HX0.out 2).trans rfl; have f3 := (blk_cell HX0.out 3).trans rfl; have f4 := (blk_cell HX0.out 4).trans rfl; have f5 := (blk_cell HX0.out 5).trans rfl; have f6 := (blk_cell HX0.out 6).trans rfl; clear hbox1 hb1) | (go_at_call 12; refine (HG.out _).mono ?_; rintro e w1 ⟨rfl, hd⟩; have HX1 := AsideW.mk (blk_below HX0.out hd); have HB1 := AsideW.mk (below_step HB0.out hd); clear f0 f1 f2 f3 f4 f5 f6 hd; have f0 := (blk_cell HX1.out 0).trans rfl; have f1 := (blk_cell HX1.out 1).trans rfl; have f2 := (blk_cell HX1.out 2).trans rfl; have f3 := (blk_cell HX1.out 3).trans rfl; have f4 := (blk_cell HX1.out 4).trans rfl; have f5 := (blk_cell HX1.out 5).trans rfl; have f6 := (blk_cell HX1.out 6).trans rfl) | (go_at_call 13; refine (HA.out g1 _ HB1.out ((blk_cell HX1.out 6).trans rfl)).mono ?_; rintro e w2 ⟨rfl, hd⟩; have HX2 := AsideW.mk (blk_below HX1.out hd); have HB2 := AsideW.mk (below_step HB1.out hd); clear f0 f1 f2 f3 f4 f5 f6 hd; have f0 := (blk_cell HX2.out 0).trans rfl; have f1 := (blk_cell HX2.out 1).trans rfl; have f2 := (blk_cell HX2.out 2).trans rfl; have f3 := (blk_cell HX2.out 3).trans rfl; have f4 := (blk_cell HX2.out 4).trans rfl; have f5 := (blk_cell HX2.out 5).trans rfl; have f6 := (blk_cell HX2.out 6).trans rfl) | (go_at_call 16; refine (HFO.out _).mono ?_; rintro e w3 ⟨rfl, hd⟩; have HX3 := AsideW.mk (blk_below HX2.out hd); have HB3 := AsideW.mk (below_step HB2.out hd); clear f0 f1 f2 f3 f4 f5 f6 hd; have f0 := (blk_cell HX3.out 0).trans rfl; have f1 := (blk_cell HX3.out 1).trans rfl; have f2 := (blk_cell HX3.out 2).trans rfl; have f3 := (blk_cell HX3.out 3).trans rfl; have f4 := (blk_cell HX3.out 4).trans rfl; have f5 := (blk_cell HX3.out 5).trans rfl; have f6 := (blk_cell HX3.out 6).trans rfl) | (go_at_call 15; refine (HPK.out _ HB3.out).mono ?_; rintro e w5 ⟨v6, rfl, ho, hd⟩; have HO6 := AsideW.mk ho; have HX5 := AsideW.mk (blk_below HX3.out hd); have HB5 := AsideW.mk (below_step HB3.out hd); clear f0 f1 f2 f3 f4 f5 f6 hd; have f0 := (blk_cell HX5.out 0).trans rfl; have f1 := (blk_cell HX5.out 1).trans rfl; have f2 := (blk_cell HX5.out 2).trans rfl; have f3 := (blk_cell HX5.out 3).trans rfl; have f4 := (blk_cell HX5.out 4).trans rfl; have f5 := (blk_cell HX5.out 5).trans rfl; have f6 := (blk_cell HX5.out 6).trans rfl; obtain ⟨A6, c6, e6⟩ := Kd.R_slice HO6.out; rw [hm] at e6; subst e6; clear ho))
  refine start_ (n := 10) (S := fun w' => w'.cell? ⟨g1, 0, none⟩ = some (.int .i64 a0_0) ∧ w'.cell? ⟨g1, 1, none⟩ = some (.int .i64 a0_1) ∧ w'.cell? ⟨g1, 2, none⟩ = some (.bool a0_2) ∧ w'.cell? ⟨g1, 3, none⟩ = some (.int .i64 a0_3) ∧ w'.cell? ⟨g1, 4, none⟩ = some (.int .i64 a0_4) ∧ w'.cell? ⟨g1, 5, none⟩ = some (.int .i64 a0_5) ∧ w'.cell? ⟨g1, 6, none⟩ = some (.int .i64 a0_6)) (ds := [7]) #[false, false, false, false, false, false, false, false, false, false] (by kernel_rfl) rfl rfl ⟨f0, f1, f2, f3, f4, f5, f6⟩ (fun hHeld => ?_)
  refine pure_ (i := 1) (N := some 34) (v := ?_) (a' := ?_) #[false, true, false, false, false, false, false, false, false, false] rfl rfl (by kernel_rfl) (fun _ _ _ h => h) (Or.inl ⟨by rfl, ?_⟩) ?_ ?_
  rotate_left
  · intro w'
    go_simp
    with_reducible rfl
  rotate_left
  · simp only [Act.put, List.setIfInBounds_toArray, List.set_cons_zero, List.set_cons_succ, i64_w, i32_w]
    rfl
  refine pure_ (i := 2) (N := some 35) (v := ?_) (a' := ?_) #[false, true, true, false, false, false, false, false, false, false] rfl rfl (by kernel_rfl) (fun _ _ _ h => h) (Or.inl ⟨by rfl, ?_⟩) ?_ ?_
  rotate_left
  · intro w'
    go_simp
    with_reducible rfl
  rotate_left
  · simp only [Act.put, List.setIfInBounds_toArray, List.set_cons_zero, List.set_cons_succ, i64_w, i32_w]
    rfl
  refine pure_ (i := 5) (N := some 38) (v := ?_) (a' := ?_) #[false, true, true, false, false, true, false, false, false, false] rfl rfl (by kernel_rfl) (fun _ _ _ h => h) (Or.inl ⟨by rfl, ?_⟩) ?_ ?_
  rotate_left
  · intro w'
    go_simp
    with_reducible rfl
  rotate_left
  · simp only [Act.put, List.setIfInBounds_toArray, List.set_cons_zero, List.set_cons_succ, i64_w, i32_w]
    rfl
  refine take_ (i := 0) (N := some 33) (v := ?_) (a' := ?_) #[true, true, true, false, false, true, false, false, false, false] rfl rfl (by kernel_rfl) (fun _ _ _ h => h) (Or.inl ⟨by rfl, ?_⟩) hHeld ?_ ?_
  rotate_left
  · rintro w' ⟨s0, s1, s2, s3, s4, s5, s6⟩
    go_simp
    with_reducible rfl
  rotate_left
  · simp only [Act.put, List.setIfInBounds_toArray, List.set_cons_zero, List.set_cons_succ, i64_w, i32_w]
    rfl
  refine take_ (i := 4) (N := some 37) (v := ?_) (a' := ?_) #[true, true, true, false, true, true, false, false, false, false] rfl rfl (by kernel_rfl) (fun _ _ _ h => h) (Or.inl ⟨by rfl, ?_⟩) hHeld ?_ ?_
  rotate_left
  · rintro w' ⟨s0, s1, s2, s3, s4, s5, s6⟩
    go_simp
    with_reducible rfl
  rotate_left
  · simp only [Act.put, List.setIfInBounds_toArray, List.set_cons_zero, List.set_cons_succ, i64_w, i32_w]
    rfl
  refine one_ (i := 3) (N := some 36) #[true, true, true, true, true, true, false, false, false, false] rfl rfl (by kernel_rfl) (by decide) (fun K hK => ?_)
  refine goes_ Try.func17 (by kernel_rfl) rfl #[.agg #[.int .i64 a0_0, .int .i64 a0_1, .bool a0_2, .int .i64 a0_3, .int .i64 a0_4, .int .i64 a0_5, .int .i64 a0_6], .int .i64 (m : Int)] (by rfl) rfl rfl (by simp only [List.map_toArray, List.map_cons, List.map_nil]; rfl) ?_
  with_reducible refine (HFI.out _).mono ?_
  rintro e wq ⟨vF, rfl, hoF, hbF⟩
  refine ⟨_, rfl, ?_⟩
  have hX5 := blk_below (w := w5.drew) HX5.out hbF
  have HOF := AsideW.mk hoF
  have HBF := AsideW.mk hbF
  refine hK.out _ _ ⟨(blk_cell (hX5) 0).trans rfl, (blk_cell (hX5) 1).trans rfl, (blk_cell (hX5) 2).trans rfl, (blk_cell (hX5) 3).trans rfl, (blk_cell (hX5) 4).trans rfl, (blk_cell (hX5) 5).trans rfl, (blk_cell (hX5) 6).trans rfl⟩ (fun hHeld => ?_)
  clear hK K
  refine norm_ (a' := ?_) ?_ ?_
  rotate_left
  · show Act.put _ (some 36) _ = _
    simp only [Act.put, List.setIfInBounds_toArray, List.set_cons_zero, List.set_cons_succ, i64_w, i32_w]
    rfl
  refine one_ (i := 6) (N := some 39) #[true, true, true, true, true, true, true, false, false, false] rfl rfl (by kernel_rfl) (by decide) (fun K hK => ?_)
  refine goes_ Try.func18 (by kernel_rfl) rfl #[.agg #[.int .i64 a0_0, .int .i64 a0_1, .bool a0_2, .int .i64 a0_3, .int .i64 a0_4, .int .i64 a0_5, .int .i64 a0_6], .slice A6 m c6] (by rfl) rfl rfl (by simp only [List.map_toArray, List.map_cons, List.map_nil]; rfl) ?_
  with_reducible refine (HTU.out _ (Kd.R_below (Kd.R_drew HO6.out) HBF.out)).mono ?_
  rintro e wt ⟨vT, rfl, hoT, hbT⟩
  refine ⟨_, rfl, ?_⟩
  have hX6 := blk_below hX5 hbT
  have HOT := AsideW.mk hoT
  have HBT := AsideW.mk hbT
  obtain ⟨AT, cT, eT⟩ := Kd.R_slice hoT
  generalize y.length = ny at eT
  subst eT
  refine hK.out _ _ ⟨(blk_cell (hX6) 0).trans rfl, (blk_cell (hX6) 1).trans rfl, (blk_cell (hX6) 2).trans rfl, (blk_cell (hX6) 3).trans rfl, (blk_cell (hX6) 4).trans rfl, (blk_cell (hX6) 5).trans rfl, (blk_cell (hX6) 6).trans rfl⟩ (fun hHeld => ?_)
  clear hK K
  refine norm_ (a' := ?_) ?_ ?_
  rotate_left
  · show Act.put _ (some 39) _ = _
    simp only [Act.put, List.setIfInBounds_toArray, List.set_cons_zero, List.set_cons_succ, i64_w, i32_w]
    rfl
  refine last_ (i := 7) (N := some 40) #[true, true, true, true, true, true, true, true, false, false] rfl rfl (by kernel_rfl) (by decide) (fun K hK => ?_)
  obtain ⟨qq1, qq2, qq3⟩ := Kd.R_reads' HOT.out
  refine Kd.R_append_rows_step (Kd.int .u8) (w0 := w) w.heap.size (by rfl) (.tmp 36) (.tmp 39) 27 5 (.int .u8 0) 1 rfl Try.underlying27 HI.out rfl (by decide) (by decide) vF x y AT ny cT (fun _ => True) (fun _ => False) rfl rfl (Kd.R_lower (Kd.R_below HOF.out HBT.out) (below_size (below_drew HB5.out))) (by rw [qq1]; exact qq3) (fun _ _ h => h) (fun _ h => h.elim) (fun _ _ => trivial) (below_step (below_step (below_drew HB5.out) HBF.out) HBT.out) (below_step (below_step (below_drew HB5.out) HBF.out) HBT.out).size (by have := HXY.out; omega) ?_
  intro vZ wz hRZ hBZ hgZ hatZ
  have HZ := AsideW.mk hRZ
  have HBZ := AsideW.mk hBZ
  refine hK.out _ _ ?_
  clear hK K
  refine norm_ (a' := ?_) ?_ ?_
  rotate_left
  · show Act.put _ (some 40) _ = _
    simp only [Act.put, List.setIfInBounds_toArray, List.set_cons_zero, List.set_cons_succ, i64_w, i32_w]
    rfl
  refine pure_ (i := 8) (N := some 4) (v := ?_) (a' := ?_) #[true, true, true, true, true, true, true, true, true, false] rfl rfl (by kernel_rfl) (fun _ _ _ h => h) (Or.inl ⟨by rfl, ?_⟩) ?_ ?_
  rotate_left
  · intro w'
    go_simp
    with_reducible rfl
  rotate_left
  · simp only [Act.put, List.setIfInBounds_toArray, List.set_cons_zero, List.set_cons_succ, i64_w, i32_w]
    rfl
  refine pure_ (i := 9) (N := some 5) (v := ?_) (a' := ?_) #[true, true, true, true, true, true, true, true, true, true] rfl rfl (by kernel_rfl) (fun _ _ _ h => h) (Or.inl ⟨by rfl, ?_⟩) ?_ ?_
  rotate_left
  · intro w'
    go_simp
    with_reducible rfl
  rotate_left
  · simp only [Act.put, List.setIfInBounds_toArray, List.set_cons_zero, List.set_cons_succ, i64_w, i32_w]
    rfl
  refine done_ (by kernel_rfl) ?_
  go_wp2
  go_ret2
  exact ⟨_, rfl, HZ.out, HBZ.out⟩

set_option maxRecDepth 100000 in
set_option maxHeartbeats 1000000 in
theorem write_e7 (a0_0 : Int) (a0_1 : Int) (a0_2 : Bool) (a0_3 : Int) (a0_4 : Int) (a0_5 : Int) (a0_6 : Int) (A1 : Option Addr) (c1 : Nat) (n : Nat) (w : World) (hg : head_Good.f a0_0 a0_1 a0_2 a0_3 a0_4 a0_5 a0_6 = some false) :
    Calls Try.prog 7 #[.agg #[.int .i64 a0_0, .int .i64 a0_1, .bool a0_2, .int .i64 a0_3, .int .i64 a0_4, .int .i64 a0_5, .int .i64 a0_6], .slice A1 n c1] w fun e w' => e = .returned (.tuple #[.slice none 0 0, .int .i64 7]) ∧ Below w.heap.size w w' := by
  have hu23 := Try.underlying23
  have HG := AsideW.mk (fun W => head_Good.calls a0_0 a0_1 a0_2 a0_3 a0_4 a0_5 a0_6 false W hg)
  clear hg
  go_enter Try.func7, Try.ntmps7
  go_wp2_with (first | ((with_reducible refine gate_dst (N := 2) rfl ?_); refine box_event ?hg (N := 2) ?hd (cs := #[.int .i64 a0_0, .int .i64 a0_1, .bool a0_2, .int .i64 a0_3, .int .i64 a0_4, .int .i64 a0_5, .int .i64 a0_6]) (t := 23) ?hr ?_; (case hd => rfl); (case hg => rfl); (case hr => first | (go_simp; done) | (go_simp; rfl)); intro g1 hg1 wx hbox1 hb1; clear hg1; have HX0 := AsideW.mk hbox1; have HB0 := AsideW.mk hb1; have f0 := (blk_cell HX0.out 0).trans rfl; have f1 := (blk_cell HX0.out 1).trans rfl; have f2 := (blk_cell HX0.out 2).trans rfl; have f3 := (blk_cell HX0.out 3).trans rfl; have f4 := (blk_cell HX0.out 4).trans rfl; have f5 := (blk_cell HX0.out 5).trans rfl; have f6 := (blk_cell HX0.out 6).trans rfl; clear hbox1 hb1) | (go_at_call 12; refine (HG.out _).mono ?_; rintro e w1 ⟨rfl, hd⟩; have HX1 := AsideW.mk (blk_below HX0.out hd); have HB1 := AsideW.mk (below_step HB0.out hd); clear f0 f1 f2 f3 f4 f5 f6 hd; have f0 := (blk_cell HX1.out 0).trans rfl; have f1 := (blk_cell HX1.out 1).trans rfl; have f2 := (blk_cell HX1.out 2).trans rfl; have f3 := (blk_cell HX1.out 3).trans rfl; have f4 := (blk_cell HX1.out 4).trans rfl; have f5 := (blk_cell HX1.out 5).trans rfl; have f6 := (blk_cell HX1.out 6).trans rfl))
  go_ret2
  exact ⟨rfl, HB1.out⟩
set_option maxRecDepth 100000 in
set_option maxHeartbeats 1000000 in
theorem write_e8 (a0_0 : Int) (a0_1 : Int) (a0_2 : Bool) (a0_3 : Int) (a0_4 : Int) (a0_5 : Int) (a0_6 : Int) (A1 : Option Addr) (c1 : Nat) (n : Nat) (w : World) (hg : head_Good.f a0_0 a0_1 a0_2 a0_3 a0_4 a0_5 a0_6 = some true) (hl : ¬ (n : Int) = a0_0) :
    Calls Try.prog 7 #[.agg #[.int .i64 a0_0, .int .i64 a0_1, .bool a0_2, .int .i64 a0_3, .int .i64 a0_4, .int .i64 a0_5, .int .i64 a0_6], .slice A1 n c1] w fun e w' => e = .returned (.tuple #[.slice none 0 0, .int .i64 8]) ∧ Below w.heap.size w w' := by
  have hu23 := Try.underlying23
  have HG := AsideW.mk (fun W => head_Good.calls a0_0 a0_1 a0_2 a0_3 a0_4 a0_5 a0_6 true W hg)
  have hl1 : ((n : Int) == a0_0) = false := beq_eq_false_iff_ne.mpr hl
  have hl2 : ((n : Int) != a0_0) = true := bne_iff_ne.mpr hl
  clear hg hl
  go_enter Try.func7, Try.ntmps7
  go_wp2_with (first | ((with_reducible refine gate_dst (N := 2) rfl ?_); refine box_event ?hg (N := 2) ?hd (cs := #[.int .i64 a0_0, .int .i64 a0_1, .bool a0_2, .int .i64 a0_3, .int .i64 a0_4, .int .i64 a0_5, .int .i64 a0_6]) (t := 23) ?hr ?_; (case hd => rfl); (case hg => rfl); (case hr => first | (go_simp; done) | (go_simp; rfl)); intro g1 hg1 wx hbox1 hb1; clear hg1; have HX0 := AsideW.mk hbox1; have HB0 := AsideW.mk hb1; have f0 := (blk_cell HX0.out 0).trans rfl; have f1 := (blk_cell HX0.out 1).trans rfl; have f2 := (blk_cell HX0.out 2).trans rfl; have f3 := (blk_cell HX0.out 3).trans rfl; have f4 := (blk_cell HX0.out 4).trans rfl; have f5 := (blk_cell HX0.out 5).trans rfl; have f6 := (blk_cell HX0.out 6).trans rfl; clear hbox1 hb1) | (go_at_call 12; refine (HG.out _).mono ?_; rintro e w1 ⟨rfl, hd⟩; have HX1 := AsideW.mk (blk_below HX0.out hd); have HB1 := AsideW.mk (below_step HB0.out hd); clear f0 f1 f2 f3 f4 f5 f6 hd; have f0 := (blk_cell HX1.out 0).trans rfl; have f1 := (blk_cell HX1.out 1).trans rfl; have f2 := (blk_cell HX1.out 2).trans rfl; have f3 := (blk_cell HX1.out 3).trans rfl; have f4 := (blk_cell HX1.out 4).trans rfl; have f5 := (blk_cell HX1.out 5).trans rfl; have f6 := (blk_cell HX1.out 6).trans rfl))
  go_ret2
  exact ⟨rfl, HB1.out⟩
set_option maxRecDepth 100000 in
set_option maxHeartbeats 1000000 in
theorem write_e8b (a0_0 : Int) (a0_1 : Int) (a0_2 : Bool) (a0_3 : Int) (a0_4 : Int) (a0_5 : Int) (a0_6 : Int) (A1 : Option Addr) (c1 : Nat) (l1 : List (List Int)) (w : World) (hr1 : Kd.C (Kd.slice 3 (Kd.int .i64)) w A1 l1.length l1) (hg : head_Good.f a0_0 a0_1 a0_2 a0_3 a0_4 a0_5 a0_6 = some true) (hl : (l1.length : Int) = a0_0) (ha : l1.any (notB a0_6) = true) :
    Calls Try.prog 7 #[.agg #[.int .i64 a0_0, .int .i64 a0_1, .bool a0_2, .int .i64 a0_3, .int .i64 a0_4, .int .i64 a0_5, .int .i64 a0_6], .slice A1 l1.length c1] w fun e w' => e = .returned (.tuple #[.slice none 0 0, .int .i64 8]) ∧ Below w.heap.size w w' := by
  have hu23 := Try.underlying23
  have HG := AsideW.mk (fun W => head_Good.calls a0_0 a0_1 a0_2 a0_3 a0_4 a0_5 a0_6 true W hg)
  have HA := AsideW.mk (fun (b : Nat) (W : World) (hW : Below w.heap.size w W) (hb : W.cell? ⟨b, 6, none⟩ = some (.int .i64 a0_6)) => by
    have h := slices_ContainsFunc_rows.gives (notB a0_6) 14 #[.pointer (some ⟨b, 0, none⟩)] (enters_of Try.func14 (by kernel_rfl) rfl) A1 c1 l1 W (Kd.C_below hr1 hW) (fun x A' c W' _ hW' _ _ => wr1_calls a0_6 A' x.length c b W' (pw_cell_below hW' hb))
    rw [ha] at h
    exact h)
  obtain ⟨n, hn⟩ : ∃ n, l1.length = n := ⟨_, rfl⟩
  rw [hn] at hl HA ⊢
  have hl1 : ((n : Int) == a0_0) = true := beq_iff_eq.mpr hl
  have hl2 : ((n : Int) != a0_0) = false := bne_eq_false_iff_eq.mpr hl
  clear hr1 hg ha hn hl
  go_enter Try.func7, Try.ntmps7
  go_wp2_with (first | ((with_reducible refine gate_dst (N := 2) rfl ?_); refine box_event ?hg (N := 2) ?hd (cs := #[.int .i64 a0_0, .int .i64 a0_1, .bool a0_2, .int .i64 a0_3, .int .i64 a0_4, .int .i64 a0_5, .int .i64 a0_6]) (t := 23) ?hr ?_; (case hd => rfl); (case hg => rfl); (case hr => first | (go_simp; done) | (go_simp; rfl)); intro g1 hg1 wx hbox1 hb1; clear hg1; have HX0 := AsideW.mk hbox1; have HB0 := AsideW.mk hb1; have f0 := (blk_cell HX0.out 0).trans rfl; have f1 := (blk_cell HX0.out 1).trans rfl; have f2 := (blk_cell HX0.out 2).trans rfl; have f3 := (blk_cell HX0.out 3).trans rfl; have f4 := (blk_cell HX0.out 4).trans rfl; have f5 := (blk_cell HX0.out 5).trans rfl; have f6 := (blk_cell HX0.out 6).trans rfl; clear hbox1 hb1) | (go_at_call 12; refine (HG.out _).mono ?_; rintro e w1 ⟨rfl, hd⟩; have HX1 := AsideW.mk (blk_below HX0.out hd); have HB1 := AsideW.mk (below_step HB0.out hd); clear f0 f1 f2 f3 f4 f5 f6 hd; have f0 := (blk_cell HX1.out 0).trans rfl; have f1 := (blk_cell HX1.out 1).trans rfl; have f2 := (blk_cell HX1.out 2).trans rfl; have f3 := (blk_cell HX1.out 3).trans rfl; have f4 := (blk_cell HX1.out 4).trans rfl; have f5 := (blk_cell HX1.out 5).trans rfl; have f6 := (blk_cell HX1.out 6).trans rfl) | (go_at_call 13; refine (HA.out g1 _ HB1.out ((blk_cell HX1.out 6).trans rfl)).mono ?_; rintro e w2 ⟨rfl, hd⟩; have HX2 := AsideW.mk (blk_below HX1.out hd); have HB2 := AsideW.mk (below_step HB1.out hd); clear f0 f1 f2 f3 f4 f5 f6 hd; have f0 := (blk_cell HX2.out 0).trans rfl; have f1 := (blk_cell HX2.out 1).trans rfl; have f2 := (blk_cell HX2.out 2).trans rfl; have f3 := (blk_cell HX2.out 3).trans rfl; have f4 := (blk_cell HX2.out 4).trans rfl; have f5 := (blk_cell HX2.out 5).trans rfl; have f6 := (blk_cell HX2.out 6).trans rfl))
  go_ret2
  exact ⟨rfl, HB2.out⟩
set_option maxRecDepth 100000 in
set_option maxHeartbeats 1000000 in
theorem write_ep (k : Nat) (a0_0 : Int) (a0_1 : Int) (a0_2 : Bool) (a0_3 : Int) (a0_4 : Int) (a0_5 : Int) (a0_6 : Int) (A1 : Option Addr) (c1 : Nat) (l1 : List (List Int)) (z : List Int) (pe : Int) (w : World) (hr1 : Kd.C (Kd.slice 3 (Kd.int .i64)) w A1 l1.length l1) (hc1 : l1.length ≤ c1) (hg : head_Good.f a0_0 a0_1 a0_2 a0_3 a0_4 a0_5 a0_6 = some true) (hl : (l1.length : Int) = a0_0) (ha : l1.any (notB a0_6) = false) (hp : pack_Pack.f k a0_1 false l1 = some (z, pe)) (hpe : ¬ pe = 0) :
    Calls Try.prog 7 #[.agg #[.int .i64 a0_0, .int .i64 a0_1, .bool a0_2, .int .i64 a0_3, .int .i64 a0_4, .int .i64 a0_5, .int .i64 a0_6], .slice A1 l1.length c1] w fun e w' => e = .returned (.tuple #[.slice none 0 0, .int .i64 pe]) ∧ Below w.heap.size w w' := by
  have hu23 := Try.underlying23
  have HG := AsideW.mk (fun W => head_Good.calls a0_0 a0_1 a0_2 a0_3 a0_4 a0_5 a0_6 true W hg)
  have HA := AsideW.mk (fun (b : Nat) (W : World) (hW : Below w.heap.size w W) (hb : W.cell? ⟨b, 6, none⟩ = some (.int .i64 a0_6)) => by
    have h := slices_ContainsFunc_rows.gives (notB a0_6) 14 #[.pointer (some ⟨b, 0, none⟩)] (enters_of Try.func14 (by kernel_rfl) rfl) A1 c1 l1 W (Kd.C_below hr1 hW) (fun x A' c W' _ hW' _ _ => wr1_calls a0_6 A' x.length c b W' (pw_cell_below hW' hb))
    rw [ha] at h
    exact h)
  have HFO := AsideW.mk (fun W => wave_form.calls a0_0 a0_1 a0_2 a0_3 a0_4 a0_5 a0_6 a0_1 false W (by rfl))
  have HPK := AsideW.mk (fun (W : World) (hW : Below w.heap.size w W) => pack_Pack.calls k a0_1 false A1 c1 l1 z pe W (Kd.C_below hr1 hW) hc1 hp)
  obtain ⟨n, hn⟩ : ∃ n, l1.length = n := ⟨_, rfl⟩
  rw [hn] at hl HA HPK ⊢
  have hl1 : ((n : Int) == a0_0) = true := beq_iff_eq.mpr hl
  have hl2 : ((n : Int) != a0_0) = false := bne_eq_false_iff_eq.mpr hl
  have hp1 : (pe == 0) = false := beq_eq_false_iff_ne.mpr hpe
  have hp2 : (pe != 0) = true := bne_iff_ne.mpr hpe
  clear hr1 hc1 hg ha hp hn hl hpe
  go_enter Try.func7, Try.ntmps7
  go_wp2_with (first | ((with_reducible refine gate_dst (N := 2) rfl ?_); refine box_event ?hg (N := 2) ?hd (cs := #[.int .i64 a0_0, .int .i64 a0_1, .bool a0_2, .int .i64 a0_3, .int .i64 a0_4, .int .i64 a0_5, .int .i64 a0_6]) (t := 23) ?hr ?_; (case hd => rfl); (case hg => rfl); (case hr => first | (go_simp; done) | (go_simp; rfl)); intro g1 hg1 wx hbox1 hb1; clear hg1; have HX0 := AsideW.mk hbox1; have HB0 := AsideW.mk hb1; have f0 := (blk_cell HX0.out 0).trans rfl; have f1 := (blk_cell HX0.out 1).trans rfl; have f2 := (blk_cell HX0.out 2).trans rfl; have f3 := (blk_cell HX0.out 3).trans rfl; have f4 := (blk_cell HX0.out 4).trans rfl; have f5 := (blk_cell HX0.out 5).trans rfl; have f6 := (blk_cell HX0.out 6).trans rfl; clear hbox1 hb1) | (go_at_call 12; refine (HG.out _).mono ?_; rintro e w1 ⟨rfl, hd⟩; have HX1 := AsideW.mk (blk_below HX0.out hd); have HB1 := AsideW.mk (below_step HB0.out hd); clear f0 f1 f2 f3 f4 f5 f6 hd; have f0 := (blk_cell HX1.out 0).trans rfl; have f1 := (blk_cell HX1.out 1).trans rfl; have f2 := (blk_cell HX1.out 2).trans rfl; have f3 := (blk_cell HX1.out 3).trans rfl; have f4 := (blk_cell HX1.out 4).trans rfl; have f5 := (blk_cell HX1.out 5).trans rfl; have f6 := (blk_cell HX1.out 6).trans rfl) | (go_at_call 13; refine (HA.out g1 _ HB1.out ((blk_cell HX1.out 6).trans rfl)).mono ?_; rintro e w2 ⟨rfl, hd⟩; have HX2 := AsideW.mk (blk_below HX1.out hd); have HB2 := AsideW.mk (below_step HB1.out hd); clear f0 f1 f2 f3 f4 f5 f6 hd; have f0 := (blk_cell HX2.out 0).trans rfl; have f1 := (blk_cell HX2.out 1).trans rfl; have f2 := (blk_cell HX2.out 2).trans rfl; have f3 := (blk_cell HX2.out 3).trans rfl; have f4 := (blk_cell HX2.out 4).trans rfl; have f5 := (blk_cell HX2.out 5).trans rfl; have f6 := (blk_cell HX2.out 6).trans rfl) | (go_at_call 16; refine (HFO.out _).mono ?_; rintro e w3 ⟨rfl, hd⟩; have HX3 := AsideW.mk (blk_below HX2.out hd); have HB3 := AsideW.mk (below_step HB2.out hd); clear f0 f1 f2 f3 f4 f5 f6 hd; have f0 := (blk_cell HX3.out 0).trans rfl; have f1 := (blk_cell HX3.out 1).trans rfl; have f2 := (blk_cell HX3.out 2).trans rfl; have f3 := (blk_cell HX3.out 3).trans rfl; have f4 := (blk_cell HX3.out 4).trans rfl; have f5 := (blk_cell HX3.out 5).trans rfl; have f6 := (blk_cell HX3.out 6).trans rfl) | (go_at_call 15; refine (HPK.out _ HB3.out).mono ?_; rintro e w5 ⟨v6, rfl, ho, hd⟩; have HX5 := AsideW.mk (blk_below HX3.out hd); have HB5 := AsideW.mk (below_step HB3.out hd); clear f0 f1 f2 f3 f4 f5 f6 hd; have f0 := (blk_cell HX5.out 0).trans rfl; have f1 := (blk_cell HX5.out 1).trans rfl; have f2 := (blk_cell HX5.out 2).trans rfl; have f3 := (blk_cell HX5.out 3).trans rfl; have f4 := (blk_cell HX5.out 4).trans rfl; have f5 := (blk_cell HX5.out 5).trans rfl; have f6 := (blk_cell HX5.out 6).trans rfl; obtain ⟨A6, c6, e6⟩ := Kd.R_slice ho; generalize z.length = m at e6; subst e6; clear ho))
  go_ret2
  exact ⟨rfl, HB5.out⟩
def wave_Write.f (k : Nat) (a0_0 : Int) (a0_1 : Int) (a0_2 : Bool) (a0_3 : Int) (a0_4 : Int) (a0_5 : Int) (a0_6 : Int) (l1 : List (List Int)) : Option (List Int × Int) := (head_Good.f a0_0 a0_1 a0_2 a0_3 a0_4 a0_5 a0_6).bind fun g => if g = true then (if (l1.length : Int) = a0_0 ∧ l1.any (notB a0_6) = false then (pack_Pack.f k a0_1 false l1).bind fun r => (if r.2 = 0 then (wave_first.f k a0_0 a0_1 a0_2 a0_3 a0_4 a0_5 a0_6 (r.1.length : Int)).bind fun x => (wave_turn.f a0_0 a0_1 a0_2 a0_3 a0_4 a0_5 a0_6 r.1).bind fun y => (if x.length + y.length ≤ 1000000000 then some (x ++ y, 0) else none) else some ([], r.2)) else some ([], 8)) else some ([], 7)
theorem wave_Write.calls (k : Nat) (a0_0 : Int) (a0_1 : Int) (a0_2 : Bool) (a0_3 : Int) (a0_4 : Int) (a0_5 : Int) (a0_6 : Int) (A1 : Option Addr) (c1 : Nat) (l1 : List (List Int)) (r1 : List Int) (r2 : Int) (w : World) (hr1 : Kd.C (Kd.slice 3 (Kd.int .i64)) w A1 l1.length l1) (hc1 : l1.length ≤ c1) (h : wave_Write.f k a0_0 a0_1 a0_2 a0_3 a0_4 a0_5 a0_6 l1 = some (r1, r2)) :
    Calls Try.prog 7 #[.agg #[.int .i64 a0_0, .int .i64 a0_1, .bool a0_2, .int .i64 a0_3, .int .i64 a0_4, .int .i64 a0_5, .int .i64 a0_6], .slice A1 l1.length c1] w fun e w' => ∃ v0_ : Value, e = .returned (.tuple #[v0_, .int .i64 r2]) ∧ Kd.R (Kd.int .u8) 5 w' w.heap.size (fun _ => True) v0_ r1 ∧ Below w.heap.size w w' := by
  unfold wave_Write.f at h
  obtain ⟨g, hg, h1⟩ := Option.bind_eq_some_iff.mp h
  clear h
  cases g with
  | false =>
    rw [if_neg (by decide)] at h1
    injection h1 with h1
    injection h1 with h2 h3
    subst h2 h3
    exact (write_e7 a0_0 a0_1 a0_2 a0_3 a0_4 a0_5 a0_6 A1 c1 l1.length w hg).mono (fun e w' hw => ⟨_, hw.1, Kd.R_nil _ _ _ _ _, hw.2⟩)
  | true =>
    rw [if_pos rfl] at h1
    by_cases hl : (l1.length : Int) = a0_0
    · cases ha : l1.any (notB a0_6) with
      | true =>
        rw [if_neg (fun hh => by rw [ha] at hh; exact absurd hh.2 (by decide))] at h1
        injection h1 with h1
        injection h1 with h2 h3
        subst h2 h3
        exact (write_e8b a0_0 a0_1 a0_2 a0_3 a0_4 a0_5 a0_6 A1 c1 l1 w hr1 hg hl ha).mono (fun e w' hw => ⟨_, hw.1, Kd.R_nil _ _ _ _ _, hw.2⟩)
      | false =>
        rw [if_pos ⟨hl, ha⟩] at h1
        obtain ⟨⟨z, pe⟩, hp, h2⟩ := Option.bind_eq_some_iff.mp h1
        by_cases hpe : pe = 0
        · subst hpe
          rw [if_pos rfl] at h2
          obtain ⟨x, hx, h3⟩ := Option.bind_eq_some_iff.mp h2
          obtain ⟨y, hy, h4⟩ := Option.bind_eq_some_iff.mp h3
          split at h4
          · rename_i hxy
            injection h4 with h4
            injection h4 with h5 h6
            subst h5 h6
            exact write_main k a0_0 a0_1 a0_2 a0_3 a0_4 a0_5 a0_6 A1 c1 l1 z x y w hr1 hc1 hg hl ha hp hx hy hxy
          · cases h4
        · rw [if_neg hpe] at h2
          injection h2 with h2
          injection h2 with h3 h4
          subst h3 h4
          exact (write_ep k a0_0 a0_1 a0_2 a0_3 a0_4 a0_5 a0_6 A1 c1 l1 z pe w hr1 hc1 hg hl ha hp hpe).mono (fun e w' hw => ⟨_, hw.1, Kd.R_nil _ _ _ _ _, hw.2⟩)
    · rw [if_neg (fun hh => hl hh.1)] at h1
      injection h1 with h1
      injection h1 with h2 h3
      subst h2 h3
      exact (write_e8 a0_0 a0_1 a0_2 a0_3 a0_4 a0_5 a0_6 A1 c1 l1.length w hg hl).mono (fun e w' hw => ⟨_, hw.1, Kd.R_nil _ _ _ _ _, hw.2⟩)

end Go.Proofs.Ytliidobbkfmndaa.HW2

namespace Go.Proofs.Ytliidobbkfmndaa.HW2
open Go.RowKit Go.Proofs.YtliidobbkfmndaaW.PrintWords Go.Proofs.YtliidobbkfmndaaW.PrintLast Go.Proofs.YtliidobbkfmndaaW.PrintMore
attribute [local go_sem] max2_int min2_int max_two min_two max_three min_three max_four min_four   -- for this text's walks alone
set_option linter.unusedVariables false
set_option linter.unusedSimpArgs false

/-! ### sackbutlaw19_awake: function 5 -/
def sackbutlaw19_awake.f (k : Nat)  : Option (Bool) := (wave_Write.f k 1 8 false 8000 16 0 3 (([(([(-128), 0, 127] : List Int))] : List (List Int)))).bind fun bt161 => (if bt161.2 = 0 then (if (bt161.1.length : Int) = 47 then (if 44 ≤ (bt161.1.length : Int) then (some ((strOfNums (bt161.1.drop 44)).toList == ([0, 128, 255] : List UInt8))) else (none)) else (some false)) else (some false))
set_option maxHeartbeats 8000000 in
set_option maxRecDepth 100000 in
theorem sackbutlaw19_awake.calls (k : Nat)  (r : Bool) (w : World) (h : sackbutlaw19_awake.f k  = some r) :
    Calls Try.prog 5 #[] w fun e w' => e = .returned (.bool r) ∧ Below w.heap.size w w' := by
  have hu23 := Try.underlying23
  have HB := Aside0.mk (Below.refl w.heap.size w)
  have H : ((wave_Write.f k 1 8 false 8000 16 0 3 (([(([(-128), 0, 127] : List Int))] : List (List Int)))).bind fun bt161 => (if bt161.2 = 0 then (if (bt161.1.length : Int) = 47 then (if 44 ≤ (bt161.1.length : Int) then (some ((strOfNums (bt161.1.drop 44)).toList == ([0, 128, 255] : List UInt8))) else (none)) else (some false)) else (some false))) = some r := h
  clear h
  obtain ⟨y155, hy155⟩ : ∃ y_ : List Int, y_ = (([(-128), 0, 127] : List Int)) := ⟨_, rfl⟩
  replace H : ((wave_Write.f k 1 8 false 8000 16 0 3 (([y155] : List (List Int)))).bind fun bt161 => (if bt161.2 = 0 then (if (bt161.1.length : Int) = 47 then (if 44 ≤ (bt161.1.length : Int) then (some ((strOfNums (bt161.1.drop 44)).toList == ([0, 128, 255] : List UInt8))) else (none)) else (some false)) else (some false))) = some r := by first | (rw [hy155]; with_reducible exact H) | (have H2_ := (Option.bind_some _ _).symm.trans H; rw [hy155]; with_reducible exact H2_) | (have H2_ := (Option.bind_some _ _).symm.trans H; with_reducible exact H2_) | with_reducible exact H | (rw [hy155]; exact H) | exact H
  have Ny155 := Aside0.mk hy155
  clear hy155
  obtain ⟨y158, hy158⟩ : ∃ y_ : List (List Int), y_ = (([y155] : List (List Int))) := ⟨_, rfl⟩
  replace H : ((wave_Write.f k 1 8 false 8000 16 0 3 y158).bind fun bt161 => (if bt161.2 = 0 then (if (bt161.1.length : Int) = 47 then (if 44 ≤ (bt161.1.length : Int) then (some ((strOfNums (bt161.1.drop 44)).toList == ([0, 128, 255] : List UInt8))) else (none)) else (some false)) else (some false))) = some r := by first | (rw [hy158]; with_reducible exact H) | (have H2_ := (Option.bind_some _ _).symm.trans H; rw [hy158]; with_reducible exact H2_) | (have H2_ := (Option.bind_some _ _).symm.trans H; with_reducible exact H2_) | with_reducible exact H | (rw [hy158]; exact H) | exact H
  have Ny158 := Aside0.mk hy158
  clear hy158
  replace H := Option.bind_eq_some_iff.mp H
  obtain ⟨⟨t161, t164⟩, A10, H⟩ := H
  replace H : (if t164 = 0 then (if (t161.length : Int) = 47 then (if 44 ≤ (t161.length : Int) then (some ((strOfNums (t161.drop 44)).toList == ([0, 128, 255] : List UInt8))) else (none)) else (some false)) else (some false)) = some r := H
  have A1 := Aside0.mk A10
  clear A10
  by_cases c2 : t164 = 0
  · rw [if_pos c2] at H
    have c2b0 : (t164 == 0) = true := beq_iff_eq.mpr c2
    have c2b1 : (t164 != 0) = false := bne_eq_false_iff_eq.mpr c2
    clear c2
    by_cases c3 : (t161.length : Int) = 47
    · rw [if_pos c3] at H
      have c3b0 : ((t161.length : Int) == 47) = true := beq_iff_eq.mpr c3
      have c3b1 : ((t161.length : Int) != 47) = false := bne_eq_false_iff_eq.mpr c3
      clear c3
      by_cases c4 : 44 ≤ (t161.length : Int)
      · rw [if_pos c4] at H
        have c4b0 := eq_true c4
        have c4b1 : decide (44 ≤ (t161.length : Int)) = true := decide_eq_true c4
        clear c4
        obtain ⟨y165, hy165⟩ : ∃ y_ : List Int, y_ = (t161.drop 44) := ⟨_, rfl⟩
        replace H : (some ((strOfNums y165).toList == ([0, 128, 255] : List UInt8))) = some r := by first | (rw [hy165]; with_reducible exact H) | (have H2_ := (Option.bind_some _ _).symm.trans H; rw [hy165]; with_reducible exact H2_) | (have H2_ := (Option.bind_some _ _).symm.trans H; with_reducible exact H2_) | with_reducible exact H | (rw [hy165]; exact H) | exact H
        have Ny165 := Aside0.mk hy165
        clear hy165
        obtain rfl := Option.some.inj H
        go_enter Try.func5, Try.ntmps5
        go_wp2_with (first | ((with_reducible refine gate_dst (N := 5) rfl ?_); (try (refine gate_guard (by rfl) ?_; dsimp only)); refine Kd.R_lit (Kd.int .i64) _ 3 ?hg (N := 5) ?hd (xs := ([(-128), 0, 127] : List Int)) (inner := [.int .i64 (-128), .int .i64 0, .int .i64 127]) (ok := fun _ => True) (okp := fun _ => True) ?hr ?hp (fun _ hk => hk) trivial (Below.refl _ _) (Nat.le_refl _) (by simp) ?_; (case hd => rfl); (case hg => rfl); (case hr => first | (go_simp; done) | (go_simp; rfl)); (case hp => exact (Reps.one (show Kd.M (Kd.int .i64) _ _ _ (-128) [.int .i64 (-128)] from rfl) (Reps.one (show Kd.M (Kd.int .i64) _ _ _ 0 [.int .i64 0] from rfl) (Reps.one (show Kd.M (Kd.int .i64) _ _ _ 127 [.int .i64 127] from rfl) (Reps.none _ _))))); intro v156 w5 ho6 hb hg_ hnew_; clear hg_ hnew_; (first | rw [← Ny155.out] at ho6 | (simp only [Int.reduceToNat] at ho6; rw [← Ny155.out] at ho6)); have n0_ := Aside0.mk (Kd.R_lower ho6 (below_size (by repeat (first | (with_reducible first | exact HB.out | apply below_alloc | apply pw_below_drewN | apply below_drew1) | exact HB.out)))); have n1_ := Aside0.mk (below_step (by repeat (first | (with_reducible first | exact HB.out | apply below_alloc | apply pw_below_drewN | apply below_drew1) | exact HB.out)) hb); clear HB; have HO157 := n0_; have HB := n1_; clear n0_ n1_; clear hb ho6; obtain ⟨Ao7, co7, eo7⟩ := Kd.R_slice HO157.out; subst eo7) | ((with_reducible refine gate_dst (N := 6) rfl ?_); (try (refine gate_guard (by rfl) ?_; dsimp only)); refine Kd.N_lit (Kd.slice 3 (Kd.int .i64)) _ 40 ?hg (N' := 6) ?hd (xs := ([y155] : List (List Int))) (inner := [.slice Ao7 y155.length co7]) (ok := (fun _ => True)) (okp := (fun _ => True)) ?hr ?hp (fun _ hk => hk) ((show ∀ k_, w5.heap.size ≤ k_ → (fun _ => True) k_ from fun k_ hk => trivial) _ (Nat.le_refl _)) (Below.refl _ _) (Nat.le_refl _) (by simp) ?_; (case hd => rfl); (case hg => rfl); (case hr => first | (go_simp; done) | (go_simp; rfl)); (case hp => exact (Reps.one (show Kd.FK (Kd.slice 3 (Kd.int .i64)) _ _ y155 [.slice Ao7 y155.length co7] from (Kd.FK_slice_mk (Kd.R_reads' (Kd.R_mono (ok' := (fun _ => True)) (HO157.out) (fun k_ hk => trivial))).2.1 (Kd.R_F (Kd.R_mono (ok' := (fun _ => True)) (HO157.out) (fun k_ hk => trivial))))) (Reps.none _ _))); intro v159 w8 ho9 hb hg_ hnew_; clear hg_ hnew_; (first | rw [← Ny158.out] at ho9 | (simp only [Int.reduceToNat] at ho9; rw [← Ny158.out] at ho9)); have n0_ := Aside0.mk (Kd.N_lower ho9 (below_size (by repeat (first | (with_reducible first | exact HB.out | apply below_alloc | apply pw_below_drewN | apply below_drew1) | exact HB.out)))); have n1_ := Aside0.mk (below_step (by repeat (first | (with_reducible first | exact HB.out | apply below_alloc | apply pw_below_drewN | apply below_drew1) | exact HB.out)) hb); clear HB; clear HO157; have HO160 := n0_; have HB := n1_; clear n0_ n1_; clear hb ho9; obtain ⟨Ao10, co10, eo10⟩ := Kd.N_slice HO160.out; subst eo10) | ((with_reducible refine gate_callee (f := 7) rfl ?_); refine goesL_ (some 7) rfl rfl Try.func7 (by kernel_rfl) rfl #[.agg #[.int .i64 1, .int .i64 8, .bool false, .int .i64 8000, .int .i64 16, .int .i64 0, .int .i64 3], .slice Ao10 y158.length co10] rfl (by (try simp only [List.map_toArray, List.map_cons, List.map_nil]); first | done | rfl | (simp only [List.length_drop, List.length_take]; rfl)) ?_; (with_reducible refine (wave_Write.calls k 1 8 false 8000 16 0 3 _ _ y158 t161 t164 _ ?side1 ?side2 A1.out).mono ?_); (case side1 => repeat (first | exact (Kd.N_reads' HO160.out).2.2 | (with_reducible refine Kd.C_alloc ?_ _) | (with_reducible refine Kd.C_drewN ?_ _) | (with_reducible refine Kd.C_drew ?_))); (case side2 => exact (Kd.N_reads' HO160.out).2.1); rintro e w11 ⟨v162, rfl, ho0, hb⟩; refine ⟨_, rfl, ?_⟩; have n0_ := Aside0.mk (Kd.N_elder' (by (with_reducible repeat (first | apply Kd.N_alloc | apply Kd.N_drewN | apply Kd.N_drew)); exact HO160.out) (Kd.R_base ho0) hb); have n1_ := Aside0.mk (Kd.R_lower ho0 (below_size (by repeat (first | (with_reducible first | exact HB.out | apply below_alloc | apply pw_below_drewN | apply below_drew1) | exact HB.out)))); have n2_ := Aside0.mk (below_step (by repeat (first | (with_reducible first | exact HB.out | apply below_alloc | apply pw_below_drewN | apply below_drew1) | exact HB.out)) hb); clear HO160; clear HB; have HO160 := n0_; have HO163 := n1_; have HB := n2_; clear n0_ n1_ n2_; (try clear hb); (try clear hb2); (try clear hk); (try clear hi); (try clear ho0); obtain ⟨Ao12, co12, eo12⟩ := Kd.R_slice HO163.out; subst eo12; have q13 : (44 : Int) ≤ ((t161.length : Int) : Int) := of_decide_eq_true (by first | (with_reducible assumption) | assumption); obtain ⟨i013, hi013, _, hsz13, _⟩ := info_parts info5; have hroom13 : t161.length ≤ co12 := (Kd.R_reads' HO163.out).2.1; have hC13 : Kd.F (Kd.int .u8) _ _ Ao12 t161.length t161 := (Kd.V_at (base := w.heap.size) (Kd.R_V (Kd.R_apart' (HO163.out) (Kd.N_typed HO160.out) (by decide)))).2.2; have hcut13 := cut_from (P := Try.prog) 27 5 .i64 Try.underlying27 hi013 1 hsz13 Ao12 t161.length co12 44 (by omega) q13; have hr13 := Kd.F_cut (m := (44 : Int).toNat) (c := co12) hC13 (by omega) hroom13; obtain ⟨A13, hA13⟩ : ∃ A1, A1 = (if co12 = (44 : Int).toNat then Ao12 else (Ao12 : Option Addr).map (·.add ((44 : Int).toNat * 1))) := ⟨_, rfl⟩; obtain ⟨c13, hc13⟩ : ∃ c1, c1 = co12 - (44 : Int).toNat := ⟨_, rfl⟩; have hy13 : y165.length = t161.length - (44 : Int).toNat := (by rw [Ny165.out, List.length_drop] <;> omega); rw [show (t161).drop (44 : Int).toNat = y165 from Ny165.out.symm] at hr13; replace hr13 : Kd.F (Kd.int .u8) _ _ A13 y165.length y165 := (by rw [hA13]; exact hr13); rw [← hy13, ← hA13, ← hc13] at hcut13; have HO169 := Aside0.mk (show Kd.V (Kd.int .u8) 5 _ w.heap.size _ (.slice A13 y165.length c13) y165 from Kd.V_mk (by rw [hy13, hc13]; exact Nat.sub_le_sub_right hroom13 _) hr13); have HC169 := Aside0.mk (show y165.length ≤ c13 from by rw [hy13, hc13]; exact Nat.sub_le_sub_right hroom13 _); clear hr13 hC13 hroom13 hi013 hsz13 hc13; have KY13 := Aside0.mk hy13; have KA13 := Aside0.mk hA13; clear hy13 hA13; replace q13 := eq_true q13; have hcv14 := Kd.C_string (P := Try.prog) (A := A13) (c := c13) Try.underlying27 Try.underlying5 Try.underlying9 (Kd.V_reads' HO169.out).2.2))
        go_ret
        exact ⟨by first | rfl | (simp [errW_none, errW_some] <;> rfl) | (simp [*, errW_none, errW_some] <;> rfl), by repeat (first | (with_reducible first | exact HB.out | apply below_alloc | apply pw_below_drewN | apply below_drew1) | exact HB.out)⟩
      · rw [if_neg c4] at H
        exact absurd H (by simp)
    · rw [if_neg c3] at H
      have c3b0 : ((t161.length : Int) == 47) = false := beq_eq_false_iff_ne.mpr c3
      have c3b1 : ((t161.length : Int) != 47) = true := bne_iff_ne.mpr c3
      obtain rfl := Option.some.inj H
      go_enter Try.func5, Try.ntmps5
      go_wp2_with (first | ((with_reducible refine gate_dst (N := 5) rfl ?_); (try (refine gate_guard (by rfl) ?_; dsimp only)); refine Kd.R_lit (Kd.int .i64) _ 3 ?hg (N := 5) ?hd (xs := ([(-128), 0, 127] : List Int)) (inner := [.int .i64 (-128), .int .i64 0, .int .i64 127]) (ok := fun _ => True) (okp := fun _ => True) ?hr ?hp (fun _ hk => hk) trivial (Below.refl _ _) (Nat.le_refl _) (by simp) ?_; (case hd => rfl); (case hg => rfl); (case hr => first | (go_simp; done) | (go_simp; rfl)); (case hp => exact (Reps.one (show Kd.M (Kd.int .i64) _ _ _ (-128) [.int .i64 (-128)] from rfl) (Reps.one (show Kd.M (Kd.int .i64) _ _ _ 0 [.int .i64 0] from rfl) (Reps.one (show Kd.M (Kd.int .i64) _ _ _ 127 [.int .i64 127] from rfl) (Reps.none _ _))))); intro v156 w15 ho16 hb hg_ hnew_; clear hg_ hnew_; (first | rw [← Ny155.out] at ho16 | (simp only [Int.reduceToNat] at ho16; rw [← Ny155.out] at ho16)); have n0_ := Aside0.mk (Kd.R_lower ho16 (below_size (by repeat (first | (with_reducible first | exact HB.out | apply below_alloc | apply pw_below_drewN | apply below_drew1) | exact HB.out)))); have n1_ := Aside0.mk (below_step (by repeat (first | (with_reducible first | exact HB.out | apply below_alloc | apply pw_below_drewN | apply below_drew1) | exact HB.out)) hb); clear HB; have HO157 := n0_; have HB := n1_; clear n0_ n1_; clear hb ho16; obtain ⟨Ao17, co17, eo17⟩ := Kd.R_slice HO157.out; subst eo17) | ((with_reducible refine gate_dst (N := 6) rfl ?_); (try (refine gate_guard (by rfl) ?_; dsimp only)); refine Kd.N_lit (Kd.slice 3 (Kd.int .i64)) _ 40 ?hg (N' := 6) ?hd (xs := ([y155] : List (List Int))) (inner := [.slice Ao17 y155.length co17]) (ok := (fun _ => True)) (okp := (fun _ => True)) ?hr ?hp (fun _ hk => hk) ((show ∀ k_, w15.heap.size ≤ k_ → (fun _ => True) k_ from fun k_ hk => trivial) _ (Nat.le_refl _)) (Below.refl _ _) (Nat.le_refl _) (by simp) ?_; (case hd => rfl); (case hg => rfl); (case hr => first | (go_simp; done) | (go_simp; rfl)); (case hp => exact (Reps.one (show Kd.FK (Kd.slice 3 (Kd.int .i64)) _ _ y155 [.slice Ao17 y155.length co17] from (Kd.FK_slice_mk (Kd.R_reads' (Kd.R_mono (ok' := (fun _ => True)) (HO157.out) (fun k_ hk => trivial))).2.1 (Kd.R_F (Kd.R_mono (ok' := (fun _ => True)) (HO157.out) (fun k_ hk => trivial))))) (Reps.none _ _))); intro v159 w18 ho19 hb hg_ hnew_; clear hg_ hnew_; (first | rw [← Ny158.out] at ho19 | (simp only [Int.reduceToNat] at ho19; rw [← Ny158.out] at ho19)); have n0_ := Aside0.mk (Kd.N_lower ho19 (below_size (by repeat (first | (with_reducible first | exact HB.out | apply below_alloc | apply pw_below_drewN | apply below_drew1) | exact HB.out)))); have n1_ := Aside0.mk (below_step (by repeat (first | (with_reducible first | exact HB.out | apply below_alloc | apply pw_below_drewN | apply below_drew1) | exact HB.out)) hb); clear HB; clear HO157; have HO160 := n0_; have HB := n1_; clear n0_ n1_; clear hb ho19; obtain ⟨Ao20, co20, eo20⟩ := Kd.N_slice HO160.out; subst eo20) | ((with_reducible refine gate_callee (f := 7) rfl ?_); refine goesL_ (some 7) rfl rfl Try.func7 (by kernel_rfl) rfl #[.agg #[.int .i64 1, .int .i64 8, .bool false, .int .i64 8000, .int .i64 16, .int .i64 0, .int .i64 3], .slice Ao20 y158.length co20] rfl (by (try simp only [List.map_toArray, List.map_cons, List.map_nil]); first | done | rfl | (simp only [List.length_drop, List.length_take]; rfl)) ?_; (with_reducible refine (wave_Write.calls k 1 8 false 8000 16 0 3 _ _ y158 t161 t164 _ ?side1 ?side2 A1.out).mono ?_); (case side1 => repeat (first | exact (Kd.N_reads' HO160.out).2.2 | (with_reducible refine Kd.C_alloc ?_ _) | (with_reducible refine Kd.C_drewN ?_ _) | (with_reducible refine Kd.C_drew ?_))); (case side2 => exact (Kd.N_reads' HO160.out).2.1); rintro e w21 ⟨v162, rfl, ho0, hb⟩; refine ⟨_, rfl, ?_⟩; have n0_ := Aside0.mk (Kd.N_elder' (by (with_reducible repeat (first | apply Kd.N_alloc | apply Kd.N_drewN | apply Kd.N_drew)); exact HO160.out) (Kd.R_base ho0) hb); have n1_ := Aside0.mk (Kd.R_lower ho0 (below_size (by repeat (first | (with_reducible first | exact HB.out | apply below_alloc | apply pw_below_drewN | apply below_drew1) | exact HB.out)))); have n2_ := Aside0.mk (below_step (by repeat (first | (with_reducible first | exact HB.out | apply below_alloc | apply pw_below_drewN | apply below_drew1) | exact HB.out)) hb); clear HO160; clear HB; have HO160 := n0_; have HO163 := n1_; have HB := n2_; clear n0_ n1_ n2_; (try clear hb); (try clear hb2); (try clear hk); (try clear hi); (try clear ho0); obtain ⟨Ao22, co22, eo22⟩ := Kd.R_slice HO163.out; subst eo22))
      go_ret
      exact ⟨by first | rfl | (simp [errW_none, errW_some] <;> rfl) | (simp [*, errW_none, errW_some] <;> rfl), by repeat (first | (with_reducible first | exact HB.out | apply below_alloc | apply pw_below_drewN | apply below_drew1) | exact HB.out)⟩
  · rw [if_neg c2] at H
    have c2b0 : (t164 == 0) = false := beq_eq_false_iff_ne.mpr c2
    have c2b1 : (t164 != 0) = true := bne_iff_ne.mpr c2
    obtain rfl := Option.some.inj H
    go_enter Try.func5, Try.ntmps5
    go_wp2_with (first | ((with_reducible refine gate_dst (N := 5) rfl ?_); (try (refine gate_guard (by rfl) ?_; dsimp only)); refine Kd.R_lit (Kd.int .i64) _ 3 ?hg (N := 5) ?hd (xs := ([(-128), 0, 127] : List Int)) (inner := [.int .i64 (-128), .int .i64 0, .int .i64 127]) (ok := fun _ => True) (okp := fun _ => True) ?hr ?hp (fun _ hk => hk) trivial (Below.refl _ _) (Nat.le_refl _) (by simp) ?_; (case hd => rfl); (case hg => rfl); (case hr => first | (go_simp; done) | (go_simp; rfl)); (case hp => exact (Reps.one (show Kd.M (Kd.int .i64) _ _ _ (-128) [.int .i64 (-128)] from rfl) (Reps.one (show Kd.M (Kd.int .i64) _ _ _ 0 [.int .i64 0] from rfl) (Reps.one (show Kd.M (Kd.int .i64) _ _ _ 127 [.int .i64 127] from rfl) (Reps.none _ _))))); intro v156 w23 ho24 hb hg_ hnew_; clear hg_ hnew_; (first | rw [← Ny155.out] at ho24 | (simp only [Int.reduceToNat] at ho24; rw [← Ny155.out] at ho24)); have n0_ := Aside0.mk (Kd.R_lower ho24 (below_size (by repeat (first | (with_reducible first | exact HB.out | apply below_alloc | apply pw_below_drewN | apply below_drew1) | exact HB.out)))); have n1_ := Aside0.mk (below_step (by repeat (first | (with_reducible first | exact HB.out | apply below_alloc | apply pw_below_drewN | apply below_drew1) | exact HB.out)) hb); clear HB; have HO157 := n0_; have HB := n1_; clear n0_ n1_; clear hb ho24; obtain ⟨Ao25, co25, eo25⟩ := Kd.R_slice HO157.out; subst eo25) | ((with_reducible refine gate_dst (N := 6) rfl ?_); (try (refine gate_guard (by rfl) ?_; dsimp only)); refine Kd.N_lit (Kd.slice 3 (Kd.int .i64)) _ 40 ?hg (N' := 6) ?hd (xs := ([y155] : List (List Int))) (inner := [.slice Ao25 y155.length co25]) (ok := (fun _ => True)) (okp := (fun _ => True)) ?hr ?hp (fun _ hk => hk) ((show ∀ k_, w23.heap.size ≤ k_ → (fun _ => True) k_ from fun k_ hk => trivial) _ (Nat.le_refl _)) (Below.refl _ _) (Nat.le_refl _) (by simp) ?_; (case hd => rfl); (case hg => rfl); (case hr => first | (go_simp; done) | (go_simp; rfl)); (case hp => exact (Reps.one (show Kd.FK (Kd.slice 3 (Kd.int .i64)) _ _ y155 [.slice Ao25 y155.length co25] from (Kd.FK_slice_mk (Kd.R_reads' (Kd.R_mono (ok' := (fun _ => True)) (HO157.out) (fun k_ hk => trivial))).2.1 (Kd.R_F (Kd.R_mono (ok' := (fun _ => True)) (HO157.out) (fun k_ hk => trivial))))) (Reps.none _ _))); intro v159 w26 ho27 hb hg_ hnew_; clear hg_ hnew_; (first | rw [← Ny158.out] at ho27 | (simp only [Int.reduceToNat] at ho27; rw [← Ny158.out] at ho27)); have n0_ := Aside0.mk (Kd.N_lower ho27 (below_size (by repeat (first | (with_reducible first | exact HB.out | apply below_alloc | apply pw_below_drewN | apply below_drew1) | exact HB.out)))); have n1_ := Aside0.mk (below_step (by repeat (first | (with_reducible first | exact HB.out | apply below_alloc | apply pw_below_drewN | apply below_drew1) | exact HB.out)) hb); clear HB; clear HO157; have HO160 := n0_; have HB := n1_; clear n0_ n1_; clear hb ho27; obtain ⟨Ao28, co28, eo28⟩ := Kd.N_slice HO160.out; subst eo28) | ((with_reducible refine gate_callee (f := 7) rfl ?_); refine goesL_ (some 7) rfl rfl Try.func7 (by kernel_rfl) rfl #[.agg #[.int .i64 1, .int .i64 8, .bool false, .int .i64 8000, .int .i64 16, .int .i64 0, .int .i64 3], .slice Ao28 y158.length co28] rfl (by (try simp only [List.map_toArray, List.map_cons, List.map_nil]); first | done | rfl | (simp only [List.length_drop, List.length_take]; rfl)) ?_; (with_reducible refine (wave_Write.calls k 1 8 false 8000 16 0 3 _ _ y158 t161 t164 _ ?side1 ?side2 A1.out).mono ?_); (case side1 => repeat (first | exact (Kd.N_reads' HO160.out).2.2 | (with_reducible refine Kd.C_alloc ?_ _) | (with_reducible refine Kd.C_drewN ?_ _) | (with_reducible refine Kd.C_drew ?_))); (case side2 => exact (Kd.N_reads' HO160.out).2.1); rintro e w29 ⟨v162, rfl, ho0, hb⟩; refine ⟨_, rfl, ?_⟩; have n0_ := Aside0.mk (Kd.N_elder' (by (with_reducible repeat (first | apply Kd.N_alloc | apply Kd.N_drewN | apply Kd.N_drew)); exact HO160.out) (Kd.R_base ho0) hb); have n1_ := Aside0.mk (Kd.R_lower ho0 (below_size (by repeat (first | (with_reducible first | exact HB.out | apply below_alloc | apply pw_below_drewN | apply below_drew1) | exact HB.out)))); have n2_ := Aside0.mk (below_step (by repeat (first | (with_reducible first | exact HB.out | apply below_alloc | apply pw_below_drewN | apply below_drew1) | exact HB.out)) hb); clear HO160; clear HB; have HO160 := n0_; have HO163 := n1_; have HB := n2_; clear n0_ n1_ n2_; (try clear hb); (try clear hb2); (try clear hk); (try clear hi); (try clear ho0)))
    go_ret
    exact ⟨by first | rfl | (simp [errW_none, errW_some] <;> rfl) | (simp [*, errW_none, errW_some] <;> rfl), by repeat (first | (with_reducible first | exact HB.out | apply below_alloc | apply pw_below_drewN | apply below_drew1) | exact HB.out)⟩

/-! ### sackbutlaw19_few: function 6 -/
def sackbutlaw19_few.l0 : Nat → List (List Int) → List (List Int) → Int → Int → Option (Bool)
  | 0, _, _, _, _ => none
  | k + 1, x0, x5, x6, x7 => if x7 < x6 then (if 0 ≤ x7 then (if x7 < (x5.length : Int) then (if ((rd_L1 x5 x7).length : Int) > 100 then (some false) else (sackbutlaw19_few.l0 k x0 x5 x6 (wrap64 (x7 + 1)))) else (none)) else (none)) else (some (decide ((x0.length : Int) ≤ 10)))
def sackbutlaw19_few.f (k : Nat) (l0 : List (List Int)) : Option (Bool) := sackbutlaw19_few.l0 k l0 l0 (l0.length : Int) 0
set_option maxHeartbeats 8000000 in
set_option maxRecDepth 100000 in
theorem sackbutlaw19_few.calls (k : Nat) (A0 : Option Addr) (c0 : Nat) (l0 : List (List Int)) (r : Bool) (w : World) (hr0 : Kd.C (Kd.slice 3 (Kd.int .i64)) w A0 l0.length l0) (hc0 : l0.length ≤ c0) (h : sackbutlaw19_few.f k l0 = some r) :
    Calls Try.prog 6 #[.slice A0 l0.length c0] w fun e w' => e = .returned (.bool r) ∧ Drawn0 w w' := by
  have HR0 := Aside0.mk hr0
  have HC0 := Aside0.mk hc0
  clear hr0 hc0
  have H : (sackbutlaw19_few.l0 k l0 l0 (l0.length : Int) 0) = some r := h
  clear h
  have H' := Aside0.mk H
  clear H
  go_enter Try.func6, Try.ntmps6
  go_wp2
  go_loopg [7] k (fun kq v7 w' => ∃ (x7_1 : Int), v7 = .int .i64 x7_1 ∧ Aside0 (sackbutlaw19_few.l0 kq l0 l0 (l0.length : Int) x7_1 = some r) ∧ Aside0 (kq ≤ k) ∧ Drawn0 w w')
  case atStart => exact ⟨(0), (by first | rfl | (simp; done) | (simp [*]; done)), H', ⟨Nat.le_refl _⟩, by repeat (first | exact Drawn0.refl _ | apply Drawn0.step)⟩
  case round =>
    clear H'
    obtain ⟨x7_1, rfl, HA, HK1, ⟨m1, rfl⟩⟩ := hrel
    cases gk with
    | zero => exact absurd HA.out (by simp [sackbutlaw19_few.l0])
    | succ k1 =>
      have H := HA.out
      clear HA
      simp only [sackbutlaw19_few.l0] at H
      by_cases c2 : x7_1 < (l0.length : Int)
      · rw [if_pos c2] at H
        have c2b0 : decide (x7_1 < (l0.length : Int)) = true := decide_eq_true c2
        clear c2
        by_cases c3 : 0 ≤ x7_1
        · rw [if_pos c3] at H
          have c3b0 : decide (0 ≤ x7_1) = true := decide_eq_true c3
          clear c3
          by_cases c4 : x7_1 < (l0.length : Int)
          · rw [if_pos c4] at H
            have c4b0 : decide (x7_1 < (l0.length : Int)) = true := decide_eq_true c4
            clear c4
            by_cases c5 : ((rd_L1 l0 x7_1).length : Int) > 100
            · rw [if_pos c5] at H
              have c5b0 : decide (100 < ((rd_L1 l0 x7_1).length : Int)) = true := decide_eq_true c5
              have c5b1 : decide (100 < (rd_L1 l0 x7_1).length) = true := decide_eq_true (by omega)
              clear c5
              obtain rfl := Option.some.inj H
              have p170 : 0 ≤ (x7_1 : Int) := of_decide_eq_true (by first | (with_reducible assumption) | assumption)
              have q170 : x7_1 < (l0.length : Int) := of_decide_eq_true (by first | (with_reducible assumption) | assumption)
              obtain ⟨ad170, A170_0, c170_0, e170, hx170_0, hl170_0, hi170_0⟩ := at_L1 HR0.out x7_1 p170 q170
              cases e170
              have HR170_0 := Aside0.mk hi170_0
              have HC170_0 := Aside0.mk hl170_0
              clear hi170_0 hl170_0
              replace p170 := eq_true p170
              replace q170 := eq_true q170
              go_wp2
              go_ret
              exact ⟨by first | rfl | (simp; done) | (simp [*]; done), by repeat (first | exact Drawn0.refl _ | apply Drawn0.step)⟩
            · rw [if_neg c5] at H
              have c5b0 : decide (100 < ((rd_L1 l0 x7_1).length : Int)) = false := decide_eq_false c5
              have c5b1 : decide (100 < (rd_L1 l0 x7_1).length) = false := decide_eq_false (by omega)
              clear c5
              have H' := Aside0.mk H
              clear H
              have p170 : 0 ≤ (x7_1 : Int) := of_decide_eq_true (by first | (with_reducible assumption) | assumption)
              have q170 : x7_1 < (l0.length : Int) := of_decide_eq_true (by first | (with_reducible assumption) | assumption)
              obtain ⟨ad170, A170_0, c170_0, e170, hx170_0, hl170_0, hi170_0⟩ := at_L1 HR0.out x7_1 p170 q170
              cases e170
              have HR170_0 := Aside0.mk hi170_0
              have HC170_0 := Aside0.mk hl170_0
              clear hi170_0 hl170_0
              replace p170 := eq_true p170
              replace q170 := eq_true q170
              go_wp2
              go_roundg k1
              case measure => have := HK1.out; omega
              case rel => exact ⟨(wrap64 (x7_1 + 1)), (by first | rfl | (simp; done) | (simp [*]; done)), H', ⟨by have := HK1.out; omega⟩, by repeat (first | exact Drawn0.refl _ | apply Drawn0.step)⟩
          · rw [if_neg c4] at H
            exact absurd H (by simp)
        · rw [if_neg c3] at H
          exact absurd H (by simp)
      · rw [if_neg c2] at H
        have c2b0 : decide (x7_1 < (l0.length : Int)) = false := decide_eq_false c2
        clear c2
        obtain rfl := Option.some.inj H
        go_wp2
        go_ret
        exact ⟨by first | rfl | (simp; done) | (simp [*]; done), by repeat (first | exact Drawn0.refl _ | apply Drawn0.step)⟩

end Go.Proofs.Ytliidobbkfmndaa.HW2

