/- WaveEnds: what the claim's theorem reaches of this seat's texts, part 11, put together by this project's own program (bale.py); conditions: those of each theorem. -/
import Derived.Test.YtliidobbkfmndaaVWaveEnds5
import Derived.Test.YtliidobbkfmndaaVWaveEnds9
namespace Go.Proofs.Ytliidobbkfmndaa.HW2
open Go.RowKit Go.Proofs.YtliidobbkfmndaaW.PrintWords Go.Proofs.YtliidobbkfmndaaW.PrintLast Go.Proofs.YtliidobbkfmndaaW.PrintMore
attribute [local go_sem] max2_int min2_int max_two min_two max_three min_three max_four min_four   -- for this text's walks alone
set_option linter.unusedVariables false
set_option linter.unusedSimpArgs false

/-! ### sackbutref19_First: function 22, by hand -/
structure AsideG (p : Prop) : Prop where mk :: (out : p)
def sackbutref19_First.f (k : Nat) (a0_0 : Int) (a0_1 : Int) (a0_2 : Bool) (a0_3 : Int) (a0_4 : Int) (a0_5 : Int) (a0_6 : Int) (a1 : Int) : Option (List Int) := (sackbutref19_Low.f k (wrap64 (36 + a1)) 4).bind fun y1 => (sackbutref19_Low.f k 16 4).bind fun y2 => (sackbutref19_Low.f k 1 2).bind fun y3 => (sackbutref19_Low.f k a0_0 2).bind fun y4 => (sackbutref19_Low.f k a0_3 4).bind fun y5 => (sackbutref19_Low.f k (wrap64 (a0_3 * (wrap64 (a0_0 * wrap64 (Int.tdiv a0_1 8))))) 4).bind fun y6 => (sackbutref19_Low.f k (wrap64 (a0_0 * wrap64 (Int.tdiv a0_1 8))) 2).bind fun y7 => (sackbutref19_Low.f k a0_1 2).bind fun y8 => (sackbutref19_Low.f k a1 4).bind fun y9 => if y1 ≠ [] ∧ y1.length ≤ 1000 ∧ y2.length ≤ 1000 ∧ y3.length ≤ 1000 ∧ y4.length ≤ 1000 ∧ y5.length ≤ 1000 ∧ y6.length ≤ 1000 ∧ y7.length ≤ 1000 ∧ y8.length ≤ 1000 ∧ y9.length ≤ 1000 then some ([82, 73, 70, 70] ++ y1 ++ [87, 65, 86, 69, 102, 109, 116, 32] ++ y2 ++ y3 ++ y4 ++ y5 ++ y6 ++ y7 ++ y8 ++ [100, 97, 116, 97] ++ y9) else none
open Go.Proofs.Ytliidobbkfmndaa.AnyOrder Go.Proofs.Ytliidobbkfmndaa.AnyLit in
set_option maxRecDepth 100000 in
set_option maxHeartbeats 4000000 in
theorem sackbutref19_First.calls (k : Nat) (a0_0 : Int) (a0_1 : Int) (a0_2 : Bool) (a0_3 : Int) (a0_4 : Int) (a0_5 : Int) (a0_6 : Int) (a1 : Int) (r : List Int) (w : World) (h : sackbutref19_First.f k a0_0 a0_1 a0_2 a0_3 a0_4 a0_5 a0_6 a1 = some r) :
    Calls Try.prog 22 #[.agg #[.int .i64 a0_0, .int .i64 a0_1, .bool a0_2, .int .i64 a0_3, .int .i64 a0_4, .int .i64 a0_5, .int .i64 a0_6], .int .i64 a1] w fun e w' => ∃ v0_ : Value, e = .returned (v0_) ∧ Kd.R (Kd.int .u8) 5 w' w.heap.size (fun _ => True) v0_ r ∧ Below w.heap.size w w' := by
  unfold sackbutref19_First.f at h
  replace h := Option.bind_eq_some_iff.mp h
  obtain ⟨y1, h_y1, h⟩ := h
  have H_y1 := AsideG.mk h_y1
  clear h_y1
  replace h := Option.bind_eq_some_iff.mp h
  obtain ⟨y2, h_y2, h⟩ := h
  have H_y2 := AsideG.mk h_y2
  clear h_y2
  replace h := Option.bind_eq_some_iff.mp h
  obtain ⟨y3, h_y3, h⟩ := h
  have H_y3 := AsideG.mk h_y3
  clear h_y3
  replace h := Option.bind_eq_some_iff.mp h
  obtain ⟨y4, h_y4, h⟩ := h
  have H_y4 := AsideG.mk h_y4
  clear h_y4
  replace h := Option.bind_eq_some_iff.mp h
  obtain ⟨y5, h_y5, h⟩ := h
  have H_y5 := AsideG.mk h_y5
  clear h_y5
  replace h := Option.bind_eq_some_iff.mp h
  obtain ⟨y6, h_y6, h⟩ := h
  have H_y6 := AsideG.mk h_y6
  clear h_y6
  replace h := Option.bind_eq_some_iff.mp h
  obtain ⟨y7, h_y7, h⟩ := h
  have H_y7 := AsideG.mk h_y7
  clear h_y7
  replace h := Option.bind_eq_some_iff.mp h
  obtain ⟨y8, h_y8, h⟩ := h
  have H_y8 := AsideG.mk h_y8
  clear h_y8
  replace h := Option.bind_eq_some_iff.mp h
  obtain ⟨y9, h_y9, h⟩ := h
  have H_y9 := AsideG.mk h_y9
  clear h_y9
  split at h
  rotate_left
  · cases h
  rename_i hc
  obtain ⟨hne, hlen⟩ := hc
  have HNE := AsideG.mk hne
  have HLEN := AsideG.mk hlen
  have HR := AsideG.mk (Option.some.inj h)
  clear h hne hlen
  have hu23 := Try.underlying23
  have hinfo : ((Try.prog).info? 5).map (fun i => (i.zero, i.size, i.bytes)) = some (some (.int .u8 0), 1, 1) := by kernel_rfl
  have HI := AsideG.mk hinfo
  clear hinfo
  go_enter Try.func22, Try.ntmps22
  go_upto_region 2 with (((with_reducible refine gate_dst (N := 2) rfl ?_); refine box_event ?hg (N := 2) ?hd (cs := #[.int .i64 a0_0, .int .i64 a0_1, .bool a0_2, .int .i64 a0_3, .int .i64 a0_4, .int .i64 a0_5, .int .i64 a0_6]) (t := 23) ?hr ?_; (case hd => rfl); (case hg => rfl); (case hr => first | (go_simp; done) | (go_simp; rfl)); intro g1 hg1 wx hbox1 hb1; clear hg1; have HX1 := AsideG.mk hbox1; have HB1 := AsideG.mk hb1; have f0 := (blk_cell HX1.out 0).trans rfl; have f1 := (blk_cell HX1.out 1).trans rfl; have f2 := (blk_cell HX1.out 2).trans rfl; have f3 := (blk_cell HX1.out 3).trans rfl; have f4 := (blk_cell HX1.out 4).trans rfl; have f5 := (blk_cell HX1.out 5).trans rfl; have f6 := (blk_cell HX1.out 6).trans rfl; clear hbox1 hb1))
  clear f0 f1 f2 f3 f4 f5 f6
  have HO := AsideG.mk True.intro
  refine region_kinds false (by kernel_rfl) (w.heap.size) 5 (fun W => W.heap[g1]? = some (.cells #[.int .i64 a0_0, .int .i64 a0_1, .bool a0_2, .int .i64 a0_3, .int .i64 a0_4, .int .i64 a0_5, .int .i64 a0_6] 23 (0, 0))) [.make, .mark [82, 73, 70, 70], .make, .make, .make, .make, .make] [.lit [82, 73, 70, 70], .mrow [82, 73, 70, 70], .val (.int .i64 (a1)), .val (.int .i64 (wrap64 (36 + a1))), .row y1, .own [82, 73, 70, 70] ([82, 73, 70, 70] ++ y1), .own [82, 73, 70, 70] ([82, 73, 70, 70] ++ y1)] [.lit [82, 73, 70, 70], .mrow, .free, .free, .row, .own [82, 73, 70, 70], .own [82, 73, 70, 70]] [] [] [] [0, 1, 0, 4, 12, 31, 63] [[], [(0, 13)], [], [(2, 15)], [(3, 16)], [(1, 14), (4, 17)], [(5, 18)]] [[], [], [1], [], [], [], []] (fun vs => [(13, vs 0), (14, vs 1), (15, vs 2), (16, vs 3), (17, vs 4), (18, vs 5), (6, vs 6)]) rfl rfl (by kernel_rfl) (fun _ => rfl) (HB1.out) (HB1.out.size) (HX1.out) (fun g W W' hg hX => GK.other hg hX (by decide)) ?hini ?_ ?_
  case hini =>
    intro x hx
    exact absurd hx (by simp)
  refine ⟨?_, ?_, ?_, ?_, ?_, ?_, ?_, trivial⟩
  · intro a w1 hJ hD hE hS K hK
    obtain ⟨hJ1, hJ2, hJ3⟩ := hJ
    clear hD hS hE
    refine wp_value (v := .slice (some ⟨w1.heap.size, 0, none⟩) 4 4) (w1 := w1.alloc (.cells (List.map (Value.int .u8) [82, 73, 70, 70]).toArray 5)) ?_ (hK _ _ ((Below.refl _ _).alloc (Nat.le_refl _) _) (lit_made 5 [82, 73, 70, 70] hJ2))
    clear hK
    go_simp
  · intro a w1 hJ hD hE hS K hK
    obtain ⟨hJ1, hJ2, hJ3⟩ := hJ
    have d_13 : FK.holds (w.heap.size) 5 (.lit [82, 73, 70, 70]) (a.tmps.getD 13 undef) w1 := hD (0, 13) (by simp)
    clear hD hS hE
    obtain ⟨w2, hr, hm, hv⟩ := conv_lit2 d_13 Try.underlying27 Try.underlying5
    obtain ⟨vv, ev⟩ : ∃ v, a.tmps.getD 13 undef = v := ⟨_, rfl⟩
    rw [ev] at hr hv
    refine wp_value (v := vv) (w1 := w2) ?_ (hK _ _ hm hv)
    clear hK hm hv d_13
    go_simp
  · intro a w1 hJ hD hE hS K hK
    obtain ⟨hJ1, hJ2, hJ3⟩ := hJ
    have d_1 : a.tmps.getD 1 undef = .int .i64 (a1) := hS 1 (by simp)
    clear hD hS hE
    refine wp_value (v := .int .i64 (a1)) (w1 := w1) ?_ (hK _ _ (Below.refl _ _) rfl)
    clear hK
    go_simp
  · intro a w1 hJ hD hE hS K hK
    obtain ⟨hJ1, hJ2, hJ3⟩ := hJ
    have d_15 : a.tmps.getD 15 undef = .int .i64 (a1) := hD (2, 15) (by simp)
    clear hD hS hE
    refine wp_value (v := .int .i64 (wrap64 (36 + a1))) (w1 := w1) ?_ (hK _ _ (Below.refl _ _) rfl)
    clear hK
    go_simp
    exact i64_w _
  · intro a w1 hJ hD hE hS K hK
    obtain ⟨hJ1, hJ2, hJ3⟩ := hJ
    have d_16 : a.tmps.getD 16 undef = .int .i64 (wrap64 (36 + a1)) := hD (3, 16) (by simp)
    clear hD hS hE
    refine wp_call Try.func38 (by kernel_rfl) rfl #[.int .i64 (wrap64 (36 + a1)), .int .i64 (4)] rfl (by simp only [List.map_toArray, List.map_cons, List.map_nil, Act.eval, d_16]) ?_
    refine (sackbutref19_Low.calls k _ _ y1 w1 H_y1.out).mono ?_
    rintro e w2 ⟨v, rfl, ho, hb⟩
    exact ⟨v, rfl, hK v w2 hb (row_of_R ho)⟩
  · intro a w1 hJ hD hE hS K hK
    obtain ⟨hJ1, hJ2, hJ3⟩ := hJ
    have d_14 : FK.holds (w.heap.size) 5 (.mrow [82, 73, 70, 70]) (a.tmps.getD 14 undef) w1 := hD (1, 14) (by simp)
    have d_17 : FK.holds (w.heap.size) 5 (.row y1) (a.tmps.getD 17 undef) w1 := hD (4, 17) (by simp)
    clear hD hS hE
    refine anyAppendLit (ys := y1) (.tmp 14) (.tmp 17) rfl Try.underlying27 HI.out rfl rfl d_14 (by simp) d_17 ?hne hJ2 ?hl (fun v1 w2 hg hf => hK v1 w2 hg hf)
    case hne => exact HNE.out
    case hl => (try simp only [List.length_append, List.length_cons, List.length_nil]); have := HLEN.out; omega
  · intro a w1 hJ hD hE hS K hK
    obtain ⟨hJ1, hJ2, hJ3⟩ := hJ
    have d_18 : FK.holds (w.heap.size) 5 (.own [82, 73, 70, 70] ([82, 73, 70, 70] ++ y1)) (a.tmps.getD 18 undef) w1 := hD (5, 18) (by simp)
    clear hD hS hE
    refine wp_value (v := a.tmps.getD 18 undef) (w1 := w1) ?_ (hK _ _ (Below.refl _ _) d_18)
    clear hK d_18
    go_simp
  · intro vs W2 hB hX hF
    have ho : FK.holds w.heap.size 5 (.own [82, 73, 70, 70] ([82, 73, 70, 70] ++ y1)) (vs 6) W2 := hF 6 (by decide) (by kernel_rfl)
    clear hF HO
    have HB2 := AsideG.mk hB
    have HX2 := AsideG.mk hX
    obtain ⟨xa, hxa⟩ : ∃ z, z = ([82, 73, 70, 70] ++ y1) := ⟨_, rfl⟩
    rw [← hxa] at ho
    have HO := AsideG.mk ho
    have HVxa := AsideG.mk hxa
    have HLENxa := AsideG.mk (show xa.length ≤ 2000 by rw [hxa]; simp only [List.length_append, List.length_cons, List.length_nil]; have := HLEN.out; omega)
    have HLEN2 := AsideG.mk (And.intro HLENxa.out HLEN.out)
    clear HLEN
    have HLEN := HLEN2
    clear HLEN2
    clear hB hX hxa ho
    obtain ⟨v6, hv6⟩ : ∃ v, v = vs 6 := ⟨_, rfl⟩
    rw [← hv6] at HO
    simp only [putL, Act.put, List.setIfInBounds_toArray, List.set_cons_zero, List.set_cons_succ]
    rw [← hv6]
    clear hv6
    go_upto_region 3 with (fail)
    refine region_kinds false (by kernel_rfl) (w.heap.size) 5 (fun W => W.heap[g1]? = some (.cells #[.int .i64 a0_0, .int .i64 a0_1, .bool a0_2, .int .i64 a0_3, .int .i64 a0_4, .int .i64 a0_5, .int .i64 a0_6] 23 (0, 0))) [.make, .make, .mark [87, 65, 86, 69, 102, 109, 116, 32], .app [82, 73, 70, 70], .make, .app [82, 73, 70, 70], .make] [.val (v6), .lit [87, 65, 86, 69, 102, 109, 116, 32], .mrow [87, 65, 86, 69, 102, 109, 116, 32], .own [82, 73, 70, 70] (xa ++ [87, 65, 86, 69, 102, 109, 116, 32]), .row y2, .own [82, 73, 70, 70] ((xa ++ [87, 65, 86, 69, 102, 109, 116, 32]) ++ y2), .own [82, 73, 70, 70] ((xa ++ [87, 65, 86, 69, 102, 109, 116, 32]) ++ y2)] [.free, .lit [87, 65, 86, 69, 102, 109, 116, 32], .mrow, .own [82, 73, 70, 70], .row, .own [82, 73, 70, 70], .own [82, 73, 70, 70]] [(.own [82, 73, 70, 70] xa, v6)] [.own [82, 73, 70, 70]] [[3]] [0, 0, 2, 7, 15, 31, 63] [[], [], [(1, 20)], [(0, 19), (2, 21)], [], [(3, 22), (4, 23)], [(5, 24)]] [[6], [], [], [], [], [], []] (fun vs => [(19, vs 0), (20, vs 1), (21, vs 2), (22, vs 3), (23, vs 4), (24, vs 5), (6, vs 6)]) rfl rfl (by kernel_rfl) (fun _ => rfl) (HB2.out) (HB2.out.size) (HX2.out) (fun g W W' hg hX => GK.other hg hX (by decide)) ?hini ?_ ?_
    case hini =>
      intro x hx
      rcases x with _ | x
      · exact HO.out
      · exact absurd hx (by simp)
    refine ⟨?_, ?_, ?_, ?_, ?_, ?_, ?_, trivial⟩
    · intro a w1 hJ hD hE hS K hK
      obtain ⟨hJ1, hJ2, hJ3⟩ := hJ
      have d_6 : a.tmps.getD 6 undef = v6 := hS 6 (by simp)
      clear hD hS hE
      refine wp_value (v := v6) (w1 := w1) ?_ (hK _ _ (Below.refl _ _) rfl)
      clear hK
      go_simp
    · intro a w1 hJ hD hE hS K hK
      obtain ⟨hJ1, hJ2, hJ3⟩ := hJ
      clear hD hS hE
      refine wp_value (v := .slice (some ⟨w1.heap.size, 0, none⟩) 8 8) (w1 := w1.alloc (.cells (List.map (Value.int .u8) [87, 65, 86, 69, 102, 109, 116, 32]).toArray 5)) ?_ (hK _ _ ((Below.refl _ _).alloc (Nat.le_refl _) _) (lit_made 5 [87, 65, 86, 69, 102, 109, 116, 32] hJ2))
      clear hK
      go_simp
    · intro a w1 hJ hD hE hS K hK
      obtain ⟨hJ1, hJ2, hJ3⟩ := hJ
      have d_20 : FK.holds (w.heap.size) 5 (.lit [87, 65, 86, 69, 102, 109, 116, 32]) (a.tmps.getD 20 undef) w1 := hD (1, 20) (by simp)
      clear hD hS hE
      obtain ⟨w2, hr, hm, hv⟩ := conv_lit2 d_20 Try.underlying27 Try.underlying5
      obtain ⟨vv, ev⟩ : ∃ v, a.tmps.getD 20 undef = v := ⟨_, rfl⟩
      rw [ev] at hr hv
      refine wp_value (v := vv) (w1 := w2) ?_ (hK _ _ hm hv)
      clear hK hm hv d_20
      go_simp
    · intro a w1 hJ hD hE hS K hK
      obtain ⟨hJ1, hJ2, hJ3⟩ := hJ
      have d_19 : a.tmps.getD 19 undef = v6 := hD (0, 19) (by simp)
      have d_21 : FK.holds (w.heap.size) 5 (.mrow [87, 65, 86, 69, 102, 109, 116, 32]) (a.tmps.getD 21 undef) w1 := hD (2, 21) (by simp)
      have i_0 : FK.holds (w.heap.size) 5 (.own [82, 73, 70, 70] xa) (v6) w1 := hE 0 (by decide)
      clear hD hS hE
      refine anyAppendOwn (xs := xa) (ys := [87, 65, 86, 69, 102, 109, 116, 32]) (rfl) (.tmp 19) (.tmp 21) rfl Try.underlying27 HI.out d_19 rfl i_0 (MRowIs.row d_21 (by simp)) hJ2 ?hl (fun v1 w2 hg hf => hK v1 w2 hg hf)
      case hl => (try simp only [List.length_append, List.length_cons, List.length_nil]); have := HLEN.out; omega
    · intro a w1 hJ hD hE hS K hK
      obtain ⟨hJ1, hJ2, hJ3⟩ := hJ
      clear hD hS hE
      refine wp_call Try.func38 (by kernel_rfl) rfl #[.int .i64 (16), .int .i64 (4)] rfl (by simp only [List.map_toArray, List.map_cons, List.map_nil, Act.eval]) ?_
      refine (sackbutref19_Low.calls k _ _ y2 w1 H_y2.out).mono ?_
      rintro e w2 ⟨v, rfl, ho, hb⟩
      exact ⟨v, rfl, hK v w2 hb (row_of_R ho)⟩
    · intro a w1 hJ hD hE hS K hK
      obtain ⟨hJ1, hJ2, hJ3⟩ := hJ
      have d_22 : FK.holds (w.heap.size) 5 (.own [82, 73, 70, 70] (xa ++ [87, 65, 86, 69, 102, 109, 116, 32])) (a.tmps.getD 22 undef) w1 := hD (3, 22) (by simp)
      have d_23 : FK.holds (w.heap.size) 5 (.row y2) (a.tmps.getD 23 undef) w1 := hD (4, 23) (by simp)
      clear hD hS hE
      refine anyAppendOwn (xs := (xa ++ [87, 65, 86, 69, 102, 109, 116, 32])) (ys := y2) (rfl) (.tmp 22) (.tmp 23) rfl Try.underlying27 HI.out rfl rfl d_22 d_23 hJ2 ?hl (fun v1 w2 hg hf => hK v1 w2 hg hf)
      case hl => (try simp only [List.length_append, List.length_cons, List.length_nil]); have := HLEN.out; omega
    · intro a w1 hJ hD hE hS K hK
      obtain ⟨hJ1, hJ2, hJ3⟩ := hJ
      have d_24 : FK.holds (w.heap.size) 5 (.own [82, 73, 70, 70] ((xa ++ [87, 65, 86, 69, 102, 109, 116, 32]) ++ y2)) (a.tmps.getD 24 undef) w1 := hD (5, 24) (by simp)
      clear hD hS hE
      refine wp_value (v := a.tmps.getD 24 undef) (w1 := w1) ?_ (hK _ _ (Below.refl _ _) d_24)
      clear hK d_24
      go_simp
    · intro vs W3 hB hX hF
      have ho : FK.holds w.heap.size 5 (.own [82, 73, 70, 70] ((xa ++ [87, 65, 86, 69, 102, 109, 116, 32]) ++ y2)) (vs 6) W3 := hF 6 (by decide) (by kernel_rfl)
      clear hF HO
      have HB3 := AsideG.mk hB
      have HX3 := AsideG.mk hX
      obtain ⟨xb, hxb⟩ : ∃ z, z = ((xa ++ [87, 65, 86, 69, 102, 109, 116, 32]) ++ y2) := ⟨_, rfl⟩
      rw [← hxb] at ho
      have HO := AsideG.mk ho
      have HVxb := AsideG.mk hxb
      have HLENxb := AsideG.mk (show xb.length ≤ 4000 by rw [hxb]; simp only [List.length_append, List.length_cons, List.length_nil]; have := HLEN.out; omega)
      have HLEN2 := AsideG.mk (And.intro HLENxb.out HLEN.out)
      clear HLEN
      have HLEN := HLEN2
      clear HLEN2
      clear hB hX hxb ho
      obtain ⟨v7, hv7⟩ : ∃ v, v = vs 6 := ⟨_, rfl⟩
      rw [← hv7] at HO
      simp only [putL, Act.put, List.setIfInBounds_toArray, List.set_cons_zero, List.set_cons_succ]
      rw [← hv7]
      clear hv7
      go_upto_region 4 with (fail)
      refine region_kinds true (by kernel_rfl) (w.heap.size) 5 (fun W => W.heap[g1]? = some (.cells #[.int .i64 a0_0, .int .i64 a0_1, .bool a0_2, .int .i64 a0_3, .int .i64 a0_4, .int .i64 a0_5, .int .i64 a0_6] 23 (0, 0))) [.make, .make, .app [82, 73, 70, 70], .make, .make, .make, .app [82, 73, 70, 70], .make, .make, .make, .app [82, 73, 70, 70], .make, .make, .make, .make, .make, .app [82, 73, 70, 70], .make] [.val (v7), .row y3, .own [82, 73, 70, 70] (xb ++ y3), .val (.pointer (some ⟨g1, 0, none⟩)), .val (.int .i64 (a0_0)), .row y4, .own [82, 73, 70, 70] ((xb ++ y3) ++ y4), .val (.pointer (some ⟨g1, 3, none⟩)), .val (.int .i64 (a0_3)), .row y5, .own [82, 73, 70, 70] (((xb ++ y3) ++ y4) ++ y5), .val (.pointer (some ⟨g1, 3, none⟩)), .val (.int .i64 (a0_3)), .val (.int .i64 (wrap64 (a0_0 * wrap64 (Int.tdiv a0_1 8)))), .val (.int .i64 (wrap64 (a0_3 * wrap64 (a0_0 * wrap64 (Int.tdiv a0_1 8))))), .row y6, .own [82, 73, 70, 70] ((((xb ++ y3) ++ y4) ++ y5) ++ y6), .own [82, 73, 70, 70] ((((xb ++ y3) ++ y4) ++ y5) ++ y6)] [.free, .row, .own [82, 73, 70, 70], .free, .free, .row, .own [82, 73, 70, 70], .free, .free, .row, .own [82, 73, 70, 70], .free, .free, .free, .free, .row, .own [82, 73, 70, 70], .own [82, 73, 70, 70]] [(.own [82, 73, 70, 70] xb, v7)] [.own [82, 73, 70, 70]] [[2]] [0, 0, 3, 0, 8, 31, 63, 0, 128, 511, 1023, 0, 2048, 0, 14336, 32767, 65535, 131071] [[], [], [(0, 25), (1, 26)], [], [(3, 28)], [(4, 29)], [(2, 27), (5, 30)], [], [(7, 32)], [(8, 33)], [(6, 31), (9, 34)], [], [(11, 36)], [], [(12, 37), (13, 38)], [(14, 39)], [(10, 35), (15, 40)], [(16, 41)]] [[6], [], [], [2], [], [], [], [2], [], [], [], [2], [], [5], [], [], [], []] (fun vs => [(25, vs 0), (26, vs 1), (27, vs 2), (28, vs 3), (29, vs 4), (30, vs 5), (31, vs 6), (32, vs 7), (33, vs 8), (34, vs 9), (35, vs 10), (36, vs 11), (37, vs 12), (38, vs 13), (39, vs 14), (40, vs 15), (41, vs 16), (6, vs 17)]) rfl rfl (by kernel_rfl) (fun _ => rfl) (HB3.out) (HB3.out.size) (HX3.out) (fun g W W' hg hX => GK.other hg hX (by decide)) ?hini ?_ ?_
      case hini =>
        intro x hx
        rcases x with _ | x
        · exact HO.out
        · exact absurd hx (by simp)
      refine ⟨?_, ?_, ?_, ?_, ?_, ?_, ?_, ?_, ?_, ?_, ?_, ?_, ?_, ?_, ?_, ?_, ?_, ?_, trivial⟩
      · intro a w1 hJ hD hE hS K hK
        obtain ⟨hJ1, hJ2, hJ3⟩ := hJ
        have d_6 : a.tmps.getD 6 undef = v7 := hS 6 (by simp)
        clear hD hS hE
        refine wp_value (v := v7) (w1 := w1) ?_ (hK _ _ (Below.refl _ _) rfl)
        clear hK
        go_simp
      · intro a w1 hJ hD hE hS K hK
        obtain ⟨hJ1, hJ2, hJ3⟩ := hJ
        clear hD hS hE
        refine wp_call Try.func38 (by kernel_rfl) rfl #[.int .i64 (1), .int .i64 (2)] rfl (by simp only [List.map_toArray, List.map_cons, List.map_nil, Act.eval]) ?_
        refine (sackbutref19_Low.calls k _ _ y3 w1 H_y3.out).mono ?_
        rintro e w2 ⟨v, rfl, ho, hb⟩
        exact ⟨v, rfl, hK v w2 hb (row_of_R ho)⟩
      · intro a w1 hJ hD hE hS K hK
        obtain ⟨hJ1, hJ2, hJ3⟩ := hJ
        have d_25 : a.tmps.getD 25 undef = v7 := hD (0, 25) (by simp)
        have d_26 : FK.holds (w.heap.size) 5 (.row y3) (a.tmps.getD 26 undef) w1 := hD (1, 26) (by simp)
        have i_0 : FK.holds (w.heap.size) 5 (.own [82, 73, 70, 70] xb) (v7) w1 := hE 0 (by decide)
        clear hD hS hE
        refine anyAppendOwn (xs := xb) (ys := y3) (rfl) (.tmp 25) (.tmp 26) rfl Try.underlying27 HI.out d_25 rfl i_0 d_26 hJ2 ?hl (fun v1 w2 hg hf => hK v1 w2 hg hf)
        case hl => (try simp only [List.length_append, List.length_cons, List.length_nil]); have := HLEN.out; omega
      · intro a w1 hJ hD hE hS K hK
        obtain ⟨hJ1, hJ2, hJ3⟩ := hJ
        have d_2 : a.tmps.getD 2 undef = .pointer (some ⟨g1, 0, none⟩) := hS 2 (by simp)
        clear hD hS hE
        refine wp_value (v := .pointer (some ⟨g1, 0, none⟩)) (w1 := w1) ?_ (hK _ _ (Below.refl _ _) rfl)
        clear hK
        go_simp
      · intro a w1 hJ hD hE hS K hK
        obtain ⟨hJ1, hJ2, hJ3⟩ := hJ
        have d_28 : a.tmps.getD 28 undef = .pointer (some ⟨g1, 0, none⟩) := hD (3, 28) (by simp)
        have f0 := (blk_cell hJ3 0).trans rfl
        have f1 := (blk_cell hJ3 1).trans rfl
        have f2 := (blk_cell hJ3 2).trans rfl
        have f3 := (blk_cell hJ3 3).trans rfl
        have f4 := (blk_cell hJ3 4).trans rfl
        have f5 := (blk_cell hJ3 5).trans rfl
        have f6 := (blk_cell hJ3 6).trans rfl
        clear hD hS hE
        refine wp_value (v := .int .i64 (a0_0)) (w1 := w1) ?_ (hK _ _ (Below.refl _ _) rfl)
        clear hK
        go_simp
      · intro a w1 hJ hD hE hS K hK
        obtain ⟨hJ1, hJ2, hJ3⟩ := hJ
        have d_29 : a.tmps.getD 29 undef = .int .i64 (a0_0) := hD (4, 29) (by simp)
        clear hD hS hE
        refine wp_call Try.func38 (by kernel_rfl) rfl #[.int .i64 (a0_0), .int .i64 (2)] rfl (by simp only [List.map_toArray, List.map_cons, List.map_nil, Act.eval, d_29]) ?_
        refine (sackbutref19_Low.calls k _ _ y4 w1 H_y4.out).mono ?_
        rintro e w2 ⟨v, rfl, ho, hb⟩
        exact ⟨v, rfl, hK v w2 hb (row_of_R ho)⟩
      · intro a w1 hJ hD hE hS K hK
        obtain ⟨hJ1, hJ2, hJ3⟩ := hJ
        have d_27 : FK.holds (w.heap.size) 5 (.own [82, 73, 70, 70] (xb ++ y3)) (a.tmps.getD 27 undef) w1 := hD (2, 27) (by simp)
        have d_30 : FK.holds (w.heap.size) 5 (.row y4) (a.tmps.getD 30 undef) w1 := hD (5, 30) (by simp)
        clear hD hS hE
        refine anyAppendOwn (xs := (xb ++ y3)) (ys := y4) (rfl) (.tmp 27) (.tmp 30) rfl Try.underlying27 HI.out rfl rfl d_27 d_30 hJ2 ?hl (fun v1 w2 hg hf => hK v1 w2 hg hf)
        case hl => (try simp only [List.length_append, List.length_cons, List.length_nil]); have := HLEN.out; omega
      · intro a w1 hJ hD hE hS K hK
        obtain ⟨hJ1, hJ2, hJ3⟩ := hJ
        have d_2 : a.tmps.getD 2 undef = .pointer (some ⟨g1, 0, none⟩) := hS 2 (by simp)
        clear hD hS hE
        refine wp_value (v := .pointer (some ⟨g1, 3, none⟩)) (w1 := w1) ?_ (hK _ _ (Below.refl _ _) rfl)
        clear hK
        go_simp
      · intro a w1 hJ hD hE hS K hK
        obtain ⟨hJ1, hJ2, hJ3⟩ := hJ
        have d_32 : a.tmps.getD 32 undef = .pointer (some ⟨g1, 3, none⟩) := hD (7, 32) (by simp)
        have f0 := (blk_cell hJ3 0).trans rfl
        have f1 := (blk_cell hJ3 1).trans rfl
        have f2 := (blk_cell hJ3 2).trans rfl
        have f3 := (blk_cell hJ3 3).trans rfl
        have f4 := (blk_cell hJ3 4).trans rfl
        have f5 := (blk_cell hJ3 5).trans rfl
        have f6 := (blk_cell hJ3 6).trans rfl
        clear hD hS hE
        refine wp_value (v := .int .i64 (a0_3)) (w1 := w1) ?_ (hK _ _ (Below.refl _ _) rfl)
        clear hK
        go_simp
      · intro a w1 hJ hD hE hS K hK
        obtain ⟨hJ1, hJ2, hJ3⟩ := hJ
        have d_33 : a.tmps.getD 33 undef = .int .i64 (a0_3) := hD (8, 33) (by simp)
        clear hD hS hE
        refine wp_call Try.func38 (by kernel_rfl) rfl #[.int .i64 (a0_3), .int .i64 (4)] rfl (by simp only [List.map_toArray, List.map_cons, List.map_nil, Act.eval, d_33]) ?_
        refine (sackbutref19_Low.calls k _ _ y5 w1 H_y5.out).mono ?_
        rintro e w2 ⟨v, rfl, ho, hb⟩
        exact ⟨v, rfl, hK v w2 hb (row_of_R ho)⟩
      · intro a w1 hJ hD hE hS K hK
        obtain ⟨hJ1, hJ2, hJ3⟩ := hJ
        have d_31 : FK.holds (w.heap.size) 5 (.own [82, 73, 70, 70] ((xb ++ y3) ++ y4)) (a.tmps.getD 31 undef) w1 := hD (6, 31) (by simp)
        have d_34 : FK.holds (w.heap.size) 5 (.row y5) (a.tmps.getD 34 undef) w1 := hD (9, 34) (by simp)
        clear hD hS hE
        refine anyAppendOwn (xs := ((xb ++ y3) ++ y4)) (ys := y5) (rfl) (.tmp 31) (.tmp 34) rfl Try.underlying27 HI.out rfl rfl d_31 d_34 hJ2 ?hl (fun v1 w2 hg hf => hK v1 w2 hg hf)
        case hl => (try simp only [List.length_append, List.length_cons, List.length_nil]); have := HLEN.out; omega
      · intro a w1 hJ hD hE hS K hK
        obtain ⟨hJ1, hJ2, hJ3⟩ := hJ
        have d_2 : a.tmps.getD 2 undef = .pointer (some ⟨g1, 0, none⟩) := hS 2 (by simp)
        clear hD hS hE
        refine wp_value (v := .pointer (some ⟨g1, 3, none⟩)) (w1 := w1) ?_ (hK _ _ (Below.refl _ _) rfl)
        clear hK
        go_simp
      · intro a w1 hJ hD hE hS K hK
        obtain ⟨hJ1, hJ2, hJ3⟩ := hJ
        have d_36 : a.tmps.getD 36 undef = .pointer (some ⟨g1, 3, none⟩) := hD (11, 36) (by simp)
        have f0 := (blk_cell hJ3 0).trans rfl
        have f1 := (blk_cell hJ3 1).trans rfl
        have f2 := (blk_cell hJ3 2).trans rfl
        have f3 := (blk_cell hJ3 3).trans rfl
        have f4 := (blk_cell hJ3 4).trans rfl
        have f5 := (blk_cell hJ3 5).trans rfl
        have f6 := (blk_cell hJ3 6).trans rfl
        clear hD hS hE
        refine wp_value (v := .int .i64 (a0_3)) (w1 := w1) ?_ (hK _ _ (Below.refl _ _) rfl)
        clear hK
        go_simp
      · intro a w1 hJ hD hE hS K hK
        obtain ⟨hJ1, hJ2, hJ3⟩ := hJ
        have d_5 : a.tmps.getD 5 undef = .int .i64 (wrap64 (a0_0 * wrap64 (Int.tdiv a0_1 8))) := hS 5 (by simp)
        clear hD hS hE
        refine wp_value (v := .int .i64 (wrap64 (a0_0 * wrap64 (Int.tdiv a0_1 8)))) (w1 := w1) ?_ (hK _ _ (Below.refl _ _) rfl)
        clear hK
        go_simp
      · intro a w1 hJ hD hE hS K hK
        obtain ⟨hJ1, hJ2, hJ3⟩ := hJ
        have d_37 : a.tmps.getD 37 undef = .int .i64 (a0_3) := hD (12, 37) (by simp)
        have d_38 : a.tmps.getD 38 undef = .int .i64 (wrap64 (a0_0 * wrap64 (Int.tdiv a0_1 8))) := hD (13, 38) (by simp)
        clear hD hS hE
        refine wp_value (v := .int .i64 (wrap64 (a0_3 * wrap64 (a0_0 * wrap64 (Int.tdiv a0_1 8))))) (w1 := w1) ?_ (hK _ _ (Below.refl _ _) rfl)
        clear hK
        go_simp
        exact i64_w _
      · intro a w1 hJ hD hE hS K hK
        obtain ⟨hJ1, hJ2, hJ3⟩ := hJ
        have d_39 : a.tmps.getD 39 undef = .int .i64 (wrap64 (a0_3 * wrap64 (a0_0 * wrap64 (Int.tdiv a0_1 8)))) := hD (14, 39) (by simp)
        clear hD hS hE
        refine wp_call Try.func38 (by kernel_rfl) rfl #[.int .i64 (wrap64 (a0_3 * wrap64 (a0_0 * wrap64 (Int.tdiv a0_1 8)))), .int .i64 (4)] rfl (by simp only [List.map_toArray, List.map_cons, List.map_nil, Act.eval, d_39]) ?_
        refine (sackbutref19_Low.calls k _ _ y6 w1 H_y6.out).mono ?_
        rintro e w2 ⟨v, rfl, ho, hb⟩
        exact ⟨v, rfl, hK v w2 hb (row_of_R ho)⟩
      · intro a w1 hJ hD hE hS K hK
        obtain ⟨hJ1, hJ2, hJ3⟩ := hJ
        have d_35 : FK.holds (w.heap.size) 5 (.own [82, 73, 70, 70] (((xb ++ y3) ++ y4) ++ y5)) (a.tmps.getD 35 undef) w1 := hD (10, 35) (by simp)
        have d_40 : FK.holds (w.heap.size) 5 (.row y6) (a.tmps.getD 40 undef) w1 := hD (15, 40) (by simp)
        clear hD hS hE
        refine anyAppendOwn (xs := (((xb ++ y3) ++ y4) ++ y5)) (ys := y6) (rfl) (.tmp 35) (.tmp 40) rfl Try.underlying27 HI.out rfl rfl d_35 d_40 hJ2 ?hl (fun v1 w2 hg hf => hK v1 w2 hg hf)
        case hl => (try simp only [List.length_append, List.length_cons, List.length_nil]); have := HLEN.out; omega
      · intro a w1 hJ hD hE hS K hK
        obtain ⟨hJ1, hJ2, hJ3⟩ := hJ
        have d_41 : FK.holds (w.heap.size) 5 (.own [82, 73, 70, 70] ((((xb ++ y3) ++ y4) ++ y5) ++ y6)) (a.tmps.getD 41 undef) w1 := hD (16, 41) (by simp)
        clear hD hS hE
        refine wp_value (v := a.tmps.getD 41 undef) (w1 := w1) ?_ (hK _ _ (Below.refl _ _) d_41)
        clear hK d_41
        go_simp
      · intro vs W4 hB hX hF
        have ho : FK.holds w.heap.size 5 (.own [82, 73, 70, 70] ((((xb ++ y3) ++ y4) ++ y5) ++ y6)) (vs 17) W4 := hF 17 (by decide) (by kernel_rfl)
        clear hF HO
        have HB4 := AsideG.mk hB
        have HX4 := AsideG.mk hX
        obtain ⟨xc, hxc⟩ : ∃ z, z = ((((xb ++ y3) ++ y4) ++ y5) ++ y6) := ⟨_, rfl⟩
        rw [← hxc] at ho
        have HO := AsideG.mk ho
        have HVxc := AsideG.mk hxc
        have HLENxc := AsideG.mk (show xc.length ≤ 9000 by rw [hxc]; simp only [List.length_append, List.length_cons, List.length_nil]; have := HLEN.out; omega)
        have HLEN2 := AsideG.mk (And.intro HLENxc.out HLEN.out)
        clear HLEN
        have HLEN := HLEN2
        clear HLEN2
        clear hB hX hxc ho
        obtain ⟨v8, hv8⟩ : ∃ v, v = vs 17 := ⟨_, rfl⟩
        rw [← hv8] at HO
        simp only [putL, Act.put, List.setIfInBounds_toArray, List.set_cons_zero, List.set_cons_succ]
        rw [← hv8]
        clear hv8
        go_upto_region 5 with (fail)
        refine region_kinds true (by kernel_rfl) (w.heap.size) 5 (fun W => W.heap[g1]? = some (.cells #[.int .i64 a0_0, .int .i64 a0_1, .bool a0_2, .int .i64 a0_3, .int .i64 a0_4, .int .i64 a0_5, .int .i64 a0_6] 23 (0, 0))) [.make, .make, .make, .app [82, 73, 70, 70], .make, .make, .make, .app [82, 73, 70, 70], .make, .mark [100, 97, 116, 97], .app [82, 73, 70, 70], .make, .make, .app [82, 73, 70, 70], .make] [.val (v8), .val (.int .i64 (wrap64 (a0_0 * wrap64 (Int.tdiv a0_1 8)))), .row y7, .own [82, 73, 70, 70] (xc ++ y7), .val (.pointer (some ⟨g1, 1, none⟩)), .val (.int .i64 (a0_1)), .row y8, .own [82, 73, 70, 70] ((xc ++ y7) ++ y8), .lit [100, 97, 116, 97], .mrow [100, 97, 116, 97], .own [82, 73, 70, 70] (((xc ++ y7) ++ y8) ++ [100, 97, 116, 97]), .val (.int .i64 (a1)), .row y9, .own [82, 73, 70, 70] ((((xc ++ y7) ++ y8) ++ [100, 97, 116, 97]) ++ y9), .own [82, 73, 70, 70] ((((xc ++ y7) ++ y8) ++ [100, 97, 116, 97]) ++ y9)] [.free, .free, .row, .own [82, 73, 70, 70], .free, .free, .row, .own [82, 73, 70, 70], .lit [100, 97, 116, 97], .mrow, .own [82, 73, 70, 70], .free, .row, .own [82, 73, 70, 70], .own [82, 73, 70, 70]] [(.own [82, 73, 70, 70] xc, v8)] [.own [82, 73, 70, 70]] [[3]] [0, 0, 2, 7, 0, 16, 63, 127, 0, 256, 1023, 0, 4095, 8191, 16383] [[], [], [(1, 43)], [(0, 42), (2, 44)], [], [(4, 46)], [(5, 47)], [(3, 45), (6, 48)], [], [(8, 50)], [(7, 49), (9, 51)], [], [(11, 53)], [(10, 52), (12, 54)], [(13, 55)]] [[6], [5], [], [], [2], [], [], [], [], [], [], [1], [], [], []] (fun vs => [(42, vs 0), (43, vs 1), (44, vs 2), (45, vs 3), (46, vs 4), (47, vs 5), (48, vs 6), (49, vs 7), (50, vs 8), (51, vs 9), (52, vs 10), (53, vs 11), (54, vs 12), (55, vs 13), (6, vs 14)]) rfl rfl (by kernel_rfl) (fun _ => rfl) (HB4.out) (HB4.out.size) (HX4.out) (fun g W W' hg hX => GK.other hg hX (by decide)) ?hini ?_ ?_
        case hini =>
          intro x hx
          rcases x with _ | x
          · exact HO.out
          · exact absurd hx (by simp)
        refine ⟨?_, ?_, ?_, ?_, ?_, ?_, ?_, ?_, ?_, ?_, ?_, ?_, ?_, ?_, ?_, trivial⟩
        · intro a w1 hJ hD hE hS K hK
          obtain ⟨hJ1, hJ2, hJ3⟩ := hJ
          have d_6 : a.tmps.getD 6 undef = v8 := hS 6 (by simp)
          clear hD hS hE
          refine wp_value (v := v8) (w1 := w1) ?_ (hK _ _ (Below.refl _ _) rfl)
          clear hK
          go_simp
        · intro a w1 hJ hD hE hS K hK
          obtain ⟨hJ1, hJ2, hJ3⟩ := hJ
          have d_5 : a.tmps.getD 5 undef = .int .i64 (wrap64 (a0_0 * wrap64 (Int.tdiv a0_1 8))) := hS 5 (by simp)
          clear hD hS hE
          refine wp_value (v := .int .i64 (wrap64 (a0_0 * wrap64 (Int.tdiv a0_1 8)))) (w1 := w1) ?_ (hK _ _ (Below.refl _ _) rfl)
          clear hK
          go_simp
        · intro a w1 hJ hD hE hS K hK
          obtain ⟨hJ1, hJ2, hJ3⟩ := hJ
          have d_43 : a.tmps.getD 43 undef = .int .i64 (wrap64 (a0_0 * wrap64 (Int.tdiv a0_1 8))) := hD (1, 43) (by simp)
          clear hD hS hE
          refine wp_call Try.func38 (by kernel_rfl) rfl #[.int .i64 (wrap64 (a0_0 * wrap64 (Int.tdiv a0_1 8))), .int .i64 (2)] rfl (by simp only [List.map_toArray, List.map_cons, List.map_nil, Act.eval, d_43]) ?_
          refine (sackbutref19_Low.calls k _ _ y7 w1 H_y7.out).mono ?_
          rintro e w2 ⟨v, rfl, ho, hb⟩
          exact ⟨v, rfl, hK v w2 hb (row_of_R ho)⟩
        · intro a w1 hJ hD hE hS K hK
          obtain ⟨hJ1, hJ2, hJ3⟩ := hJ
          have d_42 : a.tmps.getD 42 undef = v8 := hD (0, 42) (by simp)
          have d_44 : FK.holds (w.heap.size) 5 (.row y7) (a.tmps.getD 44 undef) w1 := hD (2, 44) (by simp)
          have i_0 : FK.holds (w.heap.size) 5 (.own [82, 73, 70, 70] xc) (v8) w1 := hE 0 (by decide)
          clear hD hS hE
          refine anyAppendOwn (xs := xc) (ys := y7) (rfl) (.tmp 42) (.tmp 44) rfl Try.underlying27 HI.out d_42 rfl i_0 d_44 hJ2 ?hl (fun v1 w2 hg hf => hK v1 w2 hg hf)
          case hl => (try simp only [List.length_append, List.length_cons, List.length_nil]); have := HLEN.out; omega
        · intro a w1 hJ hD hE hS K hK
          obtain ⟨hJ1, hJ2, hJ3⟩ := hJ
          have d_2 : a.tmps.getD 2 undef = .pointer (some ⟨g1, 0, none⟩) := hS 2 (by simp)
          clear hD hS hE
          refine wp_value (v := .pointer (some ⟨g1, 1, none⟩)) (w1 := w1) ?_ (hK _ _ (Below.refl _ _) rfl)
          clear hK
          go_simp
        · intro a w1 hJ hD hE hS K hK
          obtain ⟨hJ1, hJ2, hJ3⟩ := hJ
          have d_46 : a.tmps.getD 46 undef = .pointer (some ⟨g1, 1, none⟩) := hD (4, 46) (by simp)
          have f0 := (blk_cell hJ3 0).trans rfl
          have f1 := (blk_cell hJ3 1).trans rfl
          have f2 := (blk_cell hJ3 2).trans rfl
          have f3 := (blk_cell hJ3 3).trans rfl
          have f4 := (blk_cell hJ3 4).trans rfl
          have f5 := (blk_cell hJ3 5).trans rfl
          have f6 := (blk_cell hJ3 6).trans rfl
          clear hD hS hE
          refine wp_value (v := .int .i64 (a0_1)) (w1 := w1) ?_ (hK _ _ (Below.refl _ _) rfl)
          clear hK
          go_simp
        · intro a w1 hJ hD hE hS K hK
          obtain ⟨hJ1, hJ2, hJ3⟩ := hJ
          have d_47 : a.tmps.getD 47 undef = .int .i64 (a0_1) := hD (5, 47) (by simp)
          clear hD hS hE
          refine wp_call Try.func38 (by kernel_rfl) rfl #[.int .i64 (a0_1), .int .i64 (2)] rfl (by simp only [List.map_toArray, List.map_cons, List.map_nil, Act.eval, d_47]) ?_
          refine (sackbutref19_Low.calls k _ _ y8 w1 H_y8.out).mono ?_
          rintro e w2 ⟨v, rfl, ho, hb⟩
          exact ⟨v, rfl, hK v w2 hb (row_of_R ho)⟩
        · intro a w1 hJ hD hE hS K hK
          obtain ⟨hJ1, hJ2, hJ3⟩ := hJ
          have d_45 : FK.holds (w.heap.size) 5 (.own [82, 73, 70, 70] (xc ++ y7)) (a.tmps.getD 45 undef) w1 := hD (3, 45) (by simp)
          have d_48 : FK.holds (w.heap.size) 5 (.row y8) (a.tmps.getD 48 undef) w1 := hD (6, 48) (by simp)
          clear hD hS hE
          refine anyAppendOwn (xs := (xc ++ y7)) (ys := y8) (rfl) (.tmp 45) (.tmp 48) rfl Try.underlying27 HI.out rfl rfl d_45 d_48 hJ2 ?hl (fun v1 w2 hg hf => hK v1 w2 hg hf)
          case hl => (try simp only [List.length_append, List.length_cons, List.length_nil]); have := HLEN.out; omega
        · intro a w1 hJ hD hE hS K hK
          obtain ⟨hJ1, hJ2, hJ3⟩ := hJ
          clear hD hS hE
          refine wp_value (v := .slice (some ⟨w1.heap.size, 0, none⟩) 4 4) (w1 := w1.alloc (.cells (List.map (Value.int .u8) [100, 97, 116, 97]).toArray 5)) ?_ (hK _ _ ((Below.refl _ _).alloc (Nat.le_refl _) _) (lit_made 5 [100, 97, 116, 97] hJ2))
          clear hK
          go_simp
        · intro a w1 hJ hD hE hS K hK
          obtain ⟨hJ1, hJ2, hJ3⟩ := hJ
          have d_50 : FK.holds (w.heap.size) 5 (.lit [100, 97, 116, 97]) (a.tmps.getD 50 undef) w1 := hD (8, 50) (by simp)
          clear hD hS hE
          obtain ⟨w2, hr, hm, hv⟩ := conv_lit2 d_50 Try.underlying27 Try.underlying5
          obtain ⟨vv, ev⟩ : ∃ v, a.tmps.getD 50 undef = v := ⟨_, rfl⟩
          rw [ev] at hr hv
          refine wp_value (v := vv) (w1 := w2) ?_ (hK _ _ hm hv)
          clear hK hm hv d_50
          go_simp
        · intro a w1 hJ hD hE hS K hK
          obtain ⟨hJ1, hJ2, hJ3⟩ := hJ
          have d_49 : FK.holds (w.heap.size) 5 (.own [82, 73, 70, 70] ((xc ++ y7) ++ y8)) (a.tmps.getD 49 undef) w1 := hD (7, 49) (by simp)
          have d_51 : FK.holds (w.heap.size) 5 (.mrow [100, 97, 116, 97]) (a.tmps.getD 51 undef) w1 := hD (9, 51) (by simp)
          clear hD hS hE
          refine anyAppendOwn (xs := ((xc ++ y7) ++ y8)) (ys := [100, 97, 116, 97]) (rfl) (.tmp 49) (.tmp 51) rfl Try.underlying27 HI.out rfl rfl d_49 (MRowIs.row d_51 (by simp)) hJ2 ?hl (fun v1 w2 hg hf => hK v1 w2 hg hf)
          case hl => (try simp only [List.length_append, List.length_cons, List.length_nil]); have := HLEN.out; omega
        · intro a w1 hJ hD hE hS K hK
          obtain ⟨hJ1, hJ2, hJ3⟩ := hJ
          have d_1 : a.tmps.getD 1 undef = .int .i64 (a1) := hS 1 (by simp)
          clear hD hS hE
          refine wp_value (v := .int .i64 (a1)) (w1 := w1) ?_ (hK _ _ (Below.refl _ _) rfl)
          clear hK
          go_simp
        · intro a w1 hJ hD hE hS K hK
          obtain ⟨hJ1, hJ2, hJ3⟩ := hJ
          have d_53 : a.tmps.getD 53 undef = .int .i64 (a1) := hD (11, 53) (by simp)
          clear hD hS hE
          refine wp_call Try.func38 (by kernel_rfl) rfl #[.int .i64 (a1), .int .i64 (4)] rfl (by simp only [List.map_toArray, List.map_cons, List.map_nil, Act.eval, d_53]) ?_
          refine (sackbutref19_Low.calls k _ _ y9 w1 H_y9.out).mono ?_
          rintro e w2 ⟨v, rfl, ho, hb⟩
          exact ⟨v, rfl, hK v w2 hb (row_of_R ho)⟩
        · intro a w1 hJ hD hE hS K hK
          obtain ⟨hJ1, hJ2, hJ3⟩ := hJ
          have d_52 : FK.holds (w.heap.size) 5 (.own [82, 73, 70, 70] (((xc ++ y7) ++ y8) ++ [100, 97, 116, 97])) (a.tmps.getD 52 undef) w1 := hD (10, 52) (by simp)
          have d_54 : FK.holds (w.heap.size) 5 (.row y9) (a.tmps.getD 54 undef) w1 := hD (12, 54) (by simp)
          clear hD hS hE
          refine anyAppendOwn (xs := (((xc ++ y7) ++ y8) ++ [100, 97, 116, 97])) (ys := y9) (rfl) (.tmp 52) (.tmp 54) rfl Try.underlying27 HI.out rfl rfl d_52 d_54 hJ2 ?hl (fun v1 w2 hg hf => hK v1 w2 hg hf)
          case hl => (try simp only [List.length_append, List.length_cons, List.length_nil]); have := HLEN.out; omega
        · intro a w1 hJ hD hE hS K hK
          obtain ⟨hJ1, hJ2, hJ3⟩ := hJ
          have d_55 : FK.holds (w.heap.size) 5 (.own [82, 73, 70, 70] ((((xc ++ y7) ++ y8) ++ [100, 97, 116, 97]) ++ y9)) (a.tmps.getD 55 undef) w1 := hD (13, 55) (by simp)
          clear hD hS hE
          refine wp_value (v := a.tmps.getD 55 undef) (w1 := w1) ?_ (hK _ _ (Below.refl _ _) d_55)
          clear hK d_55
          go_simp
        · intro vs W5 hB hX hF
          have ho : FK.holds w.heap.size 5 (.own [82, 73, 70, 70] ((((xc ++ y7) ++ y8) ++ [100, 97, 116, 97]) ++ y9)) (vs 14) W5 := hF 14 (by decide) (by kernel_rfl)
          clear hF HO
          have HB5 := AsideG.mk hB
          have HX5 := AsideG.mk hX
          obtain ⟨xd, hxd⟩ : ∃ z, z = ((((xc ++ y7) ++ y8) ++ [100, 97, 116, 97]) ++ y9) := ⟨_, rfl⟩
          rw [← hxd] at ho
          have HO := AsideG.mk ho
          have HVxd := AsideG.mk hxd
          have HLENxd := AsideG.mk (show xd.length ≤ 20000 by rw [hxd]; simp only [List.length_append, List.length_cons, List.length_nil]; have := HLEN.out; omega)
          have HLEN2 := AsideG.mk (And.intro HLENxd.out HLEN.out)
          clear HLEN
          have HLEN := HLEN2
          clear HLEN2
          clear hB hX hxd ho
          obtain ⟨v9, hv9⟩ : ∃ v, v = vs 14 := ⟨_, rfl⟩
          rw [← hv9] at HO
          simp only [putL, Act.put, List.setIfInBounds_toArray, List.set_cons_zero, List.set_cons_succ]
          rw [← hv9]
          clear hv9
          have HFIN := AsideG.mk (show xd = r by rw [HVxd.out, HVxc.out, HVxb.out, HVxa.out]; exact HR.out)
          clear HNE HLEN
          go_wp2
          go_ret
          exact ⟨_, rfl, by rw [← HFIN.out]; exact HO.out.1, HB5.out⟩

end Go.Proofs.Ytliidobbkfmndaa.HW2

