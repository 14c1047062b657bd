/- TopRefused: what the claim's theorem reaches of this seat's texts, part 8, put together by this project's own program (bale.py); conditions: those of each theorem. -/
import Derived.Test.YtkolmgkbdhbmhaaGreatDoorVTopRefused5
import Derived.Test.YtkolmgkbdhbmhaaGreatDoorVTopRefused7
import Derived.Shelf.Abstract
import Derived.OwnWalk
import Derived.LoopN
namespace Go.Proofs.YtkolmgkbdhbmhaaGreatDoor.HT2
open Go.RowKit Go.Proofs.YtkolmgkbdhbmhaaGreatDoorW.PrintWords Go.Proofs.YtkolmgkbdhbmhaaGreatDoorW.PrintLast Go.Proofs.YtkolmgkbdhbmhaaGreatDoorW.PrintMore
attribute [local go_sem] max2_int min2_int max_two min_two max_three min_three max_four min_four   -- for this text's walks alone
set_option linter.unusedVariables false
set_option linter.unusedSimpArgs false

/-! ### stream_check: function 15, by hand -/
structure AsideCk (p : Prop) : Prop where mk :: (out : p)
def notC (s : Int) (c : List Int) : Bool := decide ((c.length : Int) ≠ s)
theorem ck1_calls (s : Int) (A : Option Addr) (n c b : Nat) (W : World) (hb : W.cell? ⟨b, 6, none⟩ = some (.int .i64 s)) :
    Calls Tryz.prog 34 #[.slice A n c, .pointer (some ⟨b, 0, none⟩)] W fun e W' => e = .returned (.bool (decide ((n : Int) ≠ s))) ∧ Below W.heap.size W W' := by
  have hu23 := Tryz.underlying23
  by_cases h : (n : Int) = s
  · have h1 : ((n : Int) == s) = true := beq_iff_eq.mpr h
    have h2 : ((n : Int) != s) = false := bne_eq_false_iff_eq.mpr h
    have H := AsideCk.mk h
    clear h
    go_enter Tryz.func34, Tryz.ntmps34
    go_wp2
    go_ret
    exact ⟨by rw [decide_eq_false (by rw [H.out]; simp)]; rfl, Below.refl _ _⟩
  · have h1 : ((n : Int) == s) = false := beq_eq_false_iff_ne.mpr h
    have h2 : ((n : Int) != s) = true := bne_iff_ne.mpr h
    have H := AsideCk.mk h
    clear h
    go_enter Tryz.func34, Tryz.ntmps34
    go_wp2
    go_ret
    exact ⟨by rw [decide_eq_true H.out]; rfl, Below.refl _ _⟩
/-- Whether a choice is within its ranges. -/
def choiceB (a2_0 a2_1 : Int) : Bool := !decide (a2_0 < 0) && !decide (16 < a2_0) && !decide (a2_1 < 0) && !decide (4 < a2_1)
def stream_check.f (k : Nat) (a0_0 : Int) (a0_1 : Int) (a0_2 : Bool) (a0_3 : Int) (a0_4 : Int) (a0_5 : Int) (a0_6 : Int) (l1 : List (List Int)) (a2_0 : Int) (a2_1 : Int) (a2_2 : Bool) (a2_3 : Bool) (a2_4 : Bool) : Option Int := (head_Good.f a0_0 a0_1 a0_2 a0_3 a0_4 a0_5 a0_6).bind fun g => if g = true then (if (l1.length : Int) = a0_0 then (if l1.any (notC a0_6) = true then some 8 else (pack_Check.f k a0_1 a0_2 l1).bind fun e => if e = 0 then (if choiceB a2_0 a2_1 = true then some 0 else some 1) else some e) else some 8) else some 7
set_option maxRecDepth 100000 in
set_option maxHeartbeats 4000000 in
theorem stream_check.calls (k : Nat) (a0_0 : Int) (a0_1 : Int) (a0_2 : Bool) (a0_3 : Int) (a0_4 : Int) (a0_5 : Int) (a0_6 : Int) (A1 : Option Addr) (c1 : Nat) (l1 : List (List Int)) (a2_0 : Int) (a2_1 : Int) (a2_2 : Bool) (a2_3 : Bool) (a2_4 : Bool) (r : Int) (w : World) (hr1 : Kd.C (Kd.slice 3 (Kd.int .i64)) w A1 l1.length l1) (hc1 : l1.length ≤ c1) (h : stream_check.f k a0_0 a0_1 a0_2 a0_3 a0_4 a0_5 a0_6 l1 a2_0 a2_1 a2_2 a2_3 a2_4 = some r) :
    Calls Tryz.prog 15 #[.agg #[.int .i64 a0_0, .int .i64 a0_1, .bool a0_2, .int .i64 a0_3, .int .i64 a0_4, .int .i64 a0_5, .int .i64 a0_6], .slice A1 l1.length c1, .agg #[.int .i64 a2_0, .int .i64 a2_1, .bool a2_2, .bool a2_3, .bool a2_4]] w fun e w' => e = .returned (.int .i64 r) ∧ Below w.heap.size w w' := by
  have hu23 := Tryz.underlying23
  have hu26 := Tryz.underlying26
  unfold stream_check.f at h
  obtain ⟨g, hg, h⟩ := Option.bind_eq_some_iff.mp h
  have HG := AsideCk.mk (fun W => head_Good.calls a0_0 a0_1 a0_2 a0_3 a0_4 a0_5 a0_6 g W hg)
  clear hg
  have HFO := AsideCk.mk (fun W => head_Form.calls a0_0 a0_1 a0_2 a0_3 a0_4 a0_5 a0_6 a0_1 a0_2 W (by rfl))
  cases g with
  | false =>
    rw [if_neg (by decide)] at h
    obtain rfl := Option.some.inj h
    clear h hr1
    go_enter Tryz.func15, Tryz.ntmps15
    go_wp2_with (first | ((with_reducible refine gate_dst (N := 3) rfl ?_); refine box_event ?hg (N := 3) ?hd (cs := #[.int .i64 a0_0, .int .i64 a0_1, .bool a0_2, .int .i64 a0_3, .int .i64 a0_4, .int .i64 a0_5, .int .i64 a0_6]) (t := 23) ?hr ?_; (case hd => rfl); (case hg => rfl); (case hr => first | (go_simp; done) | (go_simp; rfl)); intro g1 hg0_ wx hx1 hb1; clear hg0_; have HX1 := AsideCk.mk hx1; have HB1 := AsideCk.mk hb1; clear hx1 hb1; have f0 := (blk_cell HX1.out 0).trans rfl; have f1 := (blk_cell HX1.out 1).trans rfl; have f2 := (blk_cell HX1.out 2).trans rfl; have f3 := (blk_cell HX1.out 3).trans rfl; have f4 := (blk_cell HX1.out 4).trans rfl; have f5 := (blk_cell HX1.out 5).trans rfl; have f6 := (blk_cell HX1.out 6).trans rfl) | ((with_reducible refine gate_dst (N := 5) rfl ?_); refine box_event ?hg (N := 5) ?hd (cs := #[.int .i64 a2_0, .int .i64 a2_1, .bool a2_2, .bool a2_3, .bool a2_4]) (t := 26) ?hr ?_; (case hd => rfl); (case hg => rfl); (case hr => first | (go_simp; done) | (go_simp; rfl)); intro g2 hg0_ wy hy1 hb2; clear hg0_; have HY2 := AsideCk.mk hy1; have HX2 := AsideCk.mk (blk_below HX1.out hb2); have HB2 := AsideCk.mk (below_step HB1.out hb2); clear hy1 hb2; clear f0 f1 f2 f3 f4 f5 f6; have f0 := (blk_cell HX2.out 0).trans rfl; have f1 := (blk_cell HX2.out 1).trans rfl; have f2 := (blk_cell HX2.out 2).trans rfl; have f3 := (blk_cell HX2.out 3).trans rfl; have f4 := (blk_cell HX2.out 4).trans rfl; have f5 := (blk_cell HX2.out 5).trans rfl; have f6 := (blk_cell HX2.out 6).trans rfl; have h0 := (blk_cell HY2.out 0).trans rfl; have h1 := (blk_cell HY2.out 1).trans rfl; have h2 := (blk_cell HY2.out 2).trans rfl; have h3 := (blk_cell HY2.out 3).trans rfl; have h4 := (blk_cell HY2.out 4).trans rfl) | (go_at_call 32; refine (HG.out _).mono ?_; rintro e w3 ⟨rfl, hd⟩; have HX3 := AsideCk.mk (blk_below HX2.out hd); have HY3 := AsideCk.mk (blk_below HY2.out hd); have HB3 := AsideCk.mk (below_step HB2.out hd); clear hd; clear f0 f1 f2 f3 f4 f5 f6; clear h0 h1 h2 h3 h4; have f0 := (blk_cell HX3.out 0).trans rfl; have f1 := (blk_cell HX3.out 1).trans rfl; have f2 := (blk_cell HX3.out 2).trans rfl; have f3 := (blk_cell HX3.out 3).trans rfl; have f4 := (blk_cell HX3.out 4).trans rfl; have f5 := (blk_cell HX3.out 5).trans rfl; have f6 := (blk_cell HX3.out 6).trans rfl; have h0 := (blk_cell HY3.out 0).trans rfl; have h1 := (blk_cell HY3.out 1).trans rfl; have h2 := (blk_cell HY3.out 2).trans rfl; have h3 := (blk_cell HY3.out 3).trans rfl; have h4 := (blk_cell HY3.out 4).trans rfl) | (go_at_call 33; refine (HA.out g1 _ HB3.out ((blk_cell HX3.out 6).trans rfl)).mono ?_; rintro e w4 ⟨rfl, hd⟩; have HX4 := AsideCk.mk (blk_below HX3.out hd); have HY4 := AsideCk.mk (blk_below HY3.out hd); have HB4 := AsideCk.mk (below_step HB3.out hd); clear hd; clear f0 f1 f2 f3 f4 f5 f6; clear h0 h1 h2 h3 h4; have f0 := (blk_cell HX4.out 0).trans rfl; have f1 := (blk_cell HX4.out 1).trans rfl; have f2 := (blk_cell HX4.out 2).trans rfl; have f3 := (blk_cell HX4.out 3).trans rfl; have f4 := (blk_cell HX4.out 4).trans rfl; have f5 := (blk_cell HX4.out 5).trans rfl; have f6 := (blk_cell HX4.out 6).trans rfl; have h0 := (blk_cell HY4.out 0).trans rfl; have h1 := (blk_cell HY4.out 1).trans rfl; have h2 := (blk_cell HY4.out 2).trans rfl; have h3 := (blk_cell HY4.out 3).trans rfl; have h4 := (blk_cell HY4.out 4).trans rfl) | (go_at_call 23; refine (HFO.out _).mono ?_; rintro e w5 ⟨rfl, hd⟩; have HX5 := AsideCk.mk (blk_below HX4.out hd); have HY5 := AsideCk.mk (blk_below HY4.out hd); have HB5 := AsideCk.mk (below_step HB4.out hd); clear hd; clear f0 f1 f2 f3 f4 f5 f6; clear h0 h1 h2 h3 h4; have f0 := (blk_cell HX5.out 0).trans rfl; have f1 := (blk_cell HX5.out 1).trans rfl; have f2 := (blk_cell HX5.out 2).trans rfl; have f3 := (blk_cell HX5.out 3).trans rfl; have f4 := (blk_cell HX5.out 4).trans rfl; have f5 := (blk_cell HX5.out 5).trans rfl; have f6 := (blk_cell HX5.out 6).trans rfl; have h0 := (blk_cell HY5.out 0).trans rfl; have h1 := (blk_cell HY5.out 1).trans rfl; have h2 := (blk_cell HY5.out 2).trans rfl; have h3 := (blk_cell HY5.out 3).trans rfl; have h4 := (blk_cell HY5.out 4).trans rfl) | (go_at_call 35; refine (HPK.out _ HB5.out).mono ?_; rintro e w6 ⟨rfl, hd⟩; have HX6 := AsideCk.mk (blk_below HX5.out hd); have HY6 := AsideCk.mk (blk_below HY5.out hd); have HB6 := AsideCk.mk (below_step HB5.out hd); clear hd; clear f0 f1 f2 f3 f4 f5 f6; clear h0 h1 h2 h3 h4; have f0 := (blk_cell HX6.out 0).trans rfl; have f1 := (blk_cell HX6.out 1).trans rfl; have f2 := (blk_cell HX6.out 2).trans rfl; have f3 := (blk_cell HX6.out 3).trans rfl; have f4 := (blk_cell HX6.out 4).trans rfl; have f5 := (blk_cell HX6.out 5).trans rfl; have f6 := (blk_cell HX6.out 6).trans rfl; have h0 := (blk_cell HY6.out 0).trans rfl; have h1 := (blk_cell HY6.out 1).trans rfl; have h2 := (blk_cell HY6.out 2).trans rfl; have h3 := (blk_cell HY6.out 3).trans rfl; have h4 := (blk_cell HY6.out 4).trans rfl))
    go_ret
    exact ⟨rfl, HB3.out⟩
  | true =>
    rw [if_pos rfl] at h
    by_cases hl : (l1.length : Int) = a0_0
    · rw [if_pos hl] at h
      have hl1 : ((l1.length : Int) == a0_0) = true := beq_iff_eq.mpr hl
      have hl2 : ((l1.length : Int) != a0_0) = false := bne_eq_false_iff_eq.mpr hl
      have HA := AsideCk.mk (fun (b : Nat) (W : World) (hW : Below w.heap.size w W) (hb : W.cell? ⟨b, 6, none⟩ = some (.int .i64 a0_6)) =>
        slices_ContainsFunc_rows.gives (notC a0_6) 34 #[.pointer (some ⟨b, 0, none⟩)] (enters_of Tryz.func34 (by kernel_rfl) rfl) A1 c1 l1 W (Kd.C_below hr1 hW) (fun x A' c W' _ hW' _ _ => ck1_calls a0_6 A' x.length c b W' (pw_cell_below hW' hb)))
      cases ha : l1.any (notC a0_6) with
      | true =>
        rw [if_pos ha] at h
        rw [ha] at HA
        obtain rfl := Option.some.inj h
        clear h hr1 hl ha
        generalize l1.length = n at *
        go_enter Tryz.func15, Tryz.ntmps15
        go_wp2_with (first | ((with_reducible refine gate_dst (N := 3) rfl ?_); refine box_event ?hg (N := 3) ?hd (cs := #[.int .i64 a0_0, .int .i64 a0_1, .bool a0_2, .int .i64 a0_3, .int .i64 a0_4, .int .i64 a0_5, .int .i64 a0_6]) (t := 23) ?hr ?_; (case hd => rfl); (case hg => rfl); (case hr => first | (go_simp; done) | (go_simp; rfl)); intro g1 hg0_ wx hx1 hb1; clear hg0_; have HX1 := AsideCk.mk hx1; have HB1 := AsideCk.mk hb1; clear hx1 hb1; have f0 := (blk_cell HX1.out 0).trans rfl; have f1 := (blk_cell HX1.out 1).trans rfl; have f2 := (blk_cell HX1.out 2).trans rfl; have f3 := (blk_cell HX1.out 3).trans rfl; have f4 := (blk_cell HX1.out 4).trans rfl; have f5 := (blk_cell HX1.out 5).trans rfl; have f6 := (blk_cell HX1.out 6).trans rfl) | ((with_reducible refine gate_dst (N := 5) rfl ?_); refine box_event ?hg (N := 5) ?hd (cs := #[.int .i64 a2_0, .int .i64 a2_1, .bool a2_2, .bool a2_3, .bool a2_4]) (t := 26) ?hr ?_; (case hd => rfl); (case hg => rfl); (case hr => first | (go_simp; done) | (go_simp; rfl)); intro g2 hg0_ wy hy1 hb2; clear hg0_; have HY2 := AsideCk.mk hy1; have HX2 := AsideCk.mk (blk_below HX1.out hb2); have HB2 := AsideCk.mk (below_step HB1.out hb2); clear hy1 hb2; clear f0 f1 f2 f3 f4 f5 f6; have f0 := (blk_cell HX2.out 0).trans rfl; have f1 := (blk_cell HX2.out 1).trans rfl; have f2 := (blk_cell HX2.out 2).trans rfl; have f3 := (blk_cell HX2.out 3).trans rfl; have f4 := (blk_cell HX2.out 4).trans rfl; have f5 := (blk_cell HX2.out 5).trans rfl; have f6 := (blk_cell HX2.out 6).trans rfl; have h0 := (blk_cell HY2.out 0).trans rfl; have h1 := (blk_cell HY2.out 1).trans rfl; have h2 := (blk_cell HY2.out 2).trans rfl; have h3 := (blk_cell HY2.out 3).trans rfl; have h4 := (blk_cell HY2.out 4).trans rfl) | (go_at_call 32; refine (HG.out _).mono ?_; rintro e w3 ⟨rfl, hd⟩; have HX3 := AsideCk.mk (blk_below HX2.out hd); have HY3 := AsideCk.mk (blk_below HY2.out hd); have HB3 := AsideCk.mk (below_step HB2.out hd); clear hd; clear f0 f1 f2 f3 f4 f5 f6; clear h0 h1 h2 h3 h4; have f0 := (blk_cell HX3.out 0).trans rfl; have f1 := (blk_cell HX3.out 1).trans rfl; have f2 := (blk_cell HX3.out 2).trans rfl; have f3 := (blk_cell HX3.out 3).trans rfl; have f4 := (blk_cell HX3.out 4).trans rfl; have f5 := (blk_cell HX3.out 5).trans rfl; have f6 := (blk_cell HX3.out 6).trans rfl; have h0 := (blk_cell HY3.out 0).trans rfl; have h1 := (blk_cell HY3.out 1).trans rfl; have h2 := (blk_cell HY3.out 2).trans rfl; have h3 := (blk_cell HY3.out 3).trans rfl; have h4 := (blk_cell HY3.out 4).trans rfl) | (go_at_call 33; refine (HA.out g1 _ HB3.out ((blk_cell HX3.out 6).trans rfl)).mono ?_; rintro e w4 ⟨rfl, hd⟩; have HX4 := AsideCk.mk (blk_below HX3.out hd); have HY4 := AsideCk.mk (blk_below HY3.out hd); have HB4 := AsideCk.mk (below_step HB3.out hd); clear hd; clear f0 f1 f2 f3 f4 f5 f6; clear h0 h1 h2 h3 h4; have f0 := (blk_cell HX4.out 0).trans rfl; have f1 := (blk_cell HX4.out 1).trans rfl; have f2 := (blk_cell HX4.out 2).trans rfl; have f3 := (blk_cell HX4.out 3).trans rfl; have f4 := (blk_cell HX4.out 4).trans rfl; have f5 := (blk_cell HX4.out 5).trans rfl; have f6 := (blk_cell HX4.out 6).trans rfl; have h0 := (blk_cell HY4.out 0).trans rfl; have h1 := (blk_cell HY4.out 1).trans rfl; have h2 := (blk_cell HY4.out 2).trans rfl; have h3 := (blk_cell HY4.out 3).trans rfl; have h4 := (blk_cell HY4.out 4).trans rfl) | (go_at_call 23; refine (HFO.out _).mono ?_; rintro e w5 ⟨rfl, hd⟩; have HX5 := AsideCk.mk (blk_below HX4.out hd); have HY5 := AsideCk.mk (blk_below HY4.out hd); have HB5 := AsideCk.mk (below_step HB4.out hd); clear hd; clear f0 f1 f2 f3 f4 f5 f6; clear h0 h1 h2 h3 h4; have f0 := (blk_cell HX5.out 0).trans rfl; have f1 := (blk_cell HX5.out 1).trans rfl; have f2 := (blk_cell HX5.out 2).trans rfl; have f3 := (blk_cell HX5.out 3).trans rfl; have f4 := (blk_cell HX5.out 4).trans rfl; have f5 := (blk_cell HX5.out 5).trans rfl; have f6 := (blk_cell HX5.out 6).trans rfl; have h0 := (blk_cell HY5.out 0).trans rfl; have h1 := (blk_cell HY5.out 1).trans rfl; have h2 := (blk_cell HY5.out 2).trans rfl; have h3 := (blk_cell HY5.out 3).trans rfl; have h4 := (blk_cell HY5.out 4).trans rfl) | (go_at_call 35; refine (HPK.out _ HB5.out).mono ?_; rintro e w6 ⟨rfl, hd⟩; have HX6 := AsideCk.mk (blk_below HX5.out hd); have HY6 := AsideCk.mk (blk_below HY5.out hd); have HB6 := AsideCk.mk (below_step HB5.out hd); clear hd; clear f0 f1 f2 f3 f4 f5 f6; clear h0 h1 h2 h3 h4; have f0 := (blk_cell HX6.out 0).trans rfl; have f1 := (blk_cell HX6.out 1).trans rfl; have f2 := (blk_cell HX6.out 2).trans rfl; have f3 := (blk_cell HX6.out 3).trans rfl; have f4 := (blk_cell HX6.out 4).trans rfl; have f5 := (blk_cell HX6.out 5).trans rfl; have f6 := (blk_cell HX6.out 6).trans rfl; have h0 := (blk_cell HY6.out 0).trans rfl; have h1 := (blk_cell HY6.out 1).trans rfl; have h2 := (blk_cell HY6.out 2).trans rfl; have h3 := (blk_cell HY6.out 3).trans rfl; have h4 := (blk_cell HY6.out 4).trans rfl))
        go_ret
        exact ⟨rfl, HB4.out⟩
      | false =>
        rw [if_neg (by rw [ha]; decide)] at h
        rw [ha] at HA
        obtain ⟨e, he, h⟩ := Option.bind_eq_some_iff.mp h
        have HPK := AsideCk.mk (fun (W : World) (hW : Below w.heap.size w W) => pack_Check.calls k a0_1 a0_2 A1 c1 l1 e W (Kd.C_below hr1 hW) hc1 he)
        clear he
        by_cases h0 : e = 0
        · subst h0
          rw [if_pos rfl] at h
          cases hb : choiceB a2_0 a2_1 with
          | true =>
            rw [if_pos hb] at h
            obtain rfl := Option.some.inj h
            simp only [choiceB, Bool.and_eq_true, Bool.not_eq_true', decide_eq_false_iff_not] at hb
            obtain ⟨⟨⟨b1, b2⟩, b3⟩, b4⟩ := hb
            clear h hr1 hl ha
            generalize l1.length = n at *
            go_enter Tryz.func15, Tryz.ntmps15
            go_wp2_with (first | ((with_reducible refine gate_dst (N := 3) rfl ?_); refine box_event ?hg (N := 3) ?hd (cs := #[.int .i64 a0_0, .int .i64 a0_1, .bool a0_2, .int .i64 a0_3, .int .i64 a0_4, .int .i64 a0_5, .int .i64 a0_6]) (t := 23) ?hr ?_; (case hd => rfl); (case hg => rfl); (case hr => first | (go_simp; done) | (go_simp; rfl)); intro g1 hg0_ wx hx1 hb1; clear hg0_; have HX1 := AsideCk.mk hx1; have HB1 := AsideCk.mk hb1; clear hx1 hb1; have f0 := (blk_cell HX1.out 0).trans rfl; have f1 := (blk_cell HX1.out 1).trans rfl; have f2 := (blk_cell HX1.out 2).trans rfl; have f3 := (blk_cell HX1.out 3).trans rfl; have f4 := (blk_cell HX1.out 4).trans rfl; have f5 := (blk_cell HX1.out 5).trans rfl; have f6 := (blk_cell HX1.out 6).trans rfl) | ((with_reducible refine gate_dst (N := 5) rfl ?_); refine box_event ?hg (N := 5) ?hd (cs := #[.int .i64 a2_0, .int .i64 a2_1, .bool a2_2, .bool a2_3, .bool a2_4]) (t := 26) ?hr ?_; (case hd => rfl); (case hg => rfl); (case hr => first | (go_simp; done) | (go_simp; rfl)); intro g2 hg0_ wy hy1 hb2; clear hg0_; have HY2 := AsideCk.mk hy1; have HX2 := AsideCk.mk (blk_below HX1.out hb2); have HB2 := AsideCk.mk (below_step HB1.out hb2); clear hy1 hb2; clear f0 f1 f2 f3 f4 f5 f6; have f0 := (blk_cell HX2.out 0).trans rfl; have f1 := (blk_cell HX2.out 1).trans rfl; have f2 := (blk_cell HX2.out 2).trans rfl; have f3 := (blk_cell HX2.out 3).trans rfl; have f4 := (blk_cell HX2.out 4).trans rfl; have f5 := (blk_cell HX2.out 5).trans rfl; have f6 := (blk_cell HX2.out 6).trans rfl; have h0 := (blk_cell HY2.out 0).trans rfl; have h1 := (blk_cell HY2.out 1).trans rfl; have h2 := (blk_cell HY2.out 2).trans rfl; have h3 := (blk_cell HY2.out 3).trans rfl; have h4 := (blk_cell HY2.out 4).trans rfl) | (go_at_call 32; refine (HG.out _).mono ?_; rintro e w3 ⟨rfl, hd⟩; have HX3 := AsideCk.mk (blk_below HX2.out hd); have HY3 := AsideCk.mk (blk_below HY2.out hd); have HB3 := AsideCk.mk (below_step HB2.out hd); clear hd; clear f0 f1 f2 f3 f4 f5 f6; clear h0 h1 h2 h3 h4; have f0 := (blk_cell HX3.out 0).trans rfl; have f1 := (blk_cell HX3.out 1).trans rfl; have f2 := (blk_cell HX3.out 2).trans rfl; have f3 := (blk_cell HX3.out 3).trans rfl; have f4 := (blk_cell HX3.out 4).trans rfl; have f5 := (blk_cell HX3.out 5).trans rfl; have f6 := (blk_cell HX3.out 6).trans rfl; have h0 := (blk_cell HY3.out 0).trans rfl; have h1 := (blk_cell HY3.out 1).trans rfl; have h2 := (blk_cell HY3.out 2).trans rfl; have h3 := (blk_cell HY3.out 3).trans rfl; have h4 := (blk_cell HY3.out 4).trans rfl) | (go_at_call 33; refine (HA.out g1 _ HB3.out ((blk_cell HX3.out 6).trans rfl)).mono ?_; rintro e w4 ⟨rfl, hd⟩; have HX4 := AsideCk.mk (blk_below HX3.out hd); have HY4 := AsideCk.mk (blk_below HY3.out hd); have HB4 := AsideCk.mk (below_step HB3.out hd); clear hd; clear f0 f1 f2 f3 f4 f5 f6; clear h0 h1 h2 h3 h4; have f0 := (blk_cell HX4.out 0).trans rfl; have f1 := (blk_cell HX4.out 1).trans rfl; have f2 := (blk_cell HX4.out 2).trans rfl; have f3 := (blk_cell HX4.out 3).trans rfl; have f4 := (blk_cell HX4.out 4).trans rfl; have f5 := (blk_cell HX4.out 5).trans rfl; have f6 := (blk_cell HX4.out 6).trans rfl; have h0 := (blk_cell HY4.out 0).trans rfl; have h1 := (blk_cell HY4.out 1).trans rfl; have h2 := (blk_cell HY4.out 2).trans rfl; have h3 := (blk_cell HY4.out 3).trans rfl; have h4 := (blk_cell HY4.out 4).trans rfl) | (go_at_call 23; refine (HFO.out _).mono ?_; rintro e w5 ⟨rfl, hd⟩; have HX5 := AsideCk.mk (blk_below HX4.out hd); have HY5 := AsideCk.mk (blk_below HY4.out hd); have HB5 := AsideCk.mk (below_step HB4.out hd); clear hd; clear f0 f1 f2 f3 f4 f5 f6; clear h0 h1 h2 h3 h4; have f0 := (blk_cell HX5.out 0).trans rfl; have f1 := (blk_cell HX5.out 1).trans rfl; have f2 := (blk_cell HX5.out 2).trans rfl; have f3 := (blk_cell HX5.out 3).trans rfl; have f4 := (blk_cell HX5.out 4).trans rfl; have f5 := (blk_cell HX5.out 5).trans rfl; have f6 := (blk_cell HX5.out 6).trans rfl; have h0 := (blk_cell HY5.out 0).trans rfl; have h1 := (blk_cell HY5.out 1).trans rfl; have h2 := (blk_cell HY5.out 2).trans rfl; have h3 := (blk_cell HY5.out 3).trans rfl; have h4 := (blk_cell HY5.out 4).trans rfl) | (go_at_call 35; refine (HPK.out _ HB5.out).mono ?_; rintro e w6 ⟨rfl, hd⟩; have HX6 := AsideCk.mk (blk_below HX5.out hd); have HY6 := AsideCk.mk (blk_below HY5.out hd); have HB6 := AsideCk.mk (below_step HB5.out hd); clear hd; clear f0 f1 f2 f3 f4 f5 f6; clear h0 h1 h2 h3 h4; have f0 := (blk_cell HX6.out 0).trans rfl; have f1 := (blk_cell HX6.out 1).trans rfl; have f2 := (blk_cell HX6.out 2).trans rfl; have f3 := (blk_cell HX6.out 3).trans rfl; have f4 := (blk_cell HX6.out 4).trans rfl; have f5 := (blk_cell HX6.out 5).trans rfl; have f6 := (blk_cell HX6.out 6).trans rfl; have h0 := (blk_cell HY6.out 0).trans rfl; have h1 := (blk_cell HY6.out 1).trans rfl; have h2 := (blk_cell HY6.out 2).trans rfl; have h3 := (blk_cell HY6.out 3).trans rfl; have h4 := (blk_cell HY6.out 4).trans rfl))
            go_ret
            exact ⟨rfl, HB6.out⟩
          | false =>
            rw [if_neg (by rw [hb]; decide)] at h
            obtain rfl := Option.some.inj h
            clear h hr1 hl ha
            generalize l1.length = n at *
            by_cases b1 : a2_0 < 0
            · clear hb
              go_enter Tryz.func15, Tryz.ntmps15
              go_wp2_with (first | ((with_reducible refine gate_dst (N := 3) rfl ?_); refine box_event ?hg (N := 3) ?hd (cs := #[.int .i64 a0_0, .int .i64 a0_1, .bool a0_2, .int .i64 a0_3, .int .i64 a0_4, .int .i64 a0_5, .int .i64 a0_6]) (t := 23) ?hr ?_; (case hd => rfl); (case hg => rfl); (case hr => first | (go_simp; done) | (go_simp; rfl)); intro g1 hg0_ wx hx1 hb1; clear hg0_; have HX1 := AsideCk.mk hx1; have HB1 := AsideCk.mk hb1; clear hx1 hb1; have f0 := (blk_cell HX1.out 0).trans rfl; have f1 := (blk_cell HX1.out 1).trans rfl; have f2 := (blk_cell HX1.out 2).trans rfl; have f3 := (blk_cell HX1.out 3).trans rfl; have f4 := (blk_cell HX1.out 4).trans rfl; have f5 := (blk_cell HX1.out 5).trans rfl; have f6 := (blk_cell HX1.out 6).trans rfl) | ((with_reducible refine gate_dst (N := 5) rfl ?_); refine box_event ?hg (N := 5) ?hd (cs := #[.int .i64 a2_0, .int .i64 a2_1, .bool a2_2, .bool a2_3, .bool a2_4]) (t := 26) ?hr ?_; (case hd => rfl); (case hg => rfl); (case hr => first | (go_simp; done) | (go_simp; rfl)); intro g2 hg0_ wy hy1 hb2; clear hg0_; have HY2 := AsideCk.mk hy1; have HX2 := AsideCk.mk (blk_below HX1.out hb2); have HB2 := AsideCk.mk (below_step HB1.out hb2); clear hy1 hb2; clear f0 f1 f2 f3 f4 f5 f6; have f0 := (blk_cell HX2.out 0).trans rfl; have f1 := (blk_cell HX2.out 1).trans rfl; have f2 := (blk_cell HX2.out 2).trans rfl; have f3 := (blk_cell HX2.out 3).trans rfl; have f4 := (blk_cell HX2.out 4).trans rfl; have f5 := (blk_cell HX2.out 5).trans rfl; have f6 := (blk_cell HX2.out 6).trans rfl; have h0 := (blk_cell HY2.out 0).trans rfl; have h1 := (blk_cell HY2.out 1).trans rfl; have h2 := (blk_cell HY2.out 2).trans rfl; have h3 := (blk_cell HY2.out 3).trans rfl; have h4 := (blk_cell HY2.out 4).trans rfl) | (go_at_call 32; refine (HG.out _).mono ?_; rintro e w3 ⟨rfl, hd⟩; have HX3 := AsideCk.mk (blk_below HX2.out hd); have HY3 := AsideCk.mk (blk_below HY2.out hd); have HB3 := AsideCk.mk (below_step HB2.out hd); clear hd; clear f0 f1 f2 f3 f4 f5 f6; clear h0 h1 h2 h3 h4; have f0 := (blk_cell HX3.out 0).trans rfl; have f1 := (blk_cell HX3.out 1).trans rfl; have f2 := (blk_cell HX3.out 2).trans rfl; have f3 := (blk_cell HX3.out 3).trans rfl; have f4 := (blk_cell HX3.out 4).trans rfl; have f5 := (blk_cell HX3.out 5).trans rfl; have f6 := (blk_cell HX3.out 6).trans rfl; have h0 := (blk_cell HY3.out 0).trans rfl; have h1 := (blk_cell HY3.out 1).trans rfl; have h2 := (blk_cell HY3.out 2).trans rfl; have h3 := (blk_cell HY3.out 3).trans rfl; have h4 := (blk_cell HY3.out 4).trans rfl) | (go_at_call 33; refine (HA.out g1 _ HB3.out ((blk_cell HX3.out 6).trans rfl)).mono ?_; rintro e w4 ⟨rfl, hd⟩; have HX4 := AsideCk.mk (blk_below HX3.out hd); have HY4 := AsideCk.mk (blk_below HY3.out hd); have HB4 := AsideCk.mk (below_step HB3.out hd); clear hd; clear f0 f1 f2 f3 f4 f5 f6; clear h0 h1 h2 h3 h4; have f0 := (blk_cell HX4.out 0).trans rfl; have f1 := (blk_cell HX4.out 1).trans rfl; have f2 := (blk_cell HX4.out 2).trans rfl; have f3 := (blk_cell HX4.out 3).trans rfl; have f4 := (blk_cell HX4.out 4).trans rfl; have f5 := (blk_cell HX4.out 5).trans rfl; have f6 := (blk_cell HX4.out 6).trans rfl; have h0 := (blk_cell HY4.out 0).trans rfl; have h1 := (blk_cell HY4.out 1).trans rfl; have h2 := (blk_cell HY4.out 2).trans rfl; have h3 := (blk_cell HY4.out 3).trans rfl; have h4 := (blk_cell HY4.out 4).trans rfl) | (go_at_call 23; refine (HFO.out _).mono ?_; rintro e w5 ⟨rfl, hd⟩; have HX5 := AsideCk.mk (blk_below HX4.out hd); have HY5 := AsideCk.mk (blk_below HY4.out hd); have HB5 := AsideCk.mk (below_step HB4.out hd); clear hd; clear f0 f1 f2 f3 f4 f5 f6; clear h0 h1 h2 h3 h4; have f0 := (blk_cell HX5.out 0).trans rfl; have f1 := (blk_cell HX5.out 1).trans rfl; have f2 := (blk_cell HX5.out 2).trans rfl; have f3 := (blk_cell HX5.out 3).trans rfl; have f4 := (blk_cell HX5.out 4).trans rfl; have f5 := (blk_cell HX5.out 5).trans rfl; have f6 := (blk_cell HX5.out 6).trans rfl; have h0 := (blk_cell HY5.out 0).trans rfl; have h1 := (blk_cell HY5.out 1).trans rfl; have h2 := (blk_cell HY5.out 2).trans rfl; have h3 := (blk_cell HY5.out 3).trans rfl; have h4 := (blk_cell HY5.out 4).trans rfl) | (go_at_call 35; refine (HPK.out _ HB5.out).mono ?_; rintro e w6 ⟨rfl, hd⟩; have HX6 := AsideCk.mk (blk_below HX5.out hd); have HY6 := AsideCk.mk (blk_below HY5.out hd); have HB6 := AsideCk.mk (below_step HB5.out hd); clear hd; clear f0 f1 f2 f3 f4 f5 f6; clear h0 h1 h2 h3 h4; have f0 := (blk_cell HX6.out 0).trans rfl; have f1 := (blk_cell HX6.out 1).trans rfl; have f2 := (blk_cell HX6.out 2).trans rfl; have f3 := (blk_cell HX6.out 3).trans rfl; have f4 := (blk_cell HX6.out 4).trans rfl; have f5 := (blk_cell HX6.out 5).trans rfl; have f6 := (blk_cell HX6.out 6).trans rfl; have h0 := (blk_cell HY6.out 0).trans rfl; have h1 := (blk_cell HY6.out 1).trans rfl; have h2 := (blk_cell HY6.out 2).trans rfl; have h3 := (blk_cell HY6.out 3).trans rfl; have h4 := (blk_cell HY6.out 4).trans rfl))
              go_ret
              exact ⟨rfl, HB6.out⟩
            · by_cases b2 : 16 < a2_0
              · clear hb
                go_enter Tryz.func15, Tryz.ntmps15
                go_wp2_with (first | ((with_reducible refine gate_dst (N := 3) rfl ?_); refine box_event ?hg (N := 3) ?hd (cs := #[.int .i64 a0_0, .int .i64 a0_1, .bool a0_2, .int .i64 a0_3, .int .i64 a0_4, .int .i64 a0_5, .int .i64 a0_6]) (t := 23) ?hr ?_; (case hd => rfl); (case hg => rfl); (case hr => first | (go_simp; done) | (go_simp; rfl)); intro g1 hg0_ wx hx1 hb1; clear hg0_; have HX1 := AsideCk.mk hx1; have HB1 := AsideCk.mk hb1; clear hx1 hb1; have f0 := (blk_cell HX1.out 0).trans rfl; have f1 := (blk_cell HX1.out 1).trans rfl; have f2 := (blk_cell HX1.out 2).trans rfl; have f3 := (blk_cell HX1.out 3).trans rfl; have f4 := (blk_cell HX1.out 4).trans rfl; have f5 := (blk_cell HX1.out 5).trans rfl; have f6 := (blk_cell HX1.out 6).trans rfl) | ((with_reducible refine gate_dst (N := 5) rfl ?_); refine box_event ?hg (N := 5) ?hd (cs := #[.int .i64 a2_0, .int .i64 a2_1, .bool a2_2, .bool a2_3, .bool a2_4]) (t := 26) ?hr ?_; (case hd => rfl); (case hg => rfl); (case hr => first | (go_simp; done) | (go_simp; rfl)); intro g2 hg0_ wy hy1 hb2; clear hg0_; have HY2 := AsideCk.mk hy1; have HX2 := AsideCk.mk (blk_below HX1.out hb2); have HB2 := AsideCk.mk (below_step HB1.out hb2); clear hy1 hb2; clear f0 f1 f2 f3 f4 f5 f6; have f0 := (blk_cell HX2.out 0).trans rfl; have f1 := (blk_cell HX2.out 1).trans rfl; have f2 := (blk_cell HX2.out 2).trans rfl; have f3 := (blk_cell HX2.out 3).trans rfl; have f4 := (blk_cell HX2.out 4).trans rfl; have f5 := (blk_cell HX2.out 5).trans rfl; have f6 := (blk_cell HX2.out 6).trans rfl; have h0 := (blk_cell HY2.out 0).trans rfl; have h1 := (blk_cell HY2.out 1).trans rfl; have h2 := (blk_cell HY2.out 2).trans rfl; have h3 := (blk_cell HY2.out 3).trans rfl; have h4 := (blk_cell HY2.out 4).trans rfl) | (go_at_call 32; refine (HG.out _).mono ?_; rintro e w3 ⟨rfl, hd⟩; have HX3 := AsideCk.mk (blk_below HX2.out hd); have HY3 := AsideCk.mk (blk_below HY2.out hd); have HB3 := AsideCk.mk (below_step HB2.out hd); clear hd; clear f0 f1 f2 f3 f4 f5 f6; clear h0 h1 h2 h3 h4; have f0 := (blk_cell HX3.out 0).trans rfl; have f1 := (blk_cell HX3.out 1).trans rfl; have f2 := (blk_cell HX3.out 2).trans rfl; have f3 := (blk_cell HX3.out 3).trans rfl; have f4 := (blk_cell HX3.out 4).trans rfl; have f5 := (blk_cell HX3.out 5).trans rfl; have f6 := (blk_cell HX3.out 6).trans rfl; have h0 := (blk_cell HY3.out 0).trans rfl; have h1 := (blk_cell HY3.out 1).trans rfl; have h2 := (blk_cell HY3.out 2).trans rfl; have h3 := (blk_cell HY3.out 3).trans rfl; have h4 := (blk_cell HY3.out 4).trans rfl) | (go_at_call 33; refine (HA.out g1 _ HB3.out ((blk_cell HX3.out 6).trans rfl)).mono ?_; rintro e w4 ⟨rfl, hd⟩; have HX4 := AsideCk.mk (blk_below HX3.out hd); have HY4 := AsideCk.mk (blk_below HY3.out hd); have HB4 := AsideCk.mk (below_step HB3.out hd); clear hd; clear f0 f1 f2 f3 f4 f5 f6; clear h0 h1 h2 h3 h4; have f0 := (blk_cell HX4.out 0).trans rfl; have f1 := (blk_cell HX4.out 1).trans rfl; have f2 := (blk_cell HX4.out 2).trans rfl; have f3 := (blk_cell HX4.out 3).trans rfl; have f4 := (blk_cell HX4.out 4).trans rfl; have f5 := (blk_cell HX4.out 5).trans rfl; have f6 := (blk_cell HX4.out 6).trans rfl; have h0 := (blk_cell HY4.out 0).trans rfl; have h1 := (blk_cell HY4.out 1).trans rfl; have h2 := (blk_cell HY4.out 2).trans rfl; have h3 := (blk_cell HY4.out 3).trans rfl; have h4 := (blk_cell HY4.out 4).trans rfl) | (go_at_call 23; refine (HFO.out _).mono ?_; rintro e w5 ⟨rfl, hd⟩; have HX5 := AsideCk.mk (blk_below HX4.out hd); have HY5 := AsideCk.mk (blk_below HY4.out hd); have HB5 := AsideCk.mk (below_step HB4.out hd); clear hd; clear f0 f1 f2 f3 f4 f5 f6; clear h0 h1 h2 h3 h4; have f0 := (blk_cell HX5.out 0).trans rfl; have f1 := (blk_cell HX5.out 1).trans rfl; have f2 := (blk_cell HX5.out 2).trans rfl; have f3 := (blk_cell HX5.out 3).trans rfl; have f4 := (blk_cell HX5.out 4).trans rfl; have f5 := (blk_cell HX5.out 5).trans rfl; have f6 := (blk_cell HX5.out 6).trans rfl; have h0 := (blk_cell HY5.out 0).trans rfl; have h1 := (blk_cell HY5.out 1).trans rfl; have h2 := (blk_cell HY5.out 2).trans rfl; have h3 := (blk_cell HY5.out 3).trans rfl; have h4 := (blk_cell HY5.out 4).trans rfl) | (go_at_call 35; refine (HPK.out _ HB5.out).mono ?_; rintro e w6 ⟨rfl, hd⟩; have HX6 := AsideCk.mk (blk_below HX5.out hd); have HY6 := AsideCk.mk (blk_below HY5.out hd); have HB6 := AsideCk.mk (below_step HB5.out hd); clear hd; clear f0 f1 f2 f3 f4 f5 f6; clear h0 h1 h2 h3 h4; have f0 := (blk_cell HX6.out 0).trans rfl; have f1 := (blk_cell HX6.out 1).trans rfl; have f2 := (blk_cell HX6.out 2).trans rfl; have f3 := (blk_cell HX6.out 3).trans rfl; have f4 := (blk_cell HX6.out 4).trans rfl; have f5 := (blk_cell HX6.out 5).trans rfl; have f6 := (blk_cell HX6.out 6).trans rfl; have h0 := (blk_cell HY6.out 0).trans rfl; have h1 := (blk_cell HY6.out 1).trans rfl; have h2 := (blk_cell HY6.out 2).trans rfl; have h3 := (blk_cell HY6.out 3).trans rfl; have h4 := (blk_cell HY6.out 4).trans rfl))
                go_ret
                exact ⟨rfl, HB6.out⟩
              · by_cases b3 : a2_1 < 0
                · clear hb
                  go_enter Tryz.func15, Tryz.ntmps15
                  go_wp2_with (first | ((with_reducible refine gate_dst (N := 3) rfl ?_); refine box_event ?hg (N := 3) ?hd (cs := #[.int .i64 a0_0, .int .i64 a0_1, .bool a0_2, .int .i64 a0_3, .int .i64 a0_4, .int .i64 a0_5, .int .i64 a0_6]) (t := 23) ?hr ?_; (case hd => rfl); (case hg => rfl); (case hr => first | (go_simp; done) | (go_simp; rfl)); intro g1 hg0_ wx hx1 hb1; clear hg0_; have HX1 := AsideCk.mk hx1; have HB1 := AsideCk.mk hb1; clear hx1 hb1; have f0 := (blk_cell HX1.out 0).trans rfl; have f1 := (blk_cell HX1.out 1).trans rfl; have f2 := (blk_cell HX1.out 2).trans rfl; have f3 := (blk_cell HX1.out 3).trans rfl; have f4 := (blk_cell HX1.out 4).trans rfl; have f5 := (blk_cell HX1.out 5).trans rfl; have f6 := (blk_cell HX1.out 6).trans rfl) | ((with_reducible refine gate_dst (N := 5) rfl ?_); refine box_event ?hg (N := 5) ?hd (cs := #[.int .i64 a2_0, .int .i64 a2_1, .bool a2_2, .bool a2_3, .bool a2_4]) (t := 26) ?hr ?_; (case hd => rfl); (case hg => rfl); (case hr => first | (go_simp; done) | (go_simp; rfl)); intro g2 hg0_ wy hy1 hb2; clear hg0_; have HY2 := AsideCk.mk hy1; have HX2 := AsideCk.mk (blk_below HX1.out hb2); have HB2 := AsideCk.mk (below_step HB1.out hb2); clear hy1 hb2; clear f0 f1 f2 f3 f4 f5 f6; have f0 := (blk_cell HX2.out 0).trans rfl; have f1 := (blk_cell HX2.out 1).trans rfl; have f2 := (blk_cell HX2.out 2).trans rfl; have f3 := (blk_cell HX2.out 3).trans rfl; have f4 := (blk_cell HX2.out 4).trans rfl; have f5 := (blk_cell HX2.out 5).trans rfl; have f6 := (blk_cell HX2.out 6).trans rfl; have h0 := (blk_cell HY2.out 0).trans rfl; have h1 := (blk_cell HY2.out 1).trans rfl; have h2 := (blk_cell HY2.out 2).trans rfl; have h3 := (blk_cell HY2.out 3).trans rfl; have h4 := (blk_cell HY2.out 4).trans rfl) | (go_at_call 32; refine (HG.out _).mono ?_; rintro e w3 ⟨rfl, hd⟩; have HX3 := AsideCk.mk (blk_below HX2.out hd); have HY3 := AsideCk.mk (blk_below HY2.out hd); have HB3 := AsideCk.mk (below_step HB2.out hd); clear hd; clear f0 f1 f2 f3 f4 f5 f6; clear h0 h1 h2 h3 h4; have f0 := (blk_cell HX3.out 0).trans rfl; have f1 := (blk_cell HX3.out 1).trans rfl; have f2 := (blk_cell HX3.out 2).trans rfl; have f3 := (blk_cell HX3.out 3).trans rfl; have f4 := (blk_cell HX3.out 4).trans rfl; have f5 := (blk_cell HX3.out 5).trans rfl; have f6 := (blk_cell HX3.out 6).trans rfl; have h0 := (blk_cell HY3.out 0).trans rfl; have h1 := (blk_cell HY3.out 1).trans rfl; have h2 := (blk_cell HY3.out 2).trans rfl; have h3 := (blk_cell HY3.out 3).trans rfl; have h4 := (blk_cell HY3.out 4).trans rfl) | (go_at_call 33; refine (HA.out g1 _ HB3.out ((blk_cell HX3.out 6).trans rfl)).mono ?_; rintro e w4 ⟨rfl, hd⟩; have HX4 := AsideCk.mk (blk_below HX3.out hd); have HY4 := AsideCk.mk (blk_below HY3.out hd); have HB4 := AsideCk.mk (below_step HB3.out hd); clear hd; clear f0 f1 f2 f3 f4 f5 f6; clear h0 h1 h2 h3 h4; have f0 := (blk_cell HX4.out 0).trans rfl; have f1 := (blk_cell HX4.out 1).trans rfl; have f2 := (blk_cell HX4.out 2).trans rfl; have f3 := (blk_cell HX4.out 3).trans rfl; have f4 := (blk_cell HX4.out 4).trans rfl; have f5 := (blk_cell HX4.out 5).trans rfl; have f6 := (blk_cell HX4.out 6).trans rfl; have h0 := (blk_cell HY4.out 0).trans rfl; have h1 := (blk_cell HY4.out 1).trans rfl; have h2 := (blk_cell HY4.out 2).trans rfl; have h3 := (blk_cell HY4.out 3).trans rfl; have h4 := (blk_cell HY4.out 4).trans rfl) | (go_at_call 23; refine (HFO.out _).mono ?_; rintro e w5 ⟨rfl, hd⟩; have HX5 := AsideCk.mk (blk_below HX4.out hd); have HY5 := AsideCk.mk (blk_below HY4.out hd); have HB5 := AsideCk.mk (below_step HB4.out hd); clear hd; clear f0 f1 f2 f3 f4 f5 f6; clear h0 h1 h2 h3 h4; have f0 := (blk_cell HX5.out 0).trans rfl; have f1 := (blk_cell HX5.out 1).trans rfl; have f2 := (blk_cell HX5.out 2).trans rfl; have f3 := (blk_cell HX5.out 3).trans rfl; have f4 := (blk_cell HX5.out 4).trans rfl; have f5 := (blk_cell HX5.out 5).trans rfl; have f6 := (blk_cell HX5.out 6).trans rfl; have h0 := (blk_cell HY5.out 0).trans rfl; have h1 := (blk_cell HY5.out 1).trans rfl; have h2 := (blk_cell HY5.out 2).trans rfl; have h3 := (blk_cell HY5.out 3).trans rfl; have h4 := (blk_cell HY5.out 4).trans rfl) | (go_at_call 35; refine (HPK.out _ HB5.out).mono ?_; rintro e w6 ⟨rfl, hd⟩; have HX6 := AsideCk.mk (blk_below HX5.out hd); have HY6 := AsideCk.mk (blk_below HY5.out hd); have HB6 := AsideCk.mk (below_step HB5.out hd); clear hd; clear f0 f1 f2 f3 f4 f5 f6; clear h0 h1 h2 h3 h4; have f0 := (blk_cell HX6.out 0).trans rfl; have f1 := (blk_cell HX6.out 1).trans rfl; have f2 := (blk_cell HX6.out 2).trans rfl; have f3 := (blk_cell HX6.out 3).trans rfl; have f4 := (blk_cell HX6.out 4).trans rfl; have f5 := (blk_cell HX6.out 5).trans rfl; have f6 := (blk_cell HX6.out 6).trans rfl; have h0 := (blk_cell HY6.out 0).trans rfl; have h1 := (blk_cell HY6.out 1).trans rfl; have h2 := (blk_cell HY6.out 2).trans rfl; have h3 := (blk_cell HY6.out 3).trans rfl; have h4 := (blk_cell HY6.out 4).trans rfl))
                  go_ret
                  exact ⟨rfl, HB6.out⟩
                · have b4 : 4 < a2_1 := by
                    simp only [choiceB, decide_eq_false b1, decide_eq_false b2, decide_eq_false b3] at hb
                    simpa using hb
                  clear hb
                  go_enter Tryz.func15, Tryz.ntmps15
                  go_wp2_with (first | ((with_reducible refine gate_dst (N := 3) rfl ?_); refine box_event ?hg (N := 3) ?hd (cs := #[.int .i64 a0_0, .int .i64 a0_1, .bool a0_2, .int .i64 a0_3, .int .i64 a0_4, .int .i64 a0_5, .int .i64 a0_6]) (t := 23) ?hr ?_; (case hd => rfl); (case hg => rfl); (case hr => first | (go_simp; done) | (go_simp; rfl)); intro g1 hg0_ wx hx1 hb1; clear hg0_; have HX1 := AsideCk.mk hx1; have HB1 := AsideCk.mk hb1; clear hx1 hb1; have f0 := (blk_cell HX1.out 0).trans rfl; have f1 := (blk_cell HX1.out 1).trans rfl; have f2 := (blk_cell HX1.out 2).trans rfl; have f3 := (blk_cell HX1.out 3).trans rfl; have f4 := (blk_cell HX1.out 4).trans rfl; have f5 := (blk_cell HX1.out 5).trans rfl; have f6 := (blk_cell HX1.out 6).trans rfl) | ((with_reducible refine gate_dst (N := 5) rfl ?_); refine box_event ?hg (N := 5) ?hd (cs := #[.int .i64 a2_0, .int .i64 a2_1, .bool a2_2, .bool a2_3, .bool a2_4]) (t := 26) ?hr ?_; (case hd => rfl); (case hg => rfl); (case hr => first | (go_simp; done) | (go_simp; rfl)); intro g2 hg0_ wy hy1 hb2; clear hg0_; have HY2 := AsideCk.mk hy1; have HX2 := AsideCk.mk (blk_below HX1.out hb2); have HB2 := AsideCk.mk (below_step HB1.out hb2); clear hy1 hb2; clear f0 f1 f2 f3 f4 f5 f6; have f0 := (blk_cell HX2.out 0).trans rfl; have f1 := (blk_cell HX2.out 1).trans rfl; have f2 := (blk_cell HX2.out 2).trans rfl; have f3 := (blk_cell HX2.out 3).trans rfl; have f4 := (blk_cell HX2.out 4).trans rfl; have f5 := (blk_cell HX2.out 5).trans rfl; have f6 := (blk_cell HX2.out 6).trans rfl; have h0 := (blk_cell HY2.out 0).trans rfl; have h1 := (blk_cell HY2.out 1).trans rfl; have h2 := (blk_cell HY2.out 2).trans rfl; have h3 := (blk_cell HY2.out 3).trans rfl; have h4 := (blk_cell HY2.out 4).trans rfl) | (go_at_call 32; refine (HG.out _).mono ?_; rintro e w3 ⟨rfl, hd⟩; have HX3 := AsideCk.mk (blk_below HX2.out hd); have HY3 := AsideCk.mk (blk_below HY2.out hd); have HB3 := AsideCk.mk (below_step HB2.out hd); clear hd; clear f0 f1 f2 f3 f4 f5 f6; clear h0 h1 h2 h3 h4; have f0 := (blk_cell HX3.out 0).trans rfl; have f1 := (blk_cell HX3.out 1).trans rfl; have f2 := (blk_cell HX3.out 2).trans rfl; have f3 := (blk_cell HX3.out 3).trans rfl; have f4 := (blk_cell HX3.out 4).trans rfl; have f5 := (blk_cell HX3.out 5).trans rfl; have f6 := (blk_cell HX3.out 6).trans rfl; have h0 := (blk_cell HY3.out 0).trans rfl; have h1 := (blk_cell HY3.out 1).trans rfl; have h2 := (blk_cell HY3.out 2).trans rfl; have h3 := (blk_cell HY3.out 3).trans rfl; have h4 := (blk_cell HY3.out 4).trans rfl) | (go_at_call 33; refine (HA.out g1 _ HB3.out ((blk_cell HX3.out 6).trans rfl)).mono ?_; rintro e w4 ⟨rfl, hd⟩; have HX4 := AsideCk.mk (blk_below HX3.out hd); have HY4 := AsideCk.mk (blk_below HY3.out hd); have HB4 := AsideCk.mk (below_step HB3.out hd); clear hd; clear f0 f1 f2 f3 f4 f5 f6; clear h0 h1 h2 h3 h4; have f0 := (blk_cell HX4.out 0).trans rfl; have f1 := (blk_cell HX4.out 1).trans rfl; have f2 := (blk_cell HX4.out 2).trans rfl; have f3 := (blk_cell HX4.out 3).trans rfl; have f4 := (blk_cell HX4.out 4).trans rfl; have f5 := (blk_cell HX4.out 5).trans rfl; have f6 := (blk_cell HX4.out 6).trans rfl; have h0 := (blk_cell HY4.out 0).trans rfl; have h1 := (blk_cell HY4.out 1).trans rfl; have h2 := (blk_cell HY4.out 2).trans rfl; have h3 := (blk_cell HY4.out 3).trans rfl; have h4 := (blk_cell HY4.out 4).trans rfl) | (go_at_call 23; refine (HFO.out _).mono ?_; rintro e w5 ⟨rfl, hd⟩; have HX5 := AsideCk.mk (blk_below HX4.out hd); have HY5 := AsideCk.mk (blk_below HY4.out hd); have HB5 := AsideCk.mk (below_step HB4.out hd); clear hd; clear f0 f1 f2 f3 f4 f5 f6; clear h0 h1 h2 h3 h4; have f0 := (blk_cell HX5.out 0).trans rfl; have f1 := (blk_cell HX5.out 1).trans rfl; have f2 := (blk_cell HX5.out 2).trans rfl; have f3 := (blk_cell HX5.out 3).trans rfl; have f4 := (blk_cell HX5.out 4).trans rfl; have f5 := (blk_cell HX5.out 5).trans rfl; have f6 := (blk_cell HX5.out 6).trans rfl; have h0 := (blk_cell HY5.out 0).trans rfl; have h1 := (blk_cell HY5.out 1).trans rfl; have h2 := (blk_cell HY5.out 2).trans rfl; have h3 := (blk_cell HY5.out 3).trans rfl; have h4 := (blk_cell HY5.out 4).trans rfl) | (go_at_call 35; refine (HPK.out _ HB5.out).mono ?_; rintro e w6 ⟨rfl, hd⟩; have HX6 := AsideCk.mk (blk_below HX5.out hd); have HY6 := AsideCk.mk (blk_below HY5.out hd); have HB6 := AsideCk.mk (below_step HB5.out hd); clear hd; clear f0 f1 f2 f3 f4 f5 f6; clear h0 h1 h2 h3 h4; have f0 := (blk_cell HX6.out 0).trans rfl; have f1 := (blk_cell HX6.out 1).trans rfl; have f2 := (blk_cell HX6.out 2).trans rfl; have f3 := (blk_cell HX6.out 3).trans rfl; have f4 := (blk_cell HX6.out 4).trans rfl; have f5 := (blk_cell HX6.out 5).trans rfl; have f6 := (blk_cell HX6.out 6).trans rfl; have h0 := (blk_cell HY6.out 0).trans rfl; have h1 := (blk_cell HY6.out 1).trans rfl; have h2 := (blk_cell HY6.out 2).trans rfl; have h3 := (blk_cell HY6.out 3).trans rfl; have h4 := (blk_cell HY6.out 4).trans rfl))
                  go_ret
                  exact ⟨rfl, HB6.out⟩
        · rw [if_neg h0] at h
          obtain rfl := Option.some.inj h
          have e1 : (e == 0) = false := beq_eq_false_iff_ne.mpr h0
          have e2 : (e != 0) = true := bne_iff_ne.mpr h0
          clear h hr1 hl ha h0
          generalize l1.length = n at *
          go_enter Tryz.func15, Tryz.ntmps15
          go_wp2_with (first | ((with_reducible refine gate_dst (N := 3) rfl ?_); refine box_event ?hg (N := 3) ?hd (cs := #[.int .i64 a0_0, .int .i64 a0_1, .bool a0_2, .int .i64 a0_3, .int .i64 a0_4, .int .i64 a0_5, .int .i64 a0_6]) (t := 23) ?hr ?_; (case hd => rfl); (case hg => rfl); (case hr => first | (go_simp; done) | (go_simp; rfl)); intro g1 hg0_ wx hx1 hb1; clear hg0_; have HX1 := AsideCk.mk hx1; have HB1 := AsideCk.mk hb1; clear hx1 hb1; have f0 := (blk_cell HX1.out 0).trans rfl; have f1 := (blk_cell HX1.out 1).trans rfl; have f2 := (blk_cell HX1.out 2).trans rfl; have f3 := (blk_cell HX1.out 3).trans rfl; have f4 := (blk_cell HX1.out 4).trans rfl; have f5 := (blk_cell HX1.out 5).trans rfl; have f6 := (blk_cell HX1.out 6).trans rfl) | ((with_reducible refine gate_dst (N := 5) rfl ?_); refine box_event ?hg (N := 5) ?hd (cs := #[.int .i64 a2_0, .int .i64 a2_1, .bool a2_2, .bool a2_3, .bool a2_4]) (t := 26) ?hr ?_; (case hd => rfl); (case hg => rfl); (case hr => first | (go_simp; done) | (go_simp; rfl)); intro g2 hg0_ wy hy1 hb2; clear hg0_; have HY2 := AsideCk.mk hy1; have HX2 := AsideCk.mk (blk_below HX1.out hb2); have HB2 := AsideCk.mk (below_step HB1.out hb2); clear hy1 hb2; clear f0 f1 f2 f3 f4 f5 f6; have f0 := (blk_cell HX2.out 0).trans rfl; have f1 := (blk_cell HX2.out 1).trans rfl; have f2 := (blk_cell HX2.out 2).trans rfl; have f3 := (blk_cell HX2.out 3).trans rfl; have f4 := (blk_cell HX2.out 4).trans rfl; have f5 := (blk_cell HX2.out 5).trans rfl; have f6 := (blk_cell HX2.out 6).trans rfl; have h0 := (blk_cell HY2.out 0).trans rfl; have h1 := (blk_cell HY2.out 1).trans rfl; have h2 := (blk_cell HY2.out 2).trans rfl; have h3 := (blk_cell HY2.out 3).trans rfl; have h4 := (blk_cell HY2.out 4).trans rfl) | (go_at_call 32; refine (HG.out _).mono ?_; rintro e w3 ⟨rfl, hd⟩; have HX3 := AsideCk.mk (blk_below HX2.out hd); have HY3 := AsideCk.mk (blk_below HY2.out hd); have HB3 := AsideCk.mk (below_step HB2.out hd); clear hd; clear f0 f1 f2 f3 f4 f5 f6; clear h0 h1 h2 h3 h4; have f0 := (blk_cell HX3.out 0).trans rfl; have f1 := (blk_cell HX3.out 1).trans rfl; have f2 := (blk_cell HX3.out 2).trans rfl; have f3 := (blk_cell HX3.out 3).trans rfl; have f4 := (blk_cell HX3.out 4).trans rfl; have f5 := (blk_cell HX3.out 5).trans rfl; have f6 := (blk_cell HX3.out 6).trans rfl; have h0 := (blk_cell HY3.out 0).trans rfl; have h1 := (blk_cell HY3.out 1).trans rfl; have h2 := (blk_cell HY3.out 2).trans rfl; have h3 := (blk_cell HY3.out 3).trans rfl; have h4 := (blk_cell HY3.out 4).trans rfl) | (go_at_call 33; refine (HA.out g1 _ HB3.out ((blk_cell HX3.out 6).trans rfl)).mono ?_; rintro e w4 ⟨rfl, hd⟩; have HX4 := AsideCk.mk (blk_below HX3.out hd); have HY4 := AsideCk.mk (blk_below HY3.out hd); have HB4 := AsideCk.mk (below_step HB3.out hd); clear hd; clear f0 f1 f2 f3 f4 f5 f6; clear h0 h1 h2 h3 h4; have f0 := (blk_cell HX4.out 0).trans rfl; have f1 := (blk_cell HX4.out 1).trans rfl; have f2 := (blk_cell HX4.out 2).trans rfl; have f3 := (blk_cell HX4.out 3).trans rfl; have f4 := (blk_cell HX4.out 4).trans rfl; have f5 := (blk_cell HX4.out 5).trans rfl; have f6 := (blk_cell HX4.out 6).trans rfl; have h0 := (blk_cell HY4.out 0).trans rfl; have h1 := (blk_cell HY4.out 1).trans rfl; have h2 := (blk_cell HY4.out 2).trans rfl; have h3 := (blk_cell HY4.out 3).trans rfl; have h4 := (blk_cell HY4.out 4).trans rfl) | (go_at_call 23; refine (HFO.out _).mono ?_; rintro e w5 ⟨rfl, hd⟩; have HX5 := AsideCk.mk (blk_below HX4.out hd); have HY5 := AsideCk.mk (blk_below HY4.out hd); have HB5 := AsideCk.mk (below_step HB4.out hd); clear hd; clear f0 f1 f2 f3 f4 f5 f6; clear h0 h1 h2 h3 h4; have f0 := (blk_cell HX5.out 0).trans rfl; have f1 := (blk_cell HX5.out 1).trans rfl; have f2 := (blk_cell HX5.out 2).trans rfl; have f3 := (blk_cell HX5.out 3).trans rfl; have f4 := (blk_cell HX5.out 4).trans rfl; have f5 := (blk_cell HX5.out 5).trans rfl; have f6 := (blk_cell HX5.out 6).trans rfl; have h0 := (blk_cell HY5.out 0).trans rfl; have h1 := (blk_cell HY5.out 1).trans rfl; have h2 := (blk_cell HY5.out 2).trans rfl; have h3 := (blk_cell HY5.out 3).trans rfl; have h4 := (blk_cell HY5.out 4).trans rfl) | (go_at_call 35; refine (HPK.out _ HB5.out).mono ?_; rintro e w6 ⟨rfl, hd⟩; have HX6 := AsideCk.mk (blk_below HX5.out hd); have HY6 := AsideCk.mk (blk_below HY5.out hd); have HB6 := AsideCk.mk (below_step HB5.out hd); clear hd; clear f0 f1 f2 f3 f4 f5 f6; clear h0 h1 h2 h3 h4; have f0 := (blk_cell HX6.out 0).trans rfl; have f1 := (blk_cell HX6.out 1).trans rfl; have f2 := (blk_cell HX6.out 2).trans rfl; have f3 := (blk_cell HX6.out 3).trans rfl; have f4 := (blk_cell HX6.out 4).trans rfl; have f5 := (blk_cell HX6.out 5).trans rfl; have f6 := (blk_cell HX6.out 6).trans rfl; have h0 := (blk_cell HY6.out 0).trans rfl; have h1 := (blk_cell HY6.out 1).trans rfl; have h2 := (blk_cell HY6.out 2).trans rfl; have h3 := (blk_cell HY6.out 3).trans rfl; have h4 := (blk_cell HY6.out 4).trans rfl))
          go_ret
          exact ⟨rfl, HB6.out⟩
    · rw [if_neg hl] at h
      obtain rfl := Option.some.inj h
      have hl1 : ((l1.length : Int) == a0_0) = false := beq_eq_false_iff_ne.mpr hl
      have hl2 : ((l1.length : Int) != a0_0) = true := bne_iff_ne.mpr hl
      clear h hr1 hl
      generalize l1.length = n at *
      go_enter Tryz.func15, Tryz.ntmps15
      go_wp2_with (first | ((with_reducible refine gate_dst (N := 3) rfl ?_); refine box_event ?hg (N := 3) ?hd (cs := #[.int .i64 a0_0, .int .i64 a0_1, .bool a0_2, .int .i64 a0_3, .int .i64 a0_4, .int .i64 a0_5, .int .i64 a0_6]) (t := 23) ?hr ?_; (case hd => rfl); (case hg => rfl); (case hr => first | (go_simp; done) | (go_simp; rfl)); intro g1 hg0_ wx hx1 hb1; clear hg0_; have HX1 := AsideCk.mk hx1; have HB1 := AsideCk.mk hb1; clear hx1 hb1; have f0 := (blk_cell HX1.out 0).trans rfl; have f1 := (blk_cell HX1.out 1).trans rfl; have f2 := (blk_cell HX1.out 2).trans rfl; have f3 := (blk_cell HX1.out 3).trans rfl; have f4 := (blk_cell HX1.out 4).trans rfl; have f5 := (blk_cell HX1.out 5).trans rfl; have f6 := (blk_cell HX1.out 6).trans rfl) | ((with_reducible refine gate_dst (N := 5) rfl ?_); refine box_event ?hg (N := 5) ?hd (cs := #[.int .i64 a2_0, .int .i64 a2_1, .bool a2_2, .bool a2_3, .bool a2_4]) (t := 26) ?hr ?_; (case hd => rfl); (case hg => rfl); (case hr => first | (go_simp; done) | (go_simp; rfl)); intro g2 hg0_ wy hy1 hb2; clear hg0_; have HY2 := AsideCk.mk hy1; have HX2 := AsideCk.mk (blk_below HX1.out hb2); have HB2 := AsideCk.mk (below_step HB1.out hb2); clear hy1 hb2; clear f0 f1 f2 f3 f4 f5 f6; have f0 := (blk_cell HX2.out 0).trans rfl; have f1 := (blk_cell HX2.out 1).trans rfl; have f2 := (blk_cell HX2.out 2).trans rfl; have f3 := (blk_cell HX2.out 3).trans rfl; have f4 := (blk_cell HX2.out 4).trans rfl; have f5 := (blk_cell HX2.out 5).trans rfl; have f6 := (blk_cell HX2.out 6).trans rfl; have h0 := (blk_cell HY2.out 0).trans rfl; have h1 := (blk_cell HY2.out 1).trans rfl; have h2 := (blk_cell HY2.out 2).trans rfl; have h3 := (blk_cell HY2.out 3).trans rfl; have h4 := (blk_cell HY2.out 4).trans rfl) | (go_at_call 32; refine (HG.out _).mono ?_; rintro e w3 ⟨rfl, hd⟩; have HX3 := AsideCk.mk (blk_below HX2.out hd); have HY3 := AsideCk.mk (blk_below HY2.out hd); have HB3 := AsideCk.mk (below_step HB2.out hd); clear hd; clear f0 f1 f2 f3 f4 f5 f6; clear h0 h1 h2 h3 h4; have f0 := (blk_cell HX3.out 0).trans rfl; have f1 := (blk_cell HX3.out 1).trans rfl; have f2 := (blk_cell HX3.out 2).trans rfl; have f3 := (blk_cell HX3.out 3).trans rfl; have f4 := (blk_cell HX3.out 4).trans rfl; have f5 := (blk_cell HX3.out 5).trans rfl; have f6 := (blk_cell HX3.out 6).trans rfl; have h0 := (blk_cell HY3.out 0).trans rfl; have h1 := (blk_cell HY3.out 1).trans rfl; have h2 := (blk_cell HY3.out 2).trans rfl; have h3 := (blk_cell HY3.out 3).trans rfl; have h4 := (blk_cell HY3.out 4).trans rfl) | (go_at_call 33; refine (HA.out g1 _ HB3.out ((blk_cell HX3.out 6).trans rfl)).mono ?_; rintro e w4 ⟨rfl, hd⟩; have HX4 := AsideCk.mk (blk_below HX3.out hd); have HY4 := AsideCk.mk (blk_below HY3.out hd); have HB4 := AsideCk.mk (below_step HB3.out hd); clear hd; clear f0 f1 f2 f3 f4 f5 f6; clear h0 h1 h2 h3 h4; have f0 := (blk_cell HX4.out 0).trans rfl; have f1 := (blk_cell HX4.out 1).trans rfl; have f2 := (blk_cell HX4.out 2).trans rfl; have f3 := (blk_cell HX4.out 3).trans rfl; have f4 := (blk_cell HX4.out 4).trans rfl; have f5 := (blk_cell HX4.out 5).trans rfl; have f6 := (blk_cell HX4.out 6).trans rfl; have h0 := (blk_cell HY4.out 0).trans rfl; have h1 := (blk_cell HY4.out 1).trans rfl; have h2 := (blk_cell HY4.out 2).trans rfl; have h3 := (blk_cell HY4.out 3).trans rfl; have h4 := (blk_cell HY4.out 4).trans rfl) | (go_at_call 23; refine (HFO.out _).mono ?_; rintro e w5 ⟨rfl, hd⟩; have HX5 := AsideCk.mk (blk_below HX4.out hd); have HY5 := AsideCk.mk (blk_below HY4.out hd); have HB5 := AsideCk.mk (below_step HB4.out hd); clear hd; clear f0 f1 f2 f3 f4 f5 f6; clear h0 h1 h2 h3 h4; have f0 := (blk_cell HX5.out 0).trans rfl; have f1 := (blk_cell HX5.out 1).trans rfl; have f2 := (blk_cell HX5.out 2).trans rfl; have f3 := (blk_cell HX5.out 3).trans rfl; have f4 := (blk_cell HX5.out 4).trans rfl; have f5 := (blk_cell HX5.out 5).trans rfl; have f6 := (blk_cell HX5.out 6).trans rfl; have h0 := (blk_cell HY5.out 0).trans rfl; have h1 := (blk_cell HY5.out 1).trans rfl; have h2 := (blk_cell HY5.out 2).trans rfl; have h3 := (blk_cell HY5.out 3).trans rfl; have h4 := (blk_cell HY5.out 4).trans rfl) | (go_at_call 35; refine (HPK.out _ HB5.out).mono ?_; rintro e w6 ⟨rfl, hd⟩; have HX6 := AsideCk.mk (blk_below HX5.out hd); have HY6 := AsideCk.mk (blk_below HY5.out hd); have HB6 := AsideCk.mk (below_step HB5.out hd); clear hd; clear f0 f1 f2 f3 f4 f5 f6; clear h0 h1 h2 h3 h4; have f0 := (blk_cell HX6.out 0).trans rfl; have f1 := (blk_cell HX6.out 1).trans rfl; have f2 := (blk_cell HX6.out 2).trans rfl; have f3 := (blk_cell HX6.out 3).trans rfl; have f4 := (blk_cell HX6.out 4).trans rfl; have f5 := (blk_cell HX6.out 5).trans rfl; have f6 := (blk_cell HX6.out 6).trans rfl; have h0 := (blk_cell HY6.out 0).trans rfl; have h1 := (blk_cell HY6.out 1).trans rfl; have h2 := (blk_cell HY6.out 2).trans rfl; have h3 := (blk_cell HY6.out 3).trans rfl; have h4 := (blk_cell HY6.out 4).trans rfl))
      go_ret
      exact ⟨rfl, HB3.out⟩

end Go.Proofs.YtkolmgkbdhbmhaaGreatDoor.HT2

namespace Go.Proofs.YtkolmgkbdhbmhaaGreatDoor.HT2
open Go.RowKit Go.Proofs.YtkolmgkbdhbmhaaGreatDoorW.PrintWords Go.Proofs.YtkolmgkbdhbmhaaGreatDoorW.PrintLast Go.Proofs.YtkolmgkbdhbmhaaGreatDoorW.PrintMore
attribute [local go_sem] max2_int min2_int max_two min_two max_three min_three max_four min_four   -- for this text's walks alone
set_option linter.unusedVariables false
set_option linter.unusedSimpArgs false

/-! ### stream_Encode: function 8, by hand -/
structure AsideEn (p : Prop) : Prop where mk :: (out : p)
/-- What Encode answers where something is wrong. -/
def stream_Encode.f (k : Nat) (a0_0 : Int) (a0_1 : Int) (a0_2 : Bool) (a0_3 : Int) (a0_4 : Int) (a0_5 : Int) (a0_6 : Int) (l1 : List (List Int)) (a2_0 : Int) (a2_1 : Int) (a2_2 : Bool) (a2_3 : Bool) (a2_4 : Bool) : Option (List Int × Int) := (stream_check.f k a0_0 a0_1 a0_2 a0_3 a0_4 a0_5 a0_6 l1 a2_0 a2_1 a2_2 a2_3 a2_4).bind fun e => if e = 0 then none else some ([], e)
set_option maxRecDepth 100000 in
set_option maxHeartbeats 4000000 in
theorem stream_Encode.calls (k : Nat) (a0_0 : Int) (a0_1 : Int) (a0_2 : Bool) (a0_3 : Int) (a0_4 : Int) (a0_5 : Int) (a0_6 : Int) (A1 : Option Addr) (c1 : Nat) (l1 : List (List Int)) (a2_0 : Int) (a2_1 : Int) (a2_2 : Bool) (a2_3 : Bool) (a2_4 : Bool) (r1 : List Int) (r2 : Int) (w : World) (hr1 : Kd.C (Kd.slice 3 (Kd.int .i64)) w A1 l1.length l1) (hc1 : l1.length ≤ c1) (h : stream_Encode.f k a0_0 a0_1 a0_2 a0_3 a0_4 a0_5 a0_6 l1 a2_0 a2_1 a2_2 a2_3 a2_4 = some (r1, r2)) :
    Calls Tryz.prog 8 #[.agg #[.int .i64 a0_0, .int .i64 a0_1, .bool a0_2, .int .i64 a0_3, .int .i64 a0_4, .int .i64 a0_5, .int .i64 a0_6], .slice A1 l1.length c1, .agg #[.int .i64 a2_0, .int .i64 a2_1, .bool a2_2, .bool a2_3, .bool a2_4]] w fun e w' => ∃ v0_ : Value, e = .returned (.tuple #[v0_, .int .i64 r2]) ∧ Kd.R (Kd.int .u8) 5 w' w.heap.size (fun _ => True) v0_ r1 ∧ Below w.heap.size w w' := by
  have hu23 := Tryz.underlying23
  have hu26 := Tryz.underlying26
  unfold stream_Encode.f at h
  obtain ⟨e, he, h⟩ := Option.bind_eq_some_iff.mp h
  have HCK := AsideEn.mk (fun (W : World) (hW : Below w.heap.size w W) => stream_check.calls k a0_0 a0_1 a0_2 a0_3 a0_4 a0_5 a0_6 A1 c1 l1 a2_0 a2_1 a2_2 a2_3 a2_4 e W (Kd.C_below hr1 hW) hc1 he)
  by_cases h0 : e = 0
  · rw [if_pos h0] at h; cases h
  · rw [if_neg h0] at h
    have h := Option.some.inj h
    injection h with ha hb
    subst ha hb
    have e1 : (e == 0) = false := beq_eq_false_iff_ne.mpr h0
    have e2 : (e != 0) = true := bne_iff_ne.mpr h0
    clear h0 he hr1
    generalize l1.length = n at *
    go_enter Tryz.func8, Tryz.ntmps8
    go_wp2_with (first | ((with_reducible refine gate_dst (N := 3) rfl ?_); refine box_event ?hg (N := 3) ?hd (cs := #[.int .i64 a0_0, .int .i64 a0_1, .bool a0_2, .int .i64 a0_3, .int .i64 a0_4, .int .i64 a0_5, .int .i64 a0_6]) (t := 23) ?hr ?_; (case hd => rfl); (case hg => rfl); (case hr => first | (go_simp; done) | (go_simp; rfl)); intro g1 hg0_ wx hx1 hb1; clear hg0_; have HX1 := AsideEn.mk hx1; have HB1 := AsideEn.mk hb1; clear hx1 hb1; have f0 := (blk_cell HX1.out 0).trans rfl; have f1 := (blk_cell HX1.out 1).trans rfl; have f2 := (blk_cell HX1.out 2).trans rfl; have f3 := (blk_cell HX1.out 3).trans rfl; have f4 := (blk_cell HX1.out 4).trans rfl; have f5 := (blk_cell HX1.out 5).trans rfl; have f6 := (blk_cell HX1.out 6).trans rfl) | ((with_reducible refine gate_dst (N := 5) rfl ?_); refine box_event ?hg (N := 5) ?hd (cs := #[.int .i64 a2_0, .int .i64 a2_1, .bool a2_2, .bool a2_3, .bool a2_4]) (t := 26) ?hr ?_; (case hd => rfl); (case hg => rfl); (case hr => first | (go_simp; done) | (go_simp; rfl)); intro g2 hg0_ wy hy1 hb2; clear hg0_; have HY2 := AsideEn.mk hy1; have HX2 := AsideEn.mk (blk_below HX1.out hb2); have HB2 := AsideEn.mk (below_step HB1.out hb2); clear hy1 hb2; clear f0 f1 f2 f3 f4 f5 f6; have f0 := (blk_cell HX2.out 0).trans rfl; have f1 := (blk_cell HX2.out 1).trans rfl; have f2 := (blk_cell HX2.out 2).trans rfl; have f3 := (blk_cell HX2.out 3).trans rfl; have f4 := (blk_cell HX2.out 4).trans rfl; have f5 := (blk_cell HX2.out 5).trans rfl; have f6 := (blk_cell HX2.out 6).trans rfl; have h0 := (blk_cell HY2.out 0).trans rfl; have h1 := (blk_cell HY2.out 1).trans rfl; have h2 := (blk_cell HY2.out 2).trans rfl; have h3 := (blk_cell HY2.out 3).trans rfl; have h4 := (blk_cell HY2.out 4).trans rfl) | (go_at_call 15; refine (HCK.out _ HB2.out).mono ?_; rintro e w3 ⟨rfl, hd⟩; have HB3 := AsideEn.mk (below_step HB2.out hd); clear hd; clear f0 f1 f2 f3 f4 f5 f6; clear h0 h1 h2 h3 h4))
    go_ret2
    exact ⟨_, rfl, Kd.R_nil _ _ _ _ _, HB3.out⟩

end Go.Proofs.YtkolmgkbdhbmhaaGreatDoor.HT2

namespace Go.Proofs.YtkolmgkbdhbmhaaGreatDoor.HT2
open Go.RowKit Go.Proofs.YtkolmgkbdhbmhaaGreatDoorW.PrintWords Go.Proofs.YtkolmgkbdhbmhaaGreatDoorW.PrintLast Go.Proofs.YtkolmgkbdhbmhaaGreatDoorW.PrintMore
attribute [local go_sem] max2_int min2_int max_two min_two max_three min_three max_four min_four   -- for this text's walks alone
set_option linter.unusedVariables false
set_option linter.unusedSimpArgs false

/-! ### pipe_Writer_bit: function 89, by hand -/
structure AsideWr (p : Prop) : Prop where mk :: (out : p)
/-- A writer of n bits at p, whose bytes are the call's own. -/
structure Wr (w : World) (B p n : Nat) (v : Value) (m : Nat) (xs : List Int) : Prop where
  lo : B ≤ p
  hi : p < w.heap.size
  cell : w.heap[p]? = some (.cells #[v, .int .i64 n] 47 (0, 0))
  own : w.ownsRow B 5 1 v m (xs.map (Value.int .u8))
  ne : v.ownBlock ≠ some p
  few : n ≤ 8 * m
  most : 8 * m < n + 8
  ok : ∀ x ∈ xs, 0 ≤ x ∧ x < 256
theorem wr_cells {w : World} {p t : Nat} {v x : Value} (h : w.heap[p]? = some (.cells #[v, x] t (0, 0))) : w.cell? ⟨p, 0, none⟩ = some v ∧ w.cell? ⟨p, 1, none⟩ = some x ∧ w.frozen? ⟨p, 0, none⟩ = false ∧ w.frozen? ⟨p, 1, none⟩ = false := by
  refine ⟨?_, ?_, ?_, ?_⟩ <;> simp [World.cell?, World.frozen?, h]
theorem own_open {w : World} {B e m : Nat} {v : Value} {xs : List Value} (h : w.ownsRow B e 1 v m xs) (hm : 0 < m) : ∃ g cap cur, v = .slice (some ⟨g, 0, none⟩) m cap ∧ B ≤ g ∧ w.heap[g]? = some (.cells cur e (0, 0)) ∧ m ≤ cap ∧ cur.size = cap ∧ cur.toList.take m = xs := by
  obtain ⟨hl, ⟨_, e⟩ | ⟨g, cap, cur, rfl, hbg, hg, hnc, hcm, hcs, htk⟩⟩ := h
  · omega
  · exact ⟨g, cap, cur, rfl, hbg, hg, hnc, by omega, by rw [← htk]; simp⟩
theorem set_first {w : World} {p t : Nat} {a b : Value} (h : w.heap[p]? = some (.cells #[a, b] t (0, 0))) (u : Value) : (w.setCell ⟨p, 0, none⟩ u).heap[p]? = some (.cells #[u, b] t (0, 0)) := heap_setCell_same w p 0 _ t u h
theorem set_second {w : World} {p t : Nat} {a b : Value} (h : w.heap[p]? = some (.cells #[a, b] t (0, 0))) (u : Value) : (w.setCell ⟨p, 1, none⟩ u).heap[p]? = some (.cells #[a, u] t (0, 0)) := heap_setCell_same w p 1 _ t u h
theorem own_set {w : World} {B e m : Nat} {v : Value} {xs : List Value} (h : w.ownsRow B e 1 v m xs) (q : Addr) (u : Value) (hne : v.ownBlock ≠ some q.block) : (w.setCell q u).ownsRow B e 1 v m xs :=
  own_move h fun k hk => Below.heap_setCell _ _ _ _ (by rintro rfl; exact hne hk)
theorem own_u8 {w : World} {B e m g cap : Nat} {xs : List Int} (h : w.ownsRow B e 1 (.slice (some ⟨g, 0, none⟩) m cap) m (xs.map (Value.int .u8))) (j : Nat) (hj : j < m) : ∃ x, x ∈ xs ∧ w.cell? ⟨g, j, none⟩ = some (.int .u8 x) := by
  have hl : xs.length = m := by have := h.1; simpa using this
  have hc := h.cellAt j (by omega)
  rw [List.getElem?_map, List.getElem?_eq_getElem (by omega)] at hc
  exact ⟨xs[j], List.getElem_mem _, hc⟩
theorem wr_step {w W : World} {B p n m : Nat} {v : Value} {xs : List Int} (hB : Below B w W) (hlo : B ≤ p) (hP : W.heap[p]? = some (.cells #[v, .int .i64 n] 47 (0, 0))) (hO : W.ownsRow B 5 1 v m (xs.map (Value.int .u8))) (hne : v.ownBlock ≠ some p) (hf : n + 1 ≤ 8 * m) (hm : 8 * m < n + 9) (hok : ∀ x ∈ xs, 0 ≤ x ∧ x < 256) (q : Int) (hq : q = (n : Int) + 1) :
    Below B w (W.setCell ⟨p, 1, none⟩ (.int .i64 q)) ∧ ∃ v' m' xs', Wr (W.setCell ⟨p, 1, none⟩ (.int .i64 q)) B p (n + 1) v' m' xs' := by
  subst hq
  have hB' := hB.setCell (p := ⟨p, 1, none⟩) hlo (.int .i64 ((n : Int) + 1))
  have hh := set_second hP (.int .i64 ((n : Int) + 1))
  refine ⟨hB', v, m, xs, ⟨hlo, (Array.getElem?_eq_some_iff.1 hh).1, hh, own_set hO _ _ hne, hne, by omega, by omega, hok⟩⟩
theorem wr_apart {W : World} {p g m cap : Nat} {cur : Array Value} {a b : Value} (hP : W.heap[p]? = some (.cells #[a, b] 47 (0, 0))) (hg : W.heap[g]? = some (.cells cur 5 (0, 0))) : (Value.slice (some ⟨g, 0, none⟩) m cap).ownBlock ≠ some p := by
  intro e
  have e' : g = p := by simpa [Value.ownBlock] using e
  subst e'
  rw [hP] at hg
  simp at hg
theorem own_row_set {W : World} {B e m g cap : Nat} {xs : List Int} (h : W.ownsRow B e 1 (.slice (some ⟨g, 0, none⟩) m cap) m (xs.map (Value.int .u8))) (j : Nat) (y : Int) : (W.setCell ⟨g, j, none⟩ (.int .u8 y)).ownsRow B e 1 (.slice (some ⟨g, 0, none⟩) m cap) m ((xs.set j y).map (Value.int .u8)) := by
  rw [List.map_set]
  exact (h.stored j _).1
theorem set_ok {xs : List Int} (h : ∀ x ∈ xs, 0 ≤ x ∧ x < 256) (j : Nat) {y : Int} (hy : 0 ≤ y ∧ y < 256) : ∀ x ∈ xs.set j y, 0 ≤ x ∧ x < 256 := fun x hx => (List.mem_or_eq_of_mem_set hx).elim (h x) (fun e => e ▸ hy)
theorem app_ok {xs : List Int} (h : ∀ x ∈ xs, 0 ≤ x ∧ x < 256) : ∀ x ∈ xs ++ [0], 0 ≤ x ∧ x < 256 := fun x hx => (List.mem_append.1 hx).elim (h x) (fun e => by simp at e; subst e; decide)
theorem or_ok (x y : Int) : 0 ≤ bits .or .u8 x y ∧ bits .or .u8 x y < 256 := ⟨bits_lo_u8 _ _ _, by have := bits_hi_u8 .or x y; omega⟩
set_option maxRecDepth 100000 in
set_option maxHeartbeats 2000000 in
theorem pipe_bit.gives (B p n m : Nat) (v : Value) (xs : List Int) (one : Bool) (w : World) (h : Wr w B p n v m xs) (hn : n < 1000000) :
    Calls Tryz.prog 89 #[.pointer (some ⟨p, 0, none⟩), .bool one] w fun e w' => e = .returned (.tuple #[]) ∧ Below B w w' ∧ ∃ v' m' xs', Wr w' B p (n + 1) v' m' xs' := by
  have hc0 : w.cell? ⟨p, 0, none⟩ = some v := by simp [World.cell?, h.cell]
  have hc1 : w.cell? ⟨p, 1, none⟩ = some (.int .i64 n) := by simp [World.cell?, h.cell]
  have hz0' := (wr_cells h.cell).2.2.2
  have H := AsideWr.mk h
  clear h
  by_cases h8 : n % 8 = 0
  · have hinfo : ((Tryz.prog).info? 5).map (fun i => (i.zero, i.size, i.bytes)) = some (some (.int .u8 0), 1, 1) := by kernel_rfl
    obtain ⟨i0, hi, hz0, hz1, hz2⟩ := info_parts hinfo
    clear hinfo hz0'
    have hm : n = 8 * m := by have := H.out.few; have := H.out.most; omega
    have h8' : ((n : Int) % 8 == 0) = true := by rw [beq_iff_eq]; omega
    cases one with
    | true =>
      go_enter Tryz.func89, Tryz.ntmps89
      go_wp2_with (at_builtin; refine wpList_append_own _ rfl _ _ 32 rfl B 5 i0 (.int .u8 0) 1 1 Tryz.underlying32 hi hz0 hz1 hz2 rfl (by decide) v m (xs.map (Value.int .u8)) rfl (H.out.own.alloc _) ⟨w.heap.size, 0, none⟩ 1 1 [.int .u8 0] rfl rfl (cell_one_new _ _ _) (fun x hx => by simp at hx; subst hx; rfl) (by unfold maxLen; omega) (by omega) (by have := H.out.lo; have := H.out.hi; simp; omega) ?_; intro v' w3 hown' hgrow3 hnil3; have hp3 : w3.heap[p]? = some (.cells #[v, .int .i64 n] 47 (0, 0)) := (hgrow3.block p (by have := H.out.hi; simp; omega) (fun e => H.out.ne e.symm)).trans ((Below.heap_alloc _ _ _ H.out.hi).trans H.out.cell); obtain ⟨d0, d1, f0, f1⟩ := wr_cells hp3; obtain ⟨g, cap, cur, rfl, hbg, hgc, hcap, hcs, htk⟩ := own_open hown' (by omega); have HO := AsideWr.mk hown'; have HB := AsideWr.mk (((Below.refl B w).alloc (by have := H.out.lo; have := H.out.hi; omega) _).grown hgrow3 (by have := H.out.lo; have := H.out.hi; simp; omega) (fun k hk => (H.out.own.lt k hk).1)); have HP := AsideWr.mk hp3; have HN := AsideWr.mk (wr_apart (m := m + 1) (cap := cap) hp3 hgc); have HGB := AsideWr.mk hbg; clear hown' hgrow3 hnil3 hp3 htk hcs hgc hbg; clear hc0 hc1)
      obtain ⟨W, hW⟩ : ∃ W, W = w3.setCell ⟨p, 0, none⟩ (.slice (some ⟨g, 0, none⟩) (m + 1) cap) := ⟨_, rfl⟩
      rw [← hW]
      have HW := AsideWr.mk hW
      clear hW
      have hPW : W.heap[p]? = some (.cells #[.slice (some ⟨g, 0, none⟩) (m + 1) cap, .int .i64 n] 47 (0, 0)) := by rw [HW.out]; exact set_first HP.out _
      have hOW : W.ownsRow B 5 1 (.slice (some ⟨g, 0, none⟩) (m + 1) cap) (m + 1) ((xs ++ [0]).map (Value.int .u8)) := by rw [HW.out, List.map_append]; exact own_set HO.out _ _ HN.out
      obtain ⟨x, hx, e2⟩ := own_u8 hOW m (by omega)
      have e3 := hOW.frozenAt m
      obtain ⟨e0, e1, f0, f1⟩ := wr_cells hPW
      have HPW := AsideWr.mk hPW
      have HOW := AsideWr.mk hOW
      clear hPW hOW d0 d1 hx
      have hmb : (m : Int) ≤ 200000 := by omega
      have hw64 : wrap64 (m : Int) = m := by unfold wrap64; omega
      have hwin : 0 ≤ (m : Int) ∧ (m : Int) < (m : Int) + 1 := by omega
      refine start_ (n := 20) (S := fun w' => w'.cell? ⟨p, 0, none⟩ = some (.slice (some ⟨g, 0, none⟩) (m + 1) cap) ∧ w'.cell? ⟨p, 1, none⟩ = some (.int .i64 (n : Int)) ∧ w'.cell? ⟨g, m, none⟩ = some (.int .u8 x) ∧ w'.frozen? ⟨g, m, none⟩ = false) (ds := [19]) #[false, false, false, false, false, false, false, false, false, false, false, false, false, false, false, false, false, false, false, false] (by kernel_rfl) rfl rfl ⟨e0, e1, e2, e3⟩ (fun hHeld => ?_)
      refine pure_ (i := 0) (N := some 20) (v := ?_) (a' := ?_) #[true, false, false, false, false, false, false, false, false, false, false, false, false, false, false, false, false, false, false, false] rfl rfl (by kernel_rfl) (fun _ _ _ h => h) (Or.inl ⟨by rfl, ?_⟩) ?_ ?_
      rotate_left
      · intro w'
        go_simp
        with_reducible rfl
      rotate_left
      · simp only [Act.put, List.setIfInBounds_toArray, List.set_cons_zero, List.set_cons_succ, i64_w, i32_w]
        rfl
      refine pure_ (i := 1) (N := some 21) (v := ?_) (a' := ?_) #[true, true, false, false, false, false, false, false, false, false, false, false, false, false, false, false, false, false, false, false] rfl rfl (by kernel_rfl) (fun _ _ _ h => h) (Or.inl ⟨by rfl, ?_⟩) ?_ ?_
      rotate_left
      · intro w'
        go_simp
        with_reducible rfl
      rotate_left
      · simp only [Act.put, List.setIfInBounds_toArray, List.set_cons_zero, List.set_cons_succ, i64_w, i32_w]
        rfl
      refine pure_ (i := 2) (N := some 22) (v := ?_) (a' := ?_) #[true, true, true, false, false, false, false, false, false, false, false, false, false, false, false, false, false, false, false, false] rfl rfl (by kernel_rfl) (fun _ _ _ h => h) (Or.inl ⟨by rfl, ?_⟩) ?_ ?_
      rotate_left
      · intro w'
        go_simp
        with_reducible rfl
      rotate_left
      · simp only [Act.put, List.setIfInBounds_toArray, List.set_cons_zero, List.set_cons_succ, i64_w, i32_w]
        rfl
      refine pure_ (i := 4) (N := some 24) (v := ?_) (a' := ?_) #[true, true, true, false, true, false, false, false, false, false, false, false, false, false, false, false, false, false, false, false] rfl rfl (by kernel_rfl) (fun _ _ _ h => h) (Or.inl ⟨by rfl, ?_⟩) ?_ ?_
      rotate_left
      · intro w'
        go_simp
        with_reducible rfl
      rotate_left
      · simp only [Act.put, List.setIfInBounds_toArray, List.set_cons_zero, List.set_cons_succ, i64_w, i32_w]
        rfl
      refine pure_ (i := 5) (N := some 25) (v := ?_) (a' := ?_) #[true, true, true, false, true, true, false, false, false, false, false, false, false, false, false, false, false, false, false, false] rfl rfl (by kernel_rfl) (fun _ _ _ h => h) (Or.inl ⟨by rfl, ?_⟩) ?_ ?_
      rotate_left
      · intro w'
        go_simp
        with_reducible rfl
      rotate_left
      · simp only [Act.put, List.setIfInBounds_toArray, List.set_cons_zero, List.set_cons_succ, i64_w, i32_w]
        rfl
      refine pure_ (i := 6) (N := some 26) (v := ?_) (a' := ?_) #[true, true, true, false, true, true, true, false, false, false, false, false, false, false, false, false, false, false, false, false] rfl rfl (by kernel_rfl) (fun _ _ _ h => h) (Or.inl ⟨by rfl, ?_⟩) ?_ ?_
      rotate_left
      · intro w'
        go_simp
        with_reducible rfl
      rotate_left
      · simp only [Act.put, List.setIfInBounds_toArray, List.set_cons_zero, List.set_cons_succ, i64_w, i32_w]
        rfl
      refine pure_ (i := 11) (N := some 31) (v := ?_) (a' := ?_) #[true, true, true, false, true, true, true, false, false, false, false, true, false, false, false, false, false, false, false, false] rfl rfl (by kernel_rfl) (fun _ _ _ h => h) (Or.inl ⟨by rfl, ?_⟩) ?_ ?_
      rotate_left
      · intro w'
        go_simp
        with_reducible rfl
      rotate_left
      · simp only [Act.put, List.setIfInBounds_toArray, List.set_cons_zero, List.set_cons_succ, i64_w, i32_w]
        rfl
      refine pure_ (i := 12) (N := some 32) (v := ?_) (a' := ?_) #[true, true, true, false, true, true, true, false, false, false, false, true, true, false, false, false, false, false, false, false] rfl rfl (by kernel_rfl) (fun _ _ _ h => h) (Or.inl ⟨by rfl, ?_⟩) ?_ ?_
      rotate_left
      · intro w'
        go_simp
        with_reducible rfl
      rotate_left
      · simp only [Act.put, List.setIfInBounds_toArray, List.set_cons_zero, List.set_cons_succ, i64_w, i32_w]
        rfl
      refine pure_ (i := 13) (N := some 33) (v := ?_) (a' := ?_) #[true, true, true, false, true, true, true, false, false, false, false, true, true, true, false, false, false, false, false, false] rfl rfl (by kernel_rfl) (fun _ _ _ h => h) (Or.inl ⟨by rfl, ?_⟩) ?_ ?_
      rotate_left
      · intro w'
        go_simp
        with_reducible rfl
      rotate_left
      · simp only [Act.put, List.setIfInBounds_toArray, List.set_cons_zero, List.set_cons_succ, i64_w, i32_w]
        rfl
      refine take_ (i := 3) (N := some 23) (v := ?_) (a' := ?_) #[true, true, true, true, true, true, true, false, false, false, false, true, true, true, false, false, false, false, false, false] rfl rfl (by kernel_rfl) (fun _ _ _ h => h) (Or.inl ⟨by rfl, ?_⟩) hHeld ?_ ?_
      rotate_left
      · rintro w' ⟨s0, s1, s2, s3⟩
        go_simp
        with_reducible rfl
      rotate_left
      · simp only [Act.put, List.setIfInBounds_toArray, List.set_cons_zero, List.set_cons_succ, i64_w, i32_w]
        rfl
      refine take_ (i := 7) (N := some 27) (v := ?_) (a' := ?_) #[true, true, true, true, true, true, true, true, false, false, false, true, true, true, false, false, false, false, false, false] rfl rfl (by kernel_rfl) (fun _ _ _ h => h) (Or.inl ⟨by rfl, ?_⟩) hHeld ?_ ?_
      rotate_left
      · rintro w' ⟨s0, s1, s2, s3⟩
        go_simp
        with_reducible rfl
      rotate_left
      · simp only [Act.put, List.setIfInBounds_toArray, List.set_cons_zero, List.set_cons_succ, i64_w, i32_w]
        rfl
      refine pure_ (i := 8) (N := some 28) (v := ?_) (a' := ?_) #[true, true, true, true, true, true, true, true, true, false, false, true, true, true, false, false, false, false, false, false] rfl rfl (by kernel_rfl) (fun _ _ _ h => h) (Or.inl ⟨by rfl, ?_⟩) ?_ ?_
      rotate_left
      · intro w'
        go_simp
        with_reducible rfl
      rotate_left
      · simp only [Act.put, List.setIfInBounds_toArray, List.set_cons_zero, List.set_cons_succ, i64_w, i32_w]
        rfl
      refine pure_ (i := 9) (N := some 29) (v := ?_) (a' := ?_) #[true, true, true, true, true, true, true, true, true, true, false, true, true, true, false, false, false, false, false, false] rfl rfl (by kernel_rfl) (fun _ _ _ h => h) (Or.inl ⟨by rfl, ?_⟩) ?_ ?_
      rotate_left
      · intro w'
        go_simp
        with_reducible rfl
      rotate_left
      · simp only [Act.put, List.setIfInBounds_toArray, List.set_cons_zero, List.set_cons_succ, i64_w, i32_w]
        rfl
      refine take_ (i := 10) (N := some 30) (v := ?_) (a' := ?_) #[true, true, true, true, true, true, true, true, true, true, true, true, true, true, false, false, false, false, false, false] rfl rfl (by kernel_rfl) (fun _ _ _ h => h) (Or.inl ⟨by rfl, ?_⟩) hHeld ?_ ?_
      rotate_left
      · rintro w' ⟨s0, s1, s2, s3⟩
        go_simp
        with_reducible rfl
      rotate_left
      · simp only [Act.put, List.setIfInBounds_toArray, List.set_cons_zero, List.set_cons_succ, i64_w, i32_w]
        rfl
      refine take_ (i := 14) (N := some 34) (v := ?_) (a' := ?_) #[true, true, true, true, true, true, true, true, true, true, true, true, true, true, true, false, false, false, false, false] rfl rfl (by kernel_rfl) (fun _ _ _ h => h) (Or.inl ⟨by rfl, ?_⟩) hHeld ?_ ?_
      rotate_left
      · rintro w' ⟨s0, s1, s2, s3⟩
        go_simp
        with_reducible rfl
      rotate_left
      · simp only [Act.put, List.setIfInBounds_toArray, List.set_cons_zero, List.set_cons_succ, i64_w, i32_w]
        rfl
      refine pure_ (i := 15) (N := some 35) (v := ?_) (a' := ?_) #[true, true, true, true, true, true, true, true, true, true, true, true, true, true, true, true, false, false, false, false] rfl rfl (by kernel_rfl) (fun _ _ _ h => h) (Or.inl ⟨by rfl, ?_⟩) ?_ ?_
      rotate_left
      · intro w'
        go_simp
        with_reducible rfl
      rotate_left
      · simp only [Act.put, List.setIfInBounds_toArray, List.set_cons_zero, List.set_cons_succ, i64_w, i32_w]
        rfl
      refine pure_ (i := 16) (N := some 36) (v := ?_) (a' := ?_) #[true, true, true, true, true, true, true, true, true, true, true, true, true, true, true, true, true, false, false, false] rfl rfl (by kernel_rfl) (fun _ _ _ h => h) (Or.inl ⟨by rfl, ?_⟩) ?_ ?_
      rotate_left
      · intro w'
        go_simp
        with_reducible rfl
      rotate_left
      · simp only [Act.put, List.setIfInBounds_toArray, List.set_cons_zero, List.set_cons_succ, i64_w, i32_w]
        rfl
      refine pure_ (i := 17) (N := some 37) (v := ?_) (a' := ?_) #[true, true, true, true, true, true, true, true, true, true, true, true, true, true, true, true, true, true, false, false] rfl rfl (by kernel_rfl) (fun _ _ _ h => h) (Or.inl ⟨by rfl, ?_⟩) ?_ ?_
      rotate_left
      · intro w'
        go_simp
        with_reducible rfl
      rotate_left
      · simp only [Act.put, List.setIfInBounds_toArray, List.set_cons_zero, List.set_cons_succ, i64_w, i32_w]
        rfl
      refine pure_ (i := 18) (N := some 38) (v := ?_) (a' := ?_) #[true, true, true, true, true, true, true, true, true, true, true, true, true, true, true, true, true, true, true, false] rfl rfl (by kernel_rfl) (fun _ _ _ h => h) (Or.inl ⟨by rfl, ?_⟩) ?_ ?_
      rotate_left
      · intro w'
        go_simp
        with_reducible rfl
      rotate_left
      · simp only [Act.put, List.setIfInBounds_toArray, List.set_cons_zero, List.set_cons_succ, i64_w, i32_w]
        rfl
      refine last_ (i := 19) (N := none) #[true, true, true, true, true, true, true, true, true, true, true, true, true, true, true, true, true, true, true, true] rfl rfl (by kernel_rfl) (by decide) (fun K hK => ?_)
      refine skip_ (w1 := ?_) (by rfl) rfl ?_ ?_
      rotate_left
      · go_simp
        rfl
      refine hK.out _ _ ?_
      clear hK K
      refine done_ (by kernel_rfl) ?_

      obtain ⟨W5, hW5⟩ : ∃ W5, W5 = (W.setCell ⟨g, m, none⟩ (.int .u8 (bits .or .u8 x 128))).drew := ⟨_, rfl⟩
      rw [← hW5]
      have HW5 := AsideWr.mk hW5
      clear hW5 e0 e1 e2 e3 f0 f1 hHeld
      have hPW5 : W5.heap[p]? = some (.cells #[.slice (some ⟨g, 0, none⟩) (m + 1) cap, .int .i64 n] 47 (0, 0)) := by
        rw [HW5.out]
        exact (Below.heap_setCell _ _ _ _ (fun e => HN.out (by rw [e]; rfl))).trans HPW.out
      obtain ⟨e0, e1, f0, f1⟩ := wr_cells hPW5
      have HPW5 := AsideWr.mk hPW5
      clear hPW5
      go_wp2
      go_end0
      refine ⟨rfl, ?_⟩
      refine wr_step (m := m + 1) (xs := (xs ++ [0]).set m (bits .or .u8 x 128)) ?_ H.out.lo HPW5.out ?_ HN.out (by omega) (by omega) (set_ok (app_ok H.out.ok) _ (or_ok _ _)) _ (by omega)
      · rw [HW5.out, HW.out]
        exact ((HB.out.setCell (p := ⟨p, 0, none⟩) H.out.lo _).setCell (p := ⟨g, m, none⟩) HGB.out _).drew
      · rw [HW5.out]
        exact (own_row_set HOW.out m _).drew
    | false =>
      go_enter Tryz.func89, Tryz.ntmps89
      go_wp2_with (at_builtin; refine wpList_append_own _ rfl _ _ 32 rfl B 5 i0 (.int .u8 0) 1 1 Tryz.underlying32 hi hz0 hz1 hz2 rfl (by decide) v m (xs.map (Value.int .u8)) rfl (H.out.own.alloc _) ⟨w.heap.size, 0, none⟩ 1 1 [.int .u8 0] rfl rfl (cell_one_new _ _ _) (fun x hx => by simp at hx; subst hx; rfl) (by unfold maxLen; omega) (by omega) (by have := H.out.lo; have := H.out.hi; simp; omega) ?_; intro v' w3 hown' hgrow3 hnil3; have hp3 : w3.heap[p]? = some (.cells #[v, .int .i64 n] 47 (0, 0)) := (hgrow3.block p (by have := H.out.hi; simp; omega) (fun e => H.out.ne e.symm)).trans ((Below.heap_alloc _ _ _ H.out.hi).trans H.out.cell); obtain ⟨d0, d1, f0, f1⟩ := wr_cells hp3; obtain ⟨g, cap, cur, rfl, hbg, hgc, hcap, hcs, htk⟩ := own_open hown' (by omega); have HO := AsideWr.mk hown'; have HB := AsideWr.mk (((Below.refl B w).alloc (by have := H.out.lo; have := H.out.hi; omega) _).grown hgrow3 (by have := H.out.lo; have := H.out.hi; simp; omega) (fun k hk => (H.out.own.lt k hk).1)); have HP := AsideWr.mk hp3; have HN := AsideWr.mk (wr_apart (m := m + 1) (cap := cap) hp3 hgc); have HGB := AsideWr.mk hbg; clear hown' hgrow3 hnil3 hp3 htk hcs hgc hbg; clear hc0 hc1)
      go_end0
      refine ⟨rfl, ?_⟩
      refine wr_step (m := m + 1) (xs := xs ++ [0]) (HB.out.setCell (p := ⟨p, 0, none⟩) H.out.lo _) H.out.lo (set_first HP.out _) ?_ HN.out (by omega) (by omega) (app_ok H.out.ok) _ (by omega)
      rw [List.map_append]
      exact own_set HO.out _ _ HN.out
  · obtain ⟨g, cap, cur, rfl, hbg, hgc, hcap, hcs, htk⟩ := own_open H.out.own (by have := H.out.few; omega)
    have HGB := AsideWr.mk hbg
    have h8' : ((n : Int) % 8 == 0) = false := by rw [beq_eq_false_iff_ne]; omega
    have HN : AsideWr ((Value.slice (some ⟨g, 0, none⟩) m cap).ownBlock ≠ some p) := ⟨wr_apart H.out.cell hgc⟩
    clear hgc hcs htk hbg
    cases one with
    | true =>
      go_enter Tryz.func89, Tryz.ntmps89
      obtain ⟨q, hq⟩ : ∃ q, n / 8 = q := ⟨_, rfl⟩
      have hqm : q < m := by have := H.out.few; omega
      obtain ⟨x, hx, e2⟩ := own_u8 H.out.own q hqm
      have e3 := H.out.own.frozenAt q
      have hq8 : (n : Int) / 8 = (q : Int) := by omega
      obtain ⟨r, hr⟩ : ∃ r : Nat, n % 8 = r := ⟨_, rfl⟩
      have hr8 : (n : Int) % 8 = (r : Int) := by omega
      have hmb : (q : Int) ≤ 200000 := by omega
      have hw64 : wrap64 (q : Int) = q := by unfold wrap64; omega
      have hwin : 0 ≤ (q : Int) ∧ (q : Int) < (m : Int) := by omega
      have htm : (n : Int).tmod 8 = (r : Int) := by rw [Int.tmod_eq_emod_of_nonneg (by omega)]; exact hr8
      obtain ⟨y, hsh⟩ : ∃ y, ∀ W : World, (Op.shift .shr .u8 128 .i64 ((n : Int).tmod 8)).run Tryz.prog W = .ok (.int .u8 y) W := by
        refine ⟨(128 : Int).fdiv (2 ^ min r 8), fun W => ?_⟩
        rw [htm]
        show (if (r : Int) < 0 then _ else _ : Sem Value).run _ W = _
        rw [if_neg (by omega)]
        rfl
      have HQ := AsideWr.mk hq
      clear hq hx htm
      go_wp2
      have HQ8 := AsideWr.mk hq8
      refine start_ (n := 20) (S := fun w' => w'.cell? ⟨p, 0, none⟩ = some (.slice (some ⟨g, 0, none⟩) (m) cap) ∧ w'.cell? ⟨p, 1, none⟩ = some (.int .i64 (n : Int)) ∧ w'.cell? ⟨g, q, none⟩ = some (.int .u8 x) ∧ w'.frozen? ⟨g, q, none⟩ = false) (ds := [19]) #[false, false, false, false, false, false, false, false, false, false, false, false, false, false, false, false, false, false, false, false] (by kernel_rfl) rfl rfl ⟨hc0, hc1, e2, e3⟩ (fun hHeld => ?_)
      refine pure_ (i := 0) (N := some 20) (v := ?_) (a' := ?_) #[true, false, false, false, false, false, false, false, false, false, false, false, false, false, false, false, false, false, false, false] rfl rfl (by kernel_rfl) (fun _ _ _ h => h) (Or.inl ⟨by rfl, ?_⟩) ?_ ?_
      rotate_left
      · intro w'
        go_simp
        with_reducible rfl
      rotate_left
      · simp only [Act.put, List.setIfInBounds_toArray, List.set_cons_zero, List.set_cons_succ, i64_w, i32_w]
        rfl
      refine pure_ (i := 1) (N := some 21) (v := ?_) (a' := ?_) #[true, true, false, false, false, false, false, false, false, false, false, false, false, false, false, false, false, false, false, false] rfl rfl (by kernel_rfl) (fun _ _ _ h => h) (Or.inl ⟨by rfl, ?_⟩) ?_ ?_
      rotate_left
      · intro w'
        go_simp
        with_reducible rfl
      rotate_left
      · simp only [Act.put, List.setIfInBounds_toArray, List.set_cons_zero, List.set_cons_succ, i64_w, i32_w]
        rfl
      refine pure_ (i := 2) (N := some 22) (v := ?_) (a' := ?_) #[true, true, true, false, false, false, false, false, false, false, false, false, false, false, false, false, false, false, false, false] rfl rfl (by kernel_rfl) (fun _ _ _ h => h) (Or.inl ⟨by rfl, ?_⟩) ?_ ?_
      rotate_left
      · intro w'
        go_simp
        with_reducible rfl
      rotate_left
      · simp only [Act.put, List.setIfInBounds_toArray, List.set_cons_zero, List.set_cons_succ, i64_w, i32_w]
        rfl
      refine pure_ (i := 4) (N := some 24) (v := ?_) (a' := ?_) #[true, true, true, false, true, false, false, false, false, false, false, false, false, false, false, false, false, false, false, false] rfl rfl (by kernel_rfl) (fun _ _ _ h => h) (Or.inl ⟨by rfl, ?_⟩) ?_ ?_
      rotate_left
      · intro w'
        go_simp
        with_reducible rfl
      rotate_left
      · simp only [Act.put, List.setIfInBounds_toArray, List.set_cons_zero, List.set_cons_succ, i64_w, i32_w]
        rfl
      refine pure_ (i := 5) (N := some 25) (v := ?_) (a' := ?_) #[true, true, true, false, true, true, false, false, false, false, false, false, false, false, false, false, false, false, false, false] rfl rfl (by kernel_rfl) (fun _ _ _ h => h) (Or.inl ⟨by rfl, ?_⟩) ?_ ?_
      rotate_left
      · intro w'
        go_simp
        with_reducible rfl
      rotate_left
      · simp only [Act.put, List.setIfInBounds_toArray, List.set_cons_zero, List.set_cons_succ, i64_w, i32_w]
        rfl
      refine pure_ (i := 6) (N := some 26) (v := ?_) (a' := ?_) #[true, true, true, false, true, true, true, false, false, false, false, false, false, false, false, false, false, false, false, false] rfl rfl (by kernel_rfl) (fun _ _ _ h => h) (Or.inl ⟨by rfl, ?_⟩) ?_ ?_
      rotate_left
      · intro w'
        go_simp
        with_reducible rfl
      rotate_left
      · simp only [Act.put, List.setIfInBounds_toArray, List.set_cons_zero, List.set_cons_succ, i64_w, i32_w]
        rfl
      refine pure_ (i := 11) (N := some 31) (v := ?_) (a' := ?_) #[true, true, true, false, true, true, true, false, false, false, false, true, false, false, false, false, false, false, false, false] rfl rfl (by kernel_rfl) (fun _ _ _ h => h) (Or.inl ⟨by rfl, ?_⟩) ?_ ?_
      rotate_left
      · intro w'
        go_simp
        with_reducible rfl
      rotate_left
      · simp only [Act.put, List.setIfInBounds_toArray, List.set_cons_zero, List.set_cons_succ, i64_w, i32_w]
        rfl
      refine pure_ (i := 12) (N := some 32) (v := ?_) (a' := ?_) #[true, true, true, false, true, true, true, false, false, false, false, true, true, false, false, false, false, false, false, false] rfl rfl (by kernel_rfl) (fun _ _ _ h => h) (Or.inl ⟨by rfl, ?_⟩) ?_ ?_
      rotate_left
      · intro w'
        go_simp
        with_reducible rfl
      rotate_left
      · simp only [Act.put, List.setIfInBounds_toArray, List.set_cons_zero, List.set_cons_succ, i64_w, i32_w]
        rfl
      refine pure_ (i := 13) (N := some 33) (v := ?_) (a' := ?_) #[true, true, true, false, true, true, true, false, false, false, false, true, true, true, false, false, false, false, false, false] rfl rfl (by kernel_rfl) (fun _ _ _ h => h) (Or.inl ⟨by rfl, ?_⟩) ?_ ?_
      rotate_left
      · intro w'
        go_simp
        with_reducible rfl
      rotate_left
      · simp only [Act.put, List.setIfInBounds_toArray, List.set_cons_zero, List.set_cons_succ, i64_w, i32_w]
        rfl
      refine take_ (i := 3) (N := some 23) (v := ?_) (a' := ?_) #[true, true, true, true, true, true, true, false, false, false, false, true, true, true, false, false, false, false, false, false] rfl rfl (by kernel_rfl) (fun _ _ _ h => h) (Or.inl ⟨by rfl, ?_⟩) hHeld ?_ ?_
      rotate_left
      · rintro w' ⟨s0, s1, s2, s3⟩
        go_simp
        with_reducible rfl
      rotate_left
      · simp only [Act.put, List.setIfInBounds_toArray, List.set_cons_zero, List.set_cons_succ, i64_w, i32_w]
        rfl
      refine take_ (i := 7) (N := some 27) (v := ?_) (a' := ?_) #[true, true, true, true, true, true, true, true, false, false, false, true, true, true, false, false, false, false, false, false] rfl rfl (by kernel_rfl) (fun _ _ _ h => h) (Or.inl ⟨by rfl, ?_⟩) hHeld ?_ ?_
      rotate_left
      · rintro w' ⟨s0, s1, s2, s3⟩
        go_simp
        with_reducible rfl
      rotate_left
      · simp only [Act.put, List.setIfInBounds_toArray, List.set_cons_zero, List.set_cons_succ, i64_w, i32_w]
        rfl
      refine pure_ (i := 8) (N := some 28) (v := ?_) (a' := ?_) #[true, true, true, true, true, true, true, true, true, false, false, true, true, true, false, false, false, false, false, false] rfl rfl (by kernel_rfl) (fun _ _ _ h => h) (Or.inl ⟨by rfl, ?_⟩) ?_ ?_
      rotate_left
      · intro w'
        go_simp
        with_reducible rfl
      rotate_left
      · simp only [Act.put, List.setIfInBounds_toArray, List.set_cons_zero, List.set_cons_succ, i64_w, i32_w]
        rfl
      refine pure_ (i := 9) (N := some 29) (v := ?_) (a' := ?_) #[true, true, true, true, true, true, true, true, true, true, false, true, true, true, false, false, false, false, false, false] rfl rfl (by kernel_rfl) (fun _ _ _ h => h) (Or.inl ⟨by rfl, ?_⟩) ?_ ?_
      rotate_left
      · intro w'
        go_simp
        with_reducible rfl
      rotate_left
      · simp only [Act.put, List.setIfInBounds_toArray, List.set_cons_zero, List.set_cons_succ, i64_w, i32_w]
        rfl
      refine take_ (i := 10) (N := some 30) (v := ?_) (a' := ?_) #[true, true, true, true, true, true, true, true, true, true, true, true, true, true, false, false, false, false, false, false] rfl rfl (by kernel_rfl) (fun _ _ _ h => h) (Or.inl ⟨by rfl, ?_⟩) hHeld ?_ ?_
      rotate_left
      · rintro w' ⟨s0, s1, s2, s3⟩
        go_simp
        with_reducible rfl
      rotate_left
      · simp only [Act.put, List.setIfInBounds_toArray, List.set_cons_zero, List.set_cons_succ, i64_w, i32_w]
        rfl
      refine take_ (i := 14) (N := some 34) (v := ?_) (a' := ?_) #[true, true, true, true, true, true, true, true, true, true, true, true, true, true, true, false, false, false, false, false] rfl rfl (by kernel_rfl) (fun _ _ _ h => h) (Or.inl ⟨by rfl, ?_⟩) hHeld ?_ ?_
      rotate_left
      · rintro w' ⟨s0, s1, s2, s3⟩
        go_simp
        with_reducible rfl
      rotate_left
      · simp only [Act.put, List.setIfInBounds_toArray, List.set_cons_zero, List.set_cons_succ, i64_w, i32_w]
        rfl
      refine pure_ (i := 15) (N := some 35) (v := ?_) (a' := ?_) #[true, true, true, true, true, true, true, true, true, true, true, true, true, true, true, true, false, false, false, false] rfl rfl (by kernel_rfl) (fun _ _ _ h => h) (Or.inl ⟨by rfl, ?_⟩) ?_ ?_
      rotate_left
      · intro w'
        go_simp
        with_reducible rfl
      rotate_left
      · simp only [Act.put, List.setIfInBounds_toArray, List.set_cons_zero, List.set_cons_succ, i64_w, i32_w]
        rfl
      refine pure_ (i := 16) (N := some 36) (v := ?_) (a' := ?_) #[true, true, true, true, true, true, true, true, true, true, true, true, true, true, true, true, true, false, false, false] rfl rfl (by kernel_rfl) (fun _ _ _ h => h) (Or.inl ⟨by rfl, ?_⟩) ?_ ?_
      rotate_left
      · intro w'
        go_simp
        with_reducible rfl
      rotate_left
      · simp only [Act.put, List.setIfInBounds_toArray, List.set_cons_zero, List.set_cons_succ, i64_w, i32_w]
        rfl
      refine pure_ (i := 17) (N := some 37) (v := ?_) (a' := ?_) #[true, true, true, true, true, true, true, true, true, true, true, true, true, true, true, true, true, true, false, false] rfl rfl (by kernel_rfl) (fun _ _ _ h => h) (Or.inl ⟨by rfl, ?_⟩) ?_ ?_
      rotate_left
      · intro w'
        go_simp
        with_reducible rfl
      rotate_left
      · simp only [Act.put, List.setIfInBounds_toArray, List.set_cons_zero, List.set_cons_succ, i64_w, i32_w]
        rfl
      refine pure_ (i := 18) (N := some 38) (v := ?_) (a' := ?_) #[true, true, true, true, true, true, true, true, true, true, true, true, true, true, true, true, true, true, true, false] rfl rfl (by kernel_rfl) (fun _ _ _ h => h) (Or.inl ⟨by rfl, ?_⟩) ?_ ?_
      rotate_left
      · intro w'
        go_simp
        with_reducible rfl
      rotate_left
      · simp only [Act.put, List.setIfInBounds_toArray, List.set_cons_zero, List.set_cons_succ, i64_w, i32_w]
        rfl
      refine last_ (i := 19) (N := none) #[true, true, true, true, true, true, true, true, true, true, true, true, true, true, true, true, true, true, true, true] rfl rfl (by kernel_rfl) (by decide) (fun K hK => ?_)
      refine skip_ (w1 := ?_) (by rfl) rfl ?_ ?_
      rotate_left
      · go_simp
        rfl
      refine hK.out _ _ ?_
      clear hK K
      refine done_ (by kernel_rfl) ?_

      obtain ⟨W5, hW5⟩ : ∃ W5, W5 = (w.setCell ⟨g, q, none⟩ (.int .u8 (bits .or .u8 x y))).drew := ⟨_, rfl⟩
      rw [← hW5]
      have HW5 := AsideWr.mk hW5
      clear hW5 hc0 hc1 e2 e3 hz0' hHeld
      have hPW5 : W5.heap[p]? = some (.cells #[.slice (some ⟨g, 0, none⟩) m cap, .int .i64 n] 47 (0, 0)) := by
        rw [HW5.out]
        exact (Below.heap_setCell _ _ _ _ (fun e => HN.out (by rw [e]; rfl))).trans H.out.cell
      obtain ⟨e0, e1, f0, f1⟩ := wr_cells hPW5
      have HPW5 := AsideWr.mk hPW5
      clear hPW5
      go_wp2
      go_end0
      refine ⟨rfl, ?_⟩
      refine wr_step (m := m) (xs := xs.set q (bits .or .u8 x y)) ?_ H.out.lo HPW5.out ?_ HN.out (by have := H.out.few; omega) (by have := H.out.most; omega) (set_ok H.out.ok _ (or_ok _ _)) _ (by omega)
      · rw [HW5.out]
        exact ((Below.refl B w).setCell (p := ⟨g, q, none⟩) HGB.out _).drew
      · rw [HW5.out]
        exact (own_row_set H.out.own q _).drew
    | false =>
      go_enter Tryz.func89, Tryz.ntmps89
      go_wp2
      go_end0
      refine ⟨rfl, ?_⟩
      exact wr_step (Below.refl _ _) H.out.lo H.out.cell H.out.own H.out.ne (by have := H.out.few; omega) (by have := H.out.most; omega) H.out.ok _ (by omega)

end Go.Proofs.YtkolmgkbdhbmhaaGreatDoor.HT2

namespace Go.Proofs.YtkolmgkbdhbmhaaGreatDoor.HT2
open Go.RowKit Go.Proofs.YtkolmgkbdhbmhaaGreatDoorW.PrintWords Go.Proofs.YtkolmgkbdhbmhaaGreatDoorW.PrintLast Go.Proofs.YtkolmgkbdhbmhaaGreatDoorW.PrintMore
attribute [local go_sem] max2_int min2_int max_two min_two max_three min_three max_four min_four   -- for this text's walks alone
set_option linter.unusedVariables false
set_option linter.unusedSimpArgs false

/-! ### pipe_each: function 88, by hand -/
set_option maxRecDepth 100000 in
set_option maxHeartbeats 2000000 in
theorem pipe_each.gives (B p n m k : Nat) (v : Value) (xs : List Int) (vv : Int) (w : World) (h : Wr w B p n v m xs) (hn : n + k < 1000000) :
    Calls Tryz.prog 88 #[.int .u64 vv, .int .i64 k, .func (.func 89) #[.pointer (some ⟨p, 0, none⟩)] #[]] w fun e w' => e = .returned (.tuple #[]) ∧ Below B w w' ∧ ∃ v' m' xs', Wr w' B p (n + k) v' m' xs' := by
  have H := AsideWr.mk h
  clear h
  go_enter Tryz.func88, Tryz.ntmps88
  go_wp2
  go_loopg [6] k (fun gg s6 wr => ∃ j : Nat, j ≤ k ∧ AsideWr (gg = j) ∧ s6 = .int .i64 ((j : Int) - 1) ∧ AsideWr (Below B w wr) ∧ AsideWr (∃ v' m' xs', Wr wr B p (n + (k - j)) v' m' xs'))
  case atStart => exact ⟨k, Nat.le_refl _, ⟨rfl⟩, rfl, ⟨Below.refl _ _⟩, ⟨_, _, _, by rw [Nat.sub_self]; exact H.out⟩⟩
  case round =>
    obtain ⟨j, hjk, HG, rfl, HB, HW⟩ := hrel
    by_cases hj : j = 0
    · subst hj
      have hneg : ¬ (0 : Int) ≤ ((0 : Nat) : Int) - 1 := by omega
      go_wp2
      go_end0
      exact ⟨rfl, HB.out, by rw [Nat.sub_zero] at HW; exact HW.out⟩
    · obtain ⟨v', m', xs', hW⟩ := HW.out
      have hj1 : (0 : Int) ≤ (j : Int) - 1 := by omega
      have hcall := fun one => pipe_bit.gives B p (n + (k - j)) m' v' xs' one wr hW (by omega)
      clear hW
      go_wp2_with (go_at_call 89; refine (hcall _).mono ?_; rintro e w' ⟨rfl, hb1, hw1⟩)
      go_roundg (j - 1)
      case measure => have := HG.out; omega
      case rel =>
        refine ⟨j - 1, by omega, ⟨rfl⟩, by go_num, ⟨HB.out.trans hb1⟩, ⟨?_⟩⟩
        rw [show n + (k - (j - 1)) = n + (k - j) + 1 by omega]
        exact hw1

end Go.Proofs.YtkolmgkbdhbmhaaGreatDoor.HT2

namespace Go.Proofs.YtkolmgkbdhbmhaaGreatDoor.HT2
open Go.RowKit Go.Proofs.YtkolmgkbdhbmhaaGreatDoorW.PrintWords Go.Proofs.YtkolmgkbdhbmhaaGreatDoorW.PrintLast Go.Proofs.YtkolmgkbdhbmhaaGreatDoorW.PrintMore
attribute [local go_sem] max2_int min2_int max_two min_two max_three min_three max_four min_four   -- for this text's walks alone
set_option linter.unusedVariables false
set_option linter.unusedSimpArgs false

/-! ### head_fields: function 50, by hand -/
structure AsideHf (p : Prop) : Prop where mk :: (out : p)
set_option maxRecDepth 100000 in
set_option maxHeartbeats 2000000 in
theorem head_fields.gives (s : Int) (hs : 0 ≤ s ∧ s < 4294967296) (w : World) :
    Calls Tryz.prog 50 #[.agg #[.int .i64 1, .int .i64 8, .bool false, .int .i64 1, .int .i64 16, .int .i64 0, .int .i64 0, .int .u32 s]] w fun e w' => e = .returned (.agg #[.int .i64 0, .int .i64 3, .int .i64 1, .int .i64 2, .int .i64 0, .int .i64 1, .int .i64 1, .int .i64 24, .int .i64 0, .int .i64 6, .int .i64 0, .int .i64 8, .int .i64 0, .int .i64 21, .int .i64 s, .int .i64 32, .int .i64 0, .int .i64 23]) ∧ Below w.heap.size w w' := by
  go_enter Tryz.func50, Tryz.ntmps50
  go_wp2
  obtain ⟨W, hW⟩ : ∃ W, W = (((w.alloc (Obj.cells #[.int .i64 1, .int .i64 8, .bool false, .int .i64 1, .int .i64 16, .int .i64 0, .int .i64 0, .int .u32 s] 66)).alloc (Obj.cells #[.int .i64 0, .int .i64 0, .int .i64 0, .int .i64 0, .int .i64 0, .int .i64 0, .int .i64 0, .int .i64 0, .int .i64 0, .int .i64 0, .int .i64 0, .int .i64 0, .int .i64 0, .int .i64 0, .int .i64 0, .int .i64 0, .int .i64 0, .int .i64 0] 102)).alloc (Obj.cells #[.int .i64 1, .int .i64 8, .bool false, .int .i64 1, .int .i64 16, .int .i64 0, .int .i64 0] 23)) := ⟨_, rfl⟩
  rw [← hW]
  have s1 : ∀ (u : World) (o : Obj), (u.alloc o).heap.size = u.heap.size + 1 := fun u o => Array.size_push _
  have hb0 : W.heap[w.heap.size]? = some (Obj.cells #[.int .i64 1, .int .i64 8, .bool false, .int .i64 1, .int .i64 16, .int .i64 0, .int .i64 0, .int .u32 s] 66 (0, 0)) := by
    rw [hW, Below.heap_alloc _ _ _ (by rw [s1, s1]; omega), Below.heap_alloc _ _ _ (by rw [s1]; omega)]
    exact heap_alloc_new _ _
  have hb1 : W.heap[w.heap.size + 1]? = some (Obj.cells #[.int .i64 0, .int .i64 0, .int .i64 0, .int .i64 0, .int .i64 0, .int .i64 0, .int .i64 0, .int .i64 0, .int .i64 0, .int .i64 0, .int .i64 0, .int .i64 0, .int .i64 0, .int .i64 0, .int .i64 0, .int .i64 0, .int .i64 0, .int .i64 0] 102 (0, 0)) := by
    rw [hW, Below.heap_alloc _ _ _ (by rw [s1, s1]; omega), ← s1 w (Obj.cells #[.int .i64 1, .int .i64 8, .bool false, .int .i64 1, .int .i64 16, .int .i64 0, .int .i64 0, .int .u32 s] 66)]
    exact heap_alloc_new _ _
  have hb2 : W.heap[w.heap.size + 1 + 1]? = some (Obj.cells #[.int .i64 1, .int .i64 8, .bool false, .int .i64 1, .int .i64 16, .int .i64 0, .int .i64 0] 23 (0, 0)) := by
    rw [hW, ← s1 w (Obj.cells #[.int .i64 1, .int .i64 8, .bool false, .int .i64 1, .int .i64 16, .int .i64 0, .int .i64 0, .int .u32 s] 66), ← s1]
    exact heap_alloc_new _ _
  have HB := AsideHf.mk (show Below w.heap.size w W by
    rw [hW]
    exact (((Below.refl _ w).alloc (Nat.le_refl _) _).alloc (by rw [s1]; omega) _).alloc (by rw [s1, s1]; omega) _)
  clear hW s1
  have H0 := AsideHf.mk hb0
  have H1 := AsideHf.mk hb1
  have H2 := AsideHf.mk hb2
  clear hb0 hb1 hb2
  have HFL := AsideHf.mk (fun W => head_flag.calls false 0 W (by rfl))
  have HL := AsideHf.mk (show w.heap.size ≤ w.heap.size + 1 from Nat.le_succ _)
  generalize w.heap.size + 1 + 1 = g2 at H2 ⊢
  generalize w.heap.size + 1 = g1 at H1 HL ⊢
  obtain ⟨g0, hg0⟩ : ∃ g0, w.heap.size = g0 := ⟨_, rfl⟩
  rw [hg0] at H0 HL HB ⊢
  have HG := AsideHf.mk hg0
  clear hg0
  have hw0 : wrap64 0 = 0 := by unfold wrap64; omega
  have hw1 : wrap64 1 = 1 := by unfold wrap64; omega
  have hws : wrap64 s = s := by unfold wrap64; omega
  refine start_ (n := 33) (S := fun w' => w'.cell? ⟨g2, 0, none⟩ = some (.int .i64 1) ∧ w'.cell? ⟨g2, 1, none⟩ = some (.int .i64 8) ∧ w'.cell? ⟨g2, 2, none⟩ = some (.bool false) ∧ w'.cell? ⟨g2, 3, none⟩ = some (.int .i64 1) ∧ w'.cell? ⟨g2, 4, none⟩ = some (.int .i64 16) ∧ w'.cell? ⟨g2, 5, none⟩ = some (.int .i64 0) ∧ w'.cell? ⟨g2, 6, none⟩ = some (.int .i64 0) ∧ w'.cell? ⟨g0, 7, none⟩ = some (.int .u32 s)) (ds := [32]) #[false, false, false, false, false, false, false, false, false, false, false, false, false, false, false, false, false, false, false, false, false, false, false, false, false, false, false, false, false, false, false, false, false] (by kernel_rfl) rfl rfl ⟨(blk_cell (w := W.drew) H2.out 0).trans rfl, (blk_cell (w := W.drew) H2.out 1).trans rfl, (blk_cell (w := W.drew) H2.out 2).trans rfl, (blk_cell (w := W.drew) H2.out 3).trans rfl, (blk_cell (w := W.drew) H2.out 4).trans rfl, (blk_cell (w := W.drew) H2.out 5).trans rfl, (blk_cell (w := W.drew) H2.out 6).trans rfl, (blk_cell (w := W.drew) H0.out 7).trans rfl⟩ (fun hHeld => ?_)
  refine pure_ (i := 0) (N := some 6) (v := ?_) (a' := ?_) #[true, false, false, false, false, false, false, false, false, false, false, false, false, false, false, false, false, false, false, false, false, false, false, false, false, false, false, false, false, false, false, false, false] rfl rfl (by kernel_rfl) (fun _ _ _ h => h) (Or.inl ⟨by rfl, ?_⟩) ?_ ?_
  rotate_left
  · intro w'
    go_simp
    with_reducible rfl
  rotate_left
  · simp only [Act.put, List.setIfInBounds_toArray, List.set_cons_zero, List.set_cons_succ, i64_w, i32_w]
    rfl
  refine pure_ (i := 4) (N := some 10) (v := ?_) (a' := ?_) #[true, false, false, false, true, false, false, false, false, false, false, false, false, false, false, false, false, false, false, false, false, false, false, false, false, false, false, false, false, false, false, false, false] rfl rfl (by kernel_rfl) (fun _ _ _ h => h) (Or.inl ⟨by rfl, ?_⟩) ?_ ?_
  rotate_left
  · intro w'
    go_simp
    with_reducible rfl
  rotate_left
  · simp only [Act.put, List.setIfInBounds_toArray, List.set_cons_zero, List.set_cons_succ, i64_w, i32_w]
    rfl
  refine pure_ (i := 8) (N := some 14) (v := ?_) (a' := ?_) #[true, false, false, false, true, false, false, false, true, false, false, false, false, false, false, false, false, false, false, false, false, false, false, false, false, false, false, false, false, false, false, false, false] rfl rfl (by kernel_rfl) (fun _ _ _ h => h) (Or.inl ⟨by rfl, ?_⟩) ?_ ?_
  rotate_left
  · intro w'
    go_simp
    with_reducible rfl
  rotate_left
  · simp only [Act.put, List.setIfInBounds_toArray, List.set_cons_zero, List.set_cons_succ, i64_w, i32_w]
    rfl
  refine pure_ (i := 12) (N := some 18) (v := ?_) (a' := ?_) #[true, false, false, false, true, false, false, false, true, false, false, false, true, false, false, false, false, false, false, false, false, false, false, false, false, false, false, false, false, false, false, false, false] rfl rfl (by kernel_rfl) (fun _ _ _ h => h) (Or.inl ⟨by rfl, ?_⟩) ?_ ?_
  rotate_left
  · intro w'
    go_simp
    with_reducible rfl
  rotate_left
  · simp only [Act.put, List.setIfInBounds_toArray, List.set_cons_zero, List.set_cons_succ, i64_w, i32_w]
    rfl
  refine pure_ (i := 15) (N := some 21) (v := ?_) (a' := ?_) #[true, false, false, false, true, false, false, false, true, false, false, false, true, false, false, true, false, false, false, false, false, false, false, false, false, false, false, false, false, false, false, false, false] rfl rfl (by kernel_rfl) (fun _ _ _ h => h) (Or.inl ⟨by rfl, ?_⟩) ?_ ?_
  rotate_left
  · intro w'
    go_simp
    with_reducible rfl
  rotate_left
  · simp only [Act.put, List.setIfInBounds_toArray, List.set_cons_zero, List.set_cons_succ, i64_w, i32_w]
    rfl
  refine pure_ (i := 20) (N := some 26) (v := ?_) (a' := ?_) #[true, false, false, false, true, false, false, false, true, false, false, false, true, false, false, true, false, false, false, false, true, false, false, false, false, false, false, false, false, false, false, false, false] rfl rfl (by kernel_rfl) (fun _ _ _ h => h) (Or.inl ⟨by rfl, ?_⟩) ?_ ?_
  rotate_left
  · intro w'
    go_simp
    with_reducible rfl
  rotate_left
  · simp only [Act.put, List.setIfInBounds_toArray, List.set_cons_zero, List.set_cons_succ, i64_w, i32_w]
    rfl
  refine pure_ (i := 23) (N := some 29) (v := ?_) (a' := ?_) #[true, false, false, false, true, false, false, false, true, false, false, false, true, false, false, true, false, false, false, false, true, false, false, true, false, false, false, false, false, false, false, false, false] rfl rfl (by kernel_rfl) (fun _ _ _ h => h) (Or.inl ⟨by rfl, ?_⟩) ?_ ?_
  rotate_left
  · intro w'
    go_simp
    with_reducible rfl
  rotate_left
  · simp only [Act.put, List.setIfInBounds_toArray, List.set_cons_zero, List.set_cons_succ, i64_w, i32_w]
    rfl
  refine pure_ (i := 26) (N := some 32) (v := ?_) (a' := ?_) #[true, false, false, false, true, false, false, false, true, false, false, false, true, false, false, true, false, false, false, false, true, false, false, true, false, false, true, false, false, false, false, false, false] rfl rfl (by kernel_rfl) (fun _ _ _ h => h) (Or.inl ⟨by rfl, ?_⟩) ?_ ?_
  rotate_left
  · intro w'
    go_simp
    with_reducible rfl
  rotate_left
  · simp only [Act.put, List.setIfInBounds_toArray, List.set_cons_zero, List.set_cons_succ, i64_w, i32_w]
    rfl
  refine pure_ (i := 30) (N := some 36) (v := ?_) (a' := ?_) #[true, false, false, false, true, false, false, false, true, false, false, false, true, false, false, true, false, false, false, false, true, false, false, true, false, false, true, false, false, false, true, false, false] rfl rfl (by kernel_rfl) (fun _ _ _ h => h) (Or.inl ⟨by rfl, ?_⟩) ?_ ?_
  rotate_left
  · intro w'
    go_simp
    with_reducible rfl
  rotate_left
  · simp only [Act.put, List.setIfInBounds_toArray, List.set_cons_zero, List.set_cons_succ, i64_w, i32_w]
    rfl
  refine take_ (i := 1) (N := some 7) (v := ?_) (a' := ?_) #[true, true, false, false, true, false, false, false, true, false, false, false, true, false, false, true, false, false, false, false, true, false, false, true, false, false, true, false, false, false, true, false, false] rfl rfl (by kernel_rfl) (fun _ _ _ h => h) (Or.inl ⟨by rfl, ?_⟩) hHeld ?_ ?_
  rotate_left
  · rintro w' ⟨s0, s1, s2, s3, s4, s5, s6, s7⟩
    go_simp
    with_reducible rfl
  rotate_left
  · simp only [Act.put, List.setIfInBounds_toArray, List.set_cons_zero, List.set_cons_succ, i64_w, i32_w]
    rfl
  refine pure_ (i := 2) (N := some 8) (v := ?_) (a' := ?_) #[true, true, true, false, true, false, false, false, true, false, false, false, true, false, false, true, false, false, false, false, true, false, false, true, false, false, true, false, false, false, true, false, false] rfl rfl (by kernel_rfl) (fun _ _ _ h => h) (Or.inl ⟨by rfl, ?_⟩) ?_ ?_
  rotate_left
  · intro w'
    go_simp
    with_reducible rfl
  rotate_left
  · simp only [Act.put, List.setIfInBounds_toArray, List.set_cons_zero, List.set_cons_succ, i64_w, i32_w]
    rfl
  refine pure_ (i := 3) (N := some 9) (v := ?_) (a' := ?_) #[true, true, true, true, true, false, false, false, true, false, false, false, true, false, false, true, false, false, false, false, true, false, false, true, false, false, true, false, false, false, true, false, false] rfl rfl (by kernel_rfl) (fun _ _ _ h => h) (Or.inl ⟨by rfl, ?_⟩) ?_ ?_
  rotate_left
  · intro w'
    go_simp
    with_reducible rfl
  rotate_left
  · simp only [Act.put, List.setIfInBounds_toArray, List.set_cons_zero, List.set_cons_succ, i64_w, i32_w]
    rfl
  refine take_ (i := 5) (N := some 11) (v := ?_) (a' := ?_) #[true, true, true, true, true, true, false, false, true, false, false, false, true, false, false, true, false, false, false, false, true, false, false, true, false, false, true, false, false, false, true, false, false] rfl rfl (by kernel_rfl) (fun _ _ _ h => h) (Or.inl ⟨by rfl, ?_⟩) hHeld ?_ ?_
  rotate_left
  · rintro w' ⟨s0, s1, s2, s3, s4, s5, s6, s7⟩
    go_simp
    with_reducible rfl
  rotate_left
  · simp only [Act.put, List.setIfInBounds_toArray, List.set_cons_zero, List.set_cons_succ, i64_w, i32_w]
    rfl
  refine pure_ (i := 6) (N := some 12) (v := ?_) (a' := ?_) #[true, true, true, true, true, true, true, false, true, false, false, false, true, false, false, true, false, false, false, false, true, false, false, true, false, false, true, false, false, false, true, false, false] rfl rfl (by kernel_rfl) (fun _ _ _ h => h) (Or.inl ⟨by rfl, ?_⟩) ?_ ?_
  rotate_left
  · intro w'
    go_simp
    with_reducible rfl
  rotate_left
  · simp only [Act.put, List.setIfInBounds_toArray, List.set_cons_zero, List.set_cons_succ, i64_w, i32_w]
    rfl
  refine pure_ (i := 7) (N := some 13) (v := ?_) (a' := ?_) #[true, true, true, true, true, true, true, true, true, false, false, false, true, false, false, true, false, false, false, false, true, false, false, true, false, false, true, false, false, false, true, false, false] rfl rfl (by kernel_rfl) (fun _ _ _ h => h) (Or.inl ⟨by rfl, ?_⟩) ?_ ?_
  rotate_left
  · intro w'
    go_simp
    with_reducible rfl
  rotate_left
  · simp only [Act.put, List.setIfInBounds_toArray, List.set_cons_zero, List.set_cons_succ, i64_w, i32_w]
    rfl
  refine take_ (i := 9) (N := some 15) (v := ?_) (a' := ?_) #[true, true, true, true, true, true, true, true, true, true, false, false, true, false, false, true, false, false, false, false, true, false, false, true, false, false, true, false, false, false, true, false, false] rfl rfl (by kernel_rfl) (fun _ _ _ h => h) (Or.inl ⟨by rfl, ?_⟩) hHeld ?_ ?_
  rotate_left
  · rintro w' ⟨s0, s1, s2, s3, s4, s5, s6, s7⟩
    go_simp
    with_reducible rfl
  rotate_left
  · simp only [Act.put, List.setIfInBounds_toArray, List.set_cons_zero, List.set_cons_succ, i64_w, i32_w]
    rfl
  refine take_ (i := 13) (N := some 19) (v := ?_) (a' := ?_) #[true, true, true, true, true, true, true, true, true, true, false, false, true, true, false, true, false, false, false, false, true, false, false, true, false, false, true, false, false, false, true, false, false] rfl rfl (by kernel_rfl) (fun _ _ _ h => h) (Or.inl ⟨by rfl, ?_⟩) hHeld ?_ ?_
  rotate_left
  · rintro w' ⟨s0, s1, s2, s3, s4, s5, s6, s7⟩
    go_simp
    with_reducible rfl
  rotate_left
  · simp only [Act.put, List.setIfInBounds_toArray, List.set_cons_zero, List.set_cons_succ, i64_w, i32_w]
    rfl
  refine pure_ (i := 14) (N := some 20) (v := ?_) (a' := ?_) #[true, true, true, true, true, true, true, true, true, true, false, false, true, true, true, true, false, false, false, false, true, false, false, true, false, false, true, false, false, false, true, false, false] rfl rfl (by kernel_rfl) (fun _ _ _ h => h) (Or.inl ⟨by rfl, ?_⟩) ?_ ?_
  rotate_left
  · intro w'
    go_simp
    with_reducible rfl
  rotate_left
  · simp only [Act.put, List.setIfInBounds_toArray, List.set_cons_zero, List.set_cons_succ, i64_w, i32_w]
    rfl
  refine take_ (i := 16) (N := some 22) (v := ?_) (a' := ?_) #[true, true, true, true, true, true, true, true, true, true, false, false, true, true, true, true, true, false, false, false, true, false, false, true, false, false, true, false, false, false, true, false, false] rfl rfl (by kernel_rfl) (fun _ _ _ h => h) (Or.inl ⟨by rfl, ?_⟩) hHeld ?_ ?_
  rotate_left
  · rintro w' ⟨s0, s1, s2, s3, s4, s5, s6, s7⟩
    go_simp
    with_reducible rfl
  rotate_left
  · simp only [Act.put, List.setIfInBounds_toArray, List.set_cons_zero, List.set_cons_succ, i64_w, i32_w]
    rfl
  refine pure_ (i := 17) (N := some 23) (v := ?_) (a' := ?_) #[true, true, true, true, true, true, true, true, true, true, false, false, true, true, true, true, true, true, false, false, true, false, false, true, false, false, true, false, false, false, true, false, false] rfl rfl (by kernel_rfl) (fun _ _ _ h => h) (Or.inl ⟨by rfl, ?_⟩) ?_ ?_
  rotate_left
  · intro w'
    go_simp
    with_reducible rfl
  rotate_left
  · simp only [Act.put, List.setIfInBounds_toArray, List.set_cons_zero, List.set_cons_succ, i64_w, i32_w]
    rfl
  refine pure_ (i := 18) (N := some 24) (v := ?_) (a' := ?_) #[true, true, true, true, true, true, true, true, true, true, false, false, true, true, true, true, true, true, true, false, true, false, false, true, false, false, true, false, false, false, true, false, false] rfl rfl (by kernel_rfl) (fun _ _ _ h => h) (Or.inl ⟨by rfl, ?_⟩) ?_ ?_
  rotate_left
  · intro w'
    go_simp
    with_reducible rfl
  rotate_left
  · simp only [Act.put, List.setIfInBounds_toArray, List.set_cons_zero, List.set_cons_succ, i64_w, i32_w]
    rfl
  refine pure_ (i := 19) (N := some 25) (v := ?_) (a' := ?_) #[true, true, true, true, true, true, true, true, true, true, false, false, true, true, true, true, true, true, true, true, true, false, false, true, false, false, true, false, false, false, true, false, false] rfl rfl (by kernel_rfl) (fun _ _ _ h => h) (Or.inl ⟨by rfl, ?_⟩) ?_ ?_
  rotate_left
  · intro w'
    go_simp
    with_reducible rfl
  rotate_left
  · simp only [Act.put, List.setIfInBounds_toArray, List.set_cons_zero, List.set_cons_succ, i64_w, i32_w]
    rfl
  refine take_ (i := 21) (N := some 27) (v := ?_) (a' := ?_) #[true, true, true, true, true, true, true, true, true, true, false, false, true, true, true, true, true, true, true, true, true, true, false, true, false, false, true, false, false, false, true, false, false] rfl rfl (by kernel_rfl) (fun _ _ _ h => h) (Or.inl ⟨by rfl, ?_⟩) hHeld ?_ ?_
  rotate_left
  · rintro w' ⟨s0, s1, s2, s3, s4, s5, s6, s7⟩
    go_simp
    with_reducible rfl
  rotate_left
  · simp only [Act.put, List.setIfInBounds_toArray, List.set_cons_zero, List.set_cons_succ, i64_w, i32_w]
    rfl
  refine pure_ (i := 22) (N := some 28) (v := ?_) (a' := ?_) #[true, true, true, true, true, true, true, true, true, true, false, false, true, true, true, true, true, true, true, true, true, true, true, true, false, false, true, false, false, false, true, false, false] rfl rfl (by kernel_rfl) (fun _ _ _ h => h) (Or.inl ⟨by rfl, ?_⟩) ?_ ?_
  rotate_left
  · intro w'
    go_simp
    with_reducible rfl
  rotate_left
  · simp only [Act.put, List.setIfInBounds_toArray, List.set_cons_zero, List.set_cons_succ, i64_w, i32_w]
    rfl
  refine take_ (i := 24) (N := some 30) (v := ?_) (a' := ?_) #[true, true, true, true, true, true, true, true, true, true, false, false, true, true, true, true, true, true, true, true, true, true, true, true, true, false, true, false, false, false, true, false, false] rfl rfl (by kernel_rfl) (fun _ _ _ h => h) (Or.inl ⟨by rfl, ?_⟩) hHeld ?_ ?_
  rotate_left
  · rintro w' ⟨s0, s1, s2, s3, s4, s5, s6, s7⟩
    go_simp
    with_reducible rfl
  rotate_left
  · simp only [Act.put, List.setIfInBounds_toArray, List.set_cons_zero, List.set_cons_succ, i64_w, i32_w]
    rfl
  refine pure_ (i := 25) (N := some 31) (v := ?_) (a' := ?_) #[true, true, true, true, true, true, true, true, true, true, false, false, true, true, true, true, true, true, true, true, true, true, true, true, true, true, true, false, false, false, true, false, false] rfl rfl (by kernel_rfl) (fun _ _ _ h => h) (Or.inl ⟨by rfl, ?_⟩) ?_ ?_
  rotate_left
  · intro w'
    go_simp
    with_reducible rfl
  rotate_left
  · simp only [Act.put, List.setIfInBounds_toArray, List.set_cons_zero, List.set_cons_succ, i64_w, i32_w]
    rfl
  refine take_ (i := 27) (N := some 33) (v := ?_) (a' := ?_) #[true, true, true, true, true, true, true, true, true, true, false, false, true, true, true, true, true, true, true, true, true, true, true, true, true, true, true, true, false, false, true, false, false] rfl rfl (by kernel_rfl) (fun _ _ _ h => h) (Or.inl ⟨by rfl, ?_⟩) hHeld ?_ ?_
  rotate_left
  · rintro w' ⟨s0, s1, s2, s3, s4, s5, s6, s7⟩
    go_simp
    with_reducible rfl
  rotate_left
  · simp only [Act.put, List.setIfInBounds_toArray, List.set_cons_zero, List.set_cons_succ, i64_w, i32_w]
    rfl
  refine pure_ (i := 28) (N := some 34) (v := ?_) (a' := ?_) #[true, true, true, true, true, true, true, true, true, true, false, false, true, true, true, true, true, true, true, true, true, true, true, true, true, true, true, true, true, false, true, false, false] rfl rfl (by kernel_rfl) (fun _ _ _ h => h) (Or.inl ⟨by rfl, ?_⟩) ?_ ?_
  rotate_left
  · intro w'
    go_simp
    with_reducible rfl
  rotate_left
  · simp only [Act.put, List.setIfInBounds_toArray, List.set_cons_zero, List.set_cons_succ, i64_w, i32_w]
    rfl
  refine pure_ (i := 29) (N := some 35) (v := ?_) (a' := ?_) #[true, true, true, true, true, true, true, true, true, true, false, false, true, true, true, true, true, true, true, true, true, true, true, true, true, true, true, true, true, true, true, false, false] rfl rfl (by kernel_rfl) (fun _ _ _ h => h) (Or.inl ⟨by rfl, ?_⟩) ?_ ?_
  rotate_left
  · intro w'
    go_simp
    with_reducible rfl
  rotate_left
  · simp only [Act.put, List.setIfInBounds_toArray, List.set_cons_zero, List.set_cons_succ, i64_w, i32_w]
    rfl
  refine one_ (i := 10) (N := some 16) #[true, true, true, true, true, true, true, true, true, true, true, false, true, true, true, true, true, true, true, true, true, true, true, true, true, true, true, true, true, true, true, false, false] rfl rfl (by kernel_rfl) (by decide) (fun K hK => ?_)
  refine goes_ Tryz.func87 (by kernel_rfl) rfl #[.bool false] (by rfl) rfl rfl (by simp only [List.map_toArray, List.map_cons, List.map_nil]; rfl) ?_
  with_reducible refine (HFL.out _).mono ?_
  rintro e wF ⟨rfl, ⟨nF, rfl⟩⟩
  refine ⟨_, rfl, ?_⟩
  refine hK.out _ _ ⟨(blk_cell (w := W.drew.drewN nF) H2.out 0).trans rfl, (blk_cell (w := W.drew.drewN nF) H2.out 1).trans rfl, (blk_cell (w := W.drew.drewN nF) H2.out 2).trans rfl, (blk_cell (w := W.drew.drewN nF) H2.out 3).trans rfl, (blk_cell (w := W.drew.drewN nF) H2.out 4).trans rfl, (blk_cell (w := W.drew.drewN nF) H2.out 5).trans rfl, (blk_cell (w := W.drew.drewN nF) H2.out 6).trans rfl, (blk_cell (w := W.drew.drewN nF) H0.out 7).trans rfl⟩ (fun hHeld => ?_)
  clear hK K
  refine norm_ (a' := ?_) ?_ ?_
  rotate_left
  · show Act.put _ (some 16) _ = _
    simp only [Act.put, List.setIfInBounds_toArray, List.set_cons_zero, List.set_cons_succ, i64_w, i32_w]
    rfl
  refine pure_ (i := 11) (N := some 17) (v := ?_) (a' := ?_) #[true, true, true, true, true, true, true, true, true, true, true, true, true, true, true, true, true, true, true, true, true, true, true, true, true, true, true, true, true, true, true, false, false] rfl rfl (by kernel_rfl) (fun _ _ _ h => h) (Or.inl ⟨by rfl, ?_⟩) ?_ ?_
  rotate_left
  · intro w'
    go_simp
    with_reducible rfl
  rotate_left
  · simp only [Act.put, List.setIfInBounds_toArray, List.set_cons_zero, List.set_cons_succ, i64_w, i32_w]
    rfl
  refine pure_ (i := 31) (N := some 37) (v := ?_) (a' := ?_) #[true, true, true, true, true, true, true, true, true, true, true, true, true, true, true, true, true, true, true, true, true, true, true, true, true, true, true, true, true, true, true, true, false] rfl rfl (by kernel_rfl) (fun _ _ _ h => h) (Or.inl ⟨by rfl, ?_⟩) ?_ ?_
  rotate_left
  · intro w'
    go_simp
    with_reducible rfl
  rotate_left
  · simp only [Act.put, List.setIfInBounds_toArray, List.set_cons_zero, List.set_cons_succ, i64_w, i32_w]
    rfl
  refine last_ (i := 32) (N := none) #[true, true, true, true, true, true, true, true, true, true, true, true, true, true, true, true, true, true, true, true, true, true, true, true, true, true, true, true, true, true, true, true, true] rfl rfl (by kernel_rfl) (by decide) (fun K hK => ?_)
  rw [if_pos (by rfl)]
  refine wp_store_row (w := W.drew.drewN nF) 102 _ _ rfl g1 #[.int .i64 0, .int .i64 3, .int .i64 1, .int .i64 2, .int .i64 0, .int .i64 1, .int .i64 1, .int .i64 24, .int .i64 0, .int .i64 6, .int .i64 0, .int .i64 8, .int .i64 0, .int .i64 21, .int .i64 s, .int .i64 32, .int .i64 0, .int .i64 23] rfl rfl _ _ H1.out (by kernel_rfl) rfl (by simp [Value.oneCell']) ?_
  show K { tmps := _, defers := _ } _
  refine hK.out _ _ ?_
  clear hK K
  refine done_ (by kernel_rfl) ?_

  clear hHeld
  go_wp2
  refine bodyPost_ret (results_cell_row rfl _ _ g1 102 #[.int .i64 0, .int .i64 3, .int .i64 1, .int .i64 2, .int .i64 0, .int .i64 1, .int .i64 1, .int .i64 24, .int .i64 0, .int .i64 6, .int .i64 0, .int .i64 8, .int .i64 0, .int .i64 21, .int .i64 s, .int .i64 32, .int .i64 0, .int .i64 23] (0, 0) _ rfl (setRow_heap _ _ _ _ _ _ H1.out) Tryz.underlying102 rfl (by kernel_rfl)) rfl ⟨rfl, ?_⟩
  rw [HG.out]
  exact HB.out.trans ⟨rfl, rfl, rfl, by rw [size_setRow]; exact Nat.le_refl _, fun k hk => setRow_other _ _ _ _ (by have := HL.out; omega)⟩

end Go.Proofs.YtkolmgkbdhbmhaaGreatDoor.HT2

namespace Go.Proofs.YtkolmgkbdhbmhaaGreatDoor.HT2
open Go.RowKit Go.Proofs.YtkolmgkbdhbmhaaGreatDoorW.PrintWords Go.Proofs.YtkolmgkbdhbmhaaGreatDoorW.PrintLast Go.Proofs.YtkolmgkbdhbmhaaGreatDoorW.PrintMore
attribute [local go_sem] max2_int min2_int max_two min_two max_three min_three max_four min_four   -- for this text's walks alone
set_option linter.unusedVariables false
set_option linter.unusedSimpArgs false

/-! ### stream_units: function 27, by hand -/
structure AsideUn (p : Prop) : Prop where mk :: (out : p)
set_option maxRecDepth 100000 in
set_option maxHeartbeats 4000000 in
theorem stream_units.gives (v : Value) (w : World) :
    Calls Tryz.prog 27 #[.agg #[.int .i64 1, .int .i64 8, .bool false, .int .i64 1, .int .i64 16, .int .i64 0, .int .i64 0], v] w fun e w' => e = .returned (.slice none 0 0) ∧ Below w.heap.size w w' := by
  go_enter Tryz.func27, Tryz.ntmps27
  go_wp2
  go_ret
  exact ⟨rfl, (Below.refl _ w).alloc (Nat.le_refl _) _⟩

end Go.Proofs.YtkolmgkbdhbmhaaGreatDoor.HT2

namespace Go.Proofs.YtkolmgkbdhbmhaaGreatDoor.HT2
open Go.RowKit Go.Proofs.YtkolmgkbdhbmhaaGreatDoorW.PrintWords Go.Proofs.YtkolmgkbdhbmhaaGreatDoorW.PrintLast Go.Proofs.YtkolmgkbdhbmhaaGreatDoorW.PrintMore
attribute [local go_sem] max2_int min2_int max_two min_two max_three min_three max_four min_four   -- for this text's walks alone
set_option linter.unusedVariables false
set_option linter.unusedSimpArgs false

/-! ### slices_Concat_byte_byte: function 28, by hand -/
structure AsideK (p : Prop) : Prop where mk :: (out : p)
set_option maxHeartbeats 2000000 in
theorem grow_nil (n : Nat) (hn : n ≤ 1000000000) (w : World) : Calls Tryz.prog 56 #[.slice none 0 0, .int .i64 (n : Int)] w fun e w' => ∃ v0_ : Value, e = .returned (v0_) ∧ Kd.R (Kd.int .u8) 5 w' w.heap.size (fun _ => True) v0_ [] ∧ Below w.heap.size w w' := by
  have hinfo : ((Tryz.prog).info? 5).map (fun i => (i.zero, i.size, i.bytes)) = some (some (.int .u8 0), 1, 1) := by kernel_rfl
  have HI := AsideK.mk hinfo
  clear hinfo
  by_cases h0 : n = 0
  · subst h0
    go_enter Tryz.func56, Tryz.ntmps56
    go_wp2
    go_ret
    exact ⟨_, rfl, Kd.R_nil _ _ _ _ _, Below.refl _ _⟩
  · have hpos : (0 : Int) < (n : Int) := by omega
    have hnn : (0 : Int) ≤ (n : Int) := by omega
    have hl8 : (([] : List Int).length + (n : Int).toNat) * 1 ≤ 140737488355328 := by simp; omega
    have HNN := AsideK.mk hnn
    have HL8 := AsideK.mk hl8
    clear hnn hl8
    go_enter Tryz.func56, Tryz.ntmps56
    go_wp2_with ((with_reducible refine gate_builtin (b := .append) (xs := #[.tmp 20, .tmp 21]) rfl ?_); at_builtin; refine Kd.R_append_zeros (Kd.int .u8) (w0 := w) w.heap.size rfl (.tmp 20) (.tmp 21) 32 3 5 (.int .u8 0) 1 rfl Tryz.underlying32 Tryz.underlying3 HI.out rfl (by decide) (by decide) (.slice none 0 0) ([] : List Int) (0 : Int) (n : Int) (fun _ => True) rfl rfl rfl (fun _ _ => trivial) (Kd.R_nil _ _ _ _ _) HNN.out (Below.refl _ _) (Nat.le_refl _) HL8.out ?_; intro v1 w1 hR hb hg hat; obtain ⟨A1, c1, e1⟩ := Kd.R_slice hR; rw [List.nil_append, List.length_replicate, Int.toNat_natCast] at e1; subst e1; have HR1 := AsideK.mk hR; have HB1 := AsideK.mk hb; clear hR hb hg hat)
    go_ret
    exact ⟨_, rfl, Kd.R_take (m := 0) HR1.out (Nat.zero_le _), HB1.out⟩
theorem row_atB {e : Nat} {w : World} {A : Option Addr} {n : Nat} {xs : List (List Int)} (h : Kd.C (Kd.slice e (Kd.int .u8)) w A n xs) (i : Nat) (hi : i < xs.length) : ∃ ad A' c, A = some ad ∧ w.cell? (ad.add i) = some (.slice A' xs[i].length c) ∧ xs[i].length ≤ c ∧ Kd.C (Kd.int .u8) w A' xs[i].length xs[i] := by
  obtain ⟨ad, e, hc⟩ := h.2.2 (by have := h.1; omega)
  obtain ⟨c, hs, hr, hcell⟩ := hc i _ (List.getElem?_eq_getElem hi)
  obtain ⟨A', cc, rfl, hl, hC⟩ := hr
  refine ⟨ad, A', cc, e, ?_, hl, hC⟩
  have h1 := hcell 0 _ rfl
  rw [show i * (Kd.slice _ (Kd.int .u8)).sz + 0 = i by show i * 1 + 0 = i; omega] at h1
  exact h1
def slices_Concat_byte_byte.f (l0 : List (List Int)) : Option (List Int) := if l0.length ≤ 1000 ∧ (∀ x ∈ l0, x.length ≤ 1000000) then some l0.flatten else none
theorem flat_take (l : List (List Int)) (j : Nat) (h : j < l.length) : (l.take (j + 1)).flatten = (l.take j).flatten ++ l[j] := by rw [List.take_succ_eq_append_getElem h, List.flatten_append]; simp
theorem flat_le (l : List (List Int)) (h : ∀ x ∈ l, x.length ≤ 1000000) : l.flatten.length ≤ l.length * 1000000 := by
  induction l with
  | nil => simp
  | cons x l ih =>
    have h1 := h x (by simp)
    have h2 := ih (fun y hy => h y (List.mem_cons_of_mem _ hy))
    rw [List.flatten_cons, List.length_append, List.length_cons, Nat.succ_mul]; omega
set_option maxRecDepth 100000 in
set_option maxHeartbeats 1000000 in
theorem slices_Concat_byte_byte.calls (A0 : Option Addr) (c0 : Nat) (l0 : List (List Int)) (r : List Int) (w : World) (hr0 : Kd.C (Kd.slice 5 (Kd.int .u8)) w A0 l0.length l0) (hc0 : l0.length ≤ c0) (h : slices_Concat_byte_byte.f l0 = some r) :
    Calls Tryz.prog 28 #[.slice A0 l0.length c0] w fun e w' => ∃ v0_ : Value, e = .returned (v0_) ∧ Kd.R (Kd.int .u8) 5 w' w.heap.size (fun _ => True) v0_ r ∧ Below w.heap.size w w' := by
  unfold slices_Concat_byte_byte.f at h
  split at h
  · rename_i hb
    obtain rfl := Option.some.inj h
    obtain ⟨hb1, hb2⟩ := hb
    have HLE := AsideK.mk hb2
    have HFL : ∀ j, j ≤ l0.length → (l0.take j).flatten.length ≤ 1000000000 := fun j hj => by
      have := flat_le (l0.take j) (fun x hx => hb2 x (List.mem_of_mem_take hx))
      rw [List.length_take] at this
      have h2 : min j l0.length * 1000000 ≤ 1000 * 1000000 := Nat.mul_le_mul_right _ (by omega)
      omega
    have HF := AsideK.mk HFL
    have HR := AsideK.mk hr0
    clear h hb2 hr0 HFL
    have hinfo : ((Tryz.prog).info? 5).map (fun i => (i.zero, i.size, i.bytes)) = some (some (.int .u8 0), 1, 1) := by kernel_rfl
    have HI := AsideK.mk hinfo
    clear hinfo
    obtain ⟨n, hn⟩ : ∃ n, l0.length = n := ⟨_, rfl⟩
    have HN := AsideK.mk hn
    rw [hn] at hb1 hc0 ⊢
    clear hn
    go_enter Tryz.func28, Tryz.ntmps28
    go_wp2
    go_loopg [3, 11] n (fun gg v3 v11 w' => ∃ j : Nat, v3 = .int .i64 (((l0.take j).flatten.length : Nat) : Int) ∧ v11 = .int .i64 (j : Int) ∧ AsideK (j ≤ n) ∧ AsideK (n - j ≤ gg) ∧ AsideK (Below w.heap.size w w'))
    case atStart => exact ⟨0, rfl, rfl, ⟨Nat.zero_le _⟩, ⟨by omega⟩, ⟨Below.refl _ _⟩⟩
    case round =>
      obtain ⟨j, rfl, rfl, HJ, HGG, HBr⟩ := hrel
      by_cases hlt : j < n
      · have hltz : (j : Int) < (n : Int) := by omega
        have hjl : j < l0.length := by have := HN.out; omega
        obtain ⟨ad, A', c', rfl, hcj, hle, hC⟩ := row_atB HR.out j hjl
        replace hcj := pw_cell_below HBr.out hcj
        have hf0 := HF.out j (by omega)
        have hf1 := HF.out (j + 1) (by omega)
        have hft := flat_take l0 j hjl
        rw [hft, List.length_append] at hf1
        have HT2 := AsideK.mk (show (l0.take (j + 1)).flatten.length = (l0.take j).flatten.length + l0[j].length by rw [hft, List.length_append])
        clear hft hC
        generalize (l0.take j).flatten.length = m at *
        generalize l0[j].length = nj at *
        go_wp2
        go_roundg (n - (j + 1))
        case measure => have := HGG.out; omega
        case rel => exact ⟨j + 1, by rw [HT2.out]; go_num, by go_num, ⟨by omega⟩, ⟨by have := HGG.out; omega⟩, ⟨HBr.out⟩⟩
      · have hltz : ¬ (j : Int) < (n : Int) := by omega
        have hjn : j = n := by have := HJ.out; omega
        have hgl := HF.out j (by have := HN.out; omega)
        have HG := AsideK.mk (fun W => grow_nil (l0.take j).flatten.length hgl W)
        clear hgl hjn
        generalize (l0.take j).flatten.length = m at *
        go_wp2_with (go_at_call 56; refine (HG.out _).mono ?_; rintro e w2 ⟨v6, rfl, ho, hb⟩; have HO := AsideK.mk (Kd.R_lower ho (below_size HBr.out)); have HB2 := AsideK.mk (below_step HBr.out hb); clear ho hb)
        clear HBr
        go_loopg [6, 27] n (fun gg v6 v27 w' => ∃ j : Nat, v27 = .int .i64 (j : Int) ∧ AsideK (j ≤ n) ∧ AsideK (n - j ≤ gg) ∧ AsideK (Kd.R (Kd.int .u8) 5 w' w.heap.size (fun _ => True) v6 (l0.take j).flatten) ∧ AsideK (Below w.heap.size w w'))
        case atStart => exact ⟨0, rfl, ⟨Nat.zero_le _⟩, ⟨by omega⟩, ⟨HO.out⟩, ⟨HB2.out⟩⟩
        case round =>
          obtain ⟨i, rfl, HJ2, HGG2, HOr, HBr⟩ := hrel
          clear HO HB2
          by_cases hlt2 : i < n
          · have hltz2 : (i : Int) < (n : Int) := by omega
            have hil : i < l0.length := by have := HN.out; omega
            obtain ⟨ad, A', c', rfl, hcj, hle, hC⟩ := row_atB HR.out i hil
            replace hcj := pw_cell_below HBr.out hcj
            have HCi := AsideK.mk (Kd.C_below hC HBr.out)
            have hf1 := HF.out (i + 1) (by omega)
            have hft := flat_take l0 i hil
            rw [hft, List.length_append] at hf1
            have HT2 := AsideK.mk hft
            have hl9 : ((l0.take i).flatten.length + l0[i].length) * 1 ≤ 140737488355328 := by omega
            have HL9 := AsideK.mk hl9
            have hX : ∃ x, l0[i] = x := ⟨_, rfl⟩
            obtain ⟨x, hx⟩ := hX
            rw [hx] at hcj HCi HT2 HL9
            clear hx hft hC hle hf1 hl9
            obtain ⟨nx, hnx⟩ : ∃ nx, x.length = nx := ⟨_, rfl⟩
            rw [hnx] at hcj HCi HL9
            clear hnx
            go_wp2_with ((with_reducible refine gate_builtin (b := .append) (xs := #[.tmp 31, .tmp 32]) rfl ?_); at_builtin; refine Kd.R_append_rows (Kd.int .u8) (w0 := w) w.heap.size rfl (.tmp 31) (.tmp 32) 32 5 (.int .u8 0) 1 rfl Tryz.underlying32 HI.out rfl (by decide) (by decide) u6 (l0.take i).flatten x _ _ _ (fun _ => True) (fun _ => False) rfl rfl HOr.out HCi.out (fun _ _ h => h) (fun _ h => h.elim) (fun _ _ => trivial) HBr.out HBr.out.size HL9.out ?_; intro v9 w9 hR9 hb9 hg9 hat9; have HR9 := AsideK.mk hR9; have HB9 := AsideK.mk hb9; clear hR9 hb9 hg9 hat9)
            go_roundg (n - (i + 1))
            case measure => have := HGG2.out; omega
            case rel => exact ⟨i + 1, by go_num, ⟨by omega⟩, ⟨by have := HGG2.out; omega⟩, ⟨by rw [HT2.out]; exact HR9.out⟩, ⟨HB9.out⟩⟩
          · have hltz2 : ¬ (i : Int) < (n : Int) := by omega
            have hin : i = n := by have := HJ2.out; omega
            have HFN := AsideK.mk (show (l0.take i).flatten = l0.flatten by rw [List.take_of_length_le (by have := HN.out; omega)])
            clear hin
            go_wp2
            go_ret
            exact ⟨_, rfl, by rw [← HFN.out]; exact HOr.out, HBr.out⟩
  · cases h

end Go.Proofs.YtkolmgkbdhbmhaaGreatDoor.HT2

